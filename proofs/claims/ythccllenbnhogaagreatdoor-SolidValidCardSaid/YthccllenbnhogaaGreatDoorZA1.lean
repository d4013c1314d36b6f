/- Valid records and points: the proof of SolidValidCardSaid (the law's function answers true at every record and vector; theorem solidValid_card, last part), part 1 of 7; no condition. -/
import Derived.WalkKit
import Derived.Orders
import Derived.KernelRfl
import Derived.Deep.MidRow
import Derived.Below
import Derived.OwnWalk
import Derived.OwnWalkIn
import Derived.OrdersIn
import Derived.LoopNIn
import Derived.TacticsIn
import Derived.LoopN
import Derived.DeepKeys
import Derived.RangeFuncLeaves
import Derived.RangeFuncSeq
import Derived.Lib.SliceRun
import Derived.Shelf.SlSortCmp.WholeK
import Derived.OpenShut
import Derived.ProofKit
import Derived.Carry
import Derived.ChangeOld
import Derived.Deep.DeepHandedRow
import Derived.Test.YthccllenbnhogaaGreatDoorProg
namespace Go.Proofs.YthccllenbnhogaaGreatDoor
open Go Go.RowKit Tryz
abbrev p_:=Array Value
abbrev m_:=Operand
abbrev l_:=List Nat
abbrev j_:=Program
abbrev i_:=Value
abbrev h_:=World
abbrev f_:=List (Int×List Int)
abbrev b_:=Value.bool true
abbrev a_:=Value.bool false
variable{i j size e d cc N n2 len n1 A U:Nat}{w w':h_}{x:m_}{ty:TypeId}{α β:Type}{fn:Func}{u v' va res:i_}{P:j_}{look:Nat->Value}{Q:Ending->World->Prop}{cur:p_}
theorem k_{p:Prop}(h:p:=by kernel_rfl):p:=h
theorem o_{p:Prop}(h:p:=by omega):p:=h
theorem d_{p:Prop}(h:p:=by decide):p:=h
theorem n_{p:Prop}(h:p:=by nofun):p:=h
theorem s_{p:Prop}(h:p:=by simp):p:=h
abbrev yn:=@Go.Addr.add_mid
abbrev D2:=@Array.ext'
abbrev aAO:=@Array.foldl_toList
abbrev pF:=@Array.getD_eq_getD_getElem?
abbrev aCm:=@Array.getElem?_append_left
abbrev yt:=@Array.getElem?_eq_getElem
abbrev XZ:=@Array.getElem?_eq_none
abbrev wG:=@Array.getElem?_eq_some_iff
abbrev Xu:=@Array.getElem?_modify
abbrev Q3:=@Array.getElem?_setIfInBounds_ne
abbrev yi:=@Array.length_toList
abbrev Mb:=@Array.mem_toList_iff
abbrev xn:=@Array.toArray_toList
abbrev Hz:=@Array.toList_eq_nil_iff
abbrev vf:=@Array.toList_inj
abbrev aGR:=@Array.toList_setIfInBounds
abbrev cY:=@Bool.and_eq_true
abbrev MP:=@Bool.and_false
abbrev zo:=@Bool.and_self
abbrev iM:=@Bool.and_true
abbrev FE:=@Bool.eq_false_iff
abbrev yG:=@Bool.false_and
abbrev Nw:=@Bool.false_bne
abbrev ui:=@Bool.false_eq_true
abbrev wQ:=@Bool.false_or
abbrev OZ:=@Bool.not_eq_true
abbrev yr:=@Bool.not_eq_true'
abbrev MO:=@Bool.not_false
abbrev Jl:=@Bool.not_true
abbrev Mf:=@Bool.or_eq_false_iff
abbrev rH:=@Bool.or_eq_true
abbrev kX:=@Bool.true_and
abbrev Nx:=@Bool.true_bne
abbrev Gj:=@Bool.true_or
abbrev jo:=@Classical.byContradiction
abbrev Ew:=@Classical.not_not
abbrev aFT:=@Go.DataW.trod_struct
abbrev aPQ:=@Go.Proofs.AnyQ.slices_SortFunc
abbrev QP:=@Go.RowKit.Below.heap_alloc
abbrev UY:=@Go.Sort.size_flatK
abbrev ZZ:=@Int.add_mul_ediv_right
abbrev aN4:=@Int.add_mul_emod_self_left
abbrev NP:=@Int.ediv_mul_cancel
abbrev Ti:=@Int.eq_of_mul_eq_mul_right
abbrev rO:=@Int.fdiv_eq_ediv_of_nonneg
abbrev NJ:=@Int.lt_trichotomy
abbrev K1:=@Int.mul_assoc
abbrev SV:=@Int.mul_comm
abbrev CQ:=@Int.mul_ne_zero
abbrev G3:=@Int.mul_neg
abbrev Tr:=@Int.mul_pos
abbrev aAm:=@Int.natAbs_add_le
abbrev aJG:=@Int.natAbs_ediv_le_natAbs
abbrev xd:=@Int.natAbs_mul
abbrev AY:=@Int.natAbs_natCast
abbrev JC:=@Int.natAbs_neg
abbrev vt:=@Int.natCast_add
abbrev te:=@Int.natCast_ediv
abbrev Vj:=@Int.natCast_emod
abbrev nM:=@Int.natCast_mul
abbrev GK:=@Int.natCast_pow
abbrev G2:=@Int.neg_mul
abbrev JD:=@Int.neg_neg
abbrev Ny:=@Int.one_mul
abbrev GJ:=@Int.pow_nonneg
abbrev aJz:=@Int.sign_eq_neg_one_iff_neg
abbrev EK:=@Int.sign_eq_neg_one_of_neg
abbrev aAd:=@Int.sign_eq_one_iff_pos
abbrev yO:=@Int.sign_eq_one_of_pos
abbrev aJA:=@Int.sign_eq_zero_iff_zero
abbrev Az:=@Int.tdiv_eq_ediv_of_nonneg
abbrev yJ:=@Int.tmod_eq_emod_of_nonneg
abbrev dU:=@Go.IntKind.wrap_i64
abbrev nr:=@Go.IntKind.wrap_u32
abbrev jQ:=@Go.IntKind.wrap_u64
abbrev Zr:=@Go.IntKind.wrap_u8
abbrev aBM:=@List.Pairwise.nil
abbrev eY:=@List.all_cons
abbrev Is:=@List.all_eq_false
abbrev aY:=@List.all_eq_true
abbrev fO:=@List.all_nil
abbrev I2:=@List.any_eq_false
abbrev rF:=@List.any_eq_true
abbrev B8:=@List.append_assoc
abbrev gY:=@List.append_nil
abbrev GD:=@List.cons_append
abbrev MT:=@List.drop_drop
abbrev aBS:=@List.drop_eq_getElem_cons
abbrev QR:=@List.drop_left'
abbrev lW:=@List.drop_zero
abbrev kA:=@List.eq_nil_of_length_eq_zero
abbrev wK:=@List.ext_getElem
abbrev Sn:=@List.ext_getElem?
abbrev Wa:=@List.filter_append
abbrev Mk:=@List.filter_cons
abbrev Kz:=@List.flatMap_append
abbrev O7:=@List.foldl_append
abbrev vi:=@List.foldl_cons
abbrev aBD:=@List.foldl_nil
abbrev S3:=@List.foldr_cons
abbrev S2:=@List.foldr_nil
abbrev D7:=@List.getD_eq_getElem?_getD
abbrev I1:=@List.getElem?_append_left
abbrev D8:=@List.getElem?_append_right
abbrev DZ:=@List.getElem?_drop
abbrev aW:=@List.getElem?_eq_getElem
abbrev yj:=@List.getElem?_eq_none
abbrev Zd:=@List.getElem?_eq_none_iff
abbrev eB:=@List.getElem?_eq_some_iff
abbrev u9:=@List.getElem?_map
abbrev XB:=@List.getElem?_of_mem
abbrev KB:=@List.getElem?_range
abbrev tV:=@List.getElem?_take
abbrev Ce:=@List.getElem_map
abbrev dK:=@List.getElem_mem
abbrev kN:=@List.getElem_of_mem
abbrev Cf:=@List.getElem_range
abbrev Gq:=@List.getElem_set
abbrev Wi:=@List.getElem_take
abbrev Oz:=@List.getLast?_cons_cons
abbrev jM:=@List.length_append
abbrev nL:=@List.length_cons
abbrev u7:=@List.length_drop
abbrev aEj:=@List.length_filter_le
abbrev fk:=@List.length_map
abbrev Ar:=@List.length_range
abbrev HX:=@List.length_replicate
abbrev FO:=@List.length_reverse
abbrev Vq:=@List.length_set
abbrev KA:=@List.length_singleton
abbrev jn:=@List.length_take
abbrev I9:=@List.mapM_cons
abbrev Tt:=@List.mapM_nil
abbrev wj:=@List.map_append
abbrev wD:=@List.map_congr_left
abbrev qE:=@List.map_cons
abbrev M8:=@List.map_nil
abbrev Cd:=@List.map_take
abbrev eA:=@List.mem_append
abbrev uA:=@List.mem_append_left
abbrev vA:=@List.mem_append_right
abbrev b9:=@List.mem_cons
abbrev bw:=@List.mem_cons_of_mem
abbrev aL:=@List.mem_cons_self
abbrev aEi:=@List.mem_filter
abbrev XS:=@List.mem_filterMap
abbrev Bt:=@List.mem_flatMap
abbrev de:=@List.mem_map
abbrev cN:=@List.mem_of_getElem?
abbrev V7:=@List.mem_of_mem_drop
abbrev Fo:=@List.mem_of_mem_take
abbrev kk:=@List.mem_range
abbrev Km:=@List.mem_reverse
abbrev xu:=@List.mem_singleton
abbrev jy:=@List.nil_append
abbrev fv:=@List.not_mem_nil
abbrev sj:=@List.pairwise_cons
abbrev Lh:=@List.pairwise_iff_getElem
abbrev aBs:=@List.pairwise_reverse
abbrev aBq:=@List.pairwise_singleton
abbrev JZ:=@List.range_succ
abbrev vC:=@List.reverse_cons
abbrev aBr:=@List.reverse_eq_nil_iff
abbrev UH:=@List.set_append_right
abbrev L8:=@List.size_toArray
abbrev sA:=@List.take_add_one
abbrev aBR:=@List.take_append
abbrev KQ:=@List.take_append_drop
abbrev QU:=@List.take_left
abbrev QQ:=@List.take_left'
abbrev mN:=@List.take_length
abbrev j0:=@List.take_of_length_le
abbrev L6:=@List.take_take
abbrev Sb:=@List.take_zero
abbrev tX:=@Nat.add_assoc
abbrev mF:=@Nat.add_comm
abbrev J2:=@Nat.add_le_add
abbrev Lq:=@Nat.add_le_add_right
abbrev Jw:=@Nat.add_mod_right
abbrev fp:=@Nat.add_mul
abbrev Jf:=@Nat.add_mul_div_left
abbrev oY:=@Nat.add_mul_div_right
abbrev Er:=@Nat.add_mul_mod_self_left
abbrev CB:=@Nat.add_mul_mod_self_right
abbrev Na:=@Nat.add_sub_cancel
abbrev EB:=@Nat.add_sub_cancel_left
abbrev ja:=@Nat.add_zero
abbrev MN:=@Nat.and_lt_two_pow
abbrev Eh:=@Nat.beq_refl
abbrev Q5:=@Nat.ble_eq_true_of_le
abbrev yu:=@Nat.blt_eq
abbrev jf:=@Nat.div_add_mod
abbrev kE:=@Nat.div_div_eq_div_mul
abbrev lV:=@Nat.div_eq_of_lt
abbrev tf:=@Nat.div_le_self
abbrev iv:=@Nat.div_lt_iff_lt_mul
abbrev YC:=@Nat.div_lt_self
abbrev CE:=@Nat.div_mul_le_self
abbrev Ey:=@Nat.div_one
abbrev Ng:=@Nat.div_pos
abbrev Hn:=@Nat.dvd_gcd
abbrev JW:=@Nat.dvd_of_mod_eq_zero
abbrev CO:=@Nat.dvd_trans
abbrev QJ:=@Nat.eq_of_beq_eq_true
abbrev aJF:=@Nat.eq_of_mul_eq_mul_right
abbrev nq:=@Nat.eq_zero_or_pos
abbrev G4:=@Nat.gcd_comm
abbrev AX:=@Nat.gcd_dvd_left
abbrev Th:=@Nat.gcd_dvd_right
abbrev aAu:=@Nat.gcd_le_left
abbrev Tw:=@Nat.gcd_zero_left
abbrev SR:=@Nat.gcd_zero_right
abbrev Jr:=@Nat.le_add_right
abbrev Zl:=@Nat.le_antisymm
abbrev CD:=@Nat.le_div_iff_mul_le
abbrev UR:=@Nat.le_mul_of_pos_left
abbrev Ez:=@Nat.le_mul_of_pos_right
abbrev pB:=@Nat.le_of_ble_eq_true
abbrev u4:=@Nat.le_of_eq
abbrev jD:=@Nat.le_of_lt
abbrev Oh:=@Nat.le_of_not_lt
abbrev bh:=@Nat.le_refl
abbrev yq:=@Nat.le_succ
abbrev Ns:=@Nat.le_total
abbrev dc:=@Nat.le_trans
abbrev ZL:=@Nat.log2_self_le
abbrev eX:=@Nat.lt_of_le_of_lt
abbrev cC:=@Nat.lt_of_lt_of_le
abbrev aIz:=@Nat.lt_of_mul_lt_mul_right
abbrev eU:=@Nat.lt_or_ge
abbrev Eb:=@Nat.lt_or_gt_of_ne
abbrev GL:=@Nat.lt_succ_self
abbrev lD:=@Nat.lt_trans
abbrev sO:=@Nat.lt_trichotomy
abbrev aDi:=@Nat.max_eq_left
abbrev aDh:=@Nat.max_eq_right
abbrev nh:=@Nat.min_eq_left
abbrev Vm:=@Nat.min_eq_right
abbrev dJ:=@Nat.mod_eq_of_lt
abbrev Jg:=@Nat.mod_le
abbrev cE:=@Nat.mod_lt
abbrev MD:=@Nat.mod_mul
abbrev Ay:=@Nat.mod_mul_right_div_self
abbrev Jo:=@Nat.mod_mul_right_mod
abbrev s9:=@Nat.mod_one
abbrev Tf:=@Nat.mod_two_eq_zero_or_one
abbrev oz:=@Nat.mul_add
abbrev fK:=@Nat.mul_assoc
abbrev cK:=@Nat.mul_comm
abbrev RG:=@Nat.mul_div_cancel
abbrev ZI:=@Nat.mul_div_mul_right
abbrev Cr:=@Nat.mul_le_mul
abbrev jq:=@Nat.mul_le_mul_left
abbrev eZ:=@Nat.mul_le_mul_right
abbrev mG:=@Nat.mul_left_comm
abbrev pJ:=@Nat.mul_lt_mul''
abbrev ZJ:=@Nat.mul_lt_mul_of_lt_of_le
abbrev YG:=@Nat.mul_lt_mul_of_pos_left
abbrev AJ:=@Nat.mul_lt_mul_of_pos_right
abbrev JV:=@Nat.mul_mod
abbrev YF:=@Nat.mul_mod_left
abbrev ZH:=@Nat.mul_mod_mul_right
abbrev gn:=@Nat.mul_one
abbrev qJ:=@Nat.mul_pos
abbrev AM:=@Nat.mul_right_comm
abbrev MG:=@Nat.mul_succ
abbrev Jv:=@Nat.not_lt
abbrev pK:=@Nat.one_mul
abbrev YP:=@Nat.or_lt_two_pow
abbrev s8:=@Nat.pos_of_ne_zero
abbrev eh:=@Nat.pow_add
abbrev ZU:=@Nat.pow_le_pow_left
abbrev c7:=@Nat.pow_le_pow_right
abbrev rQ:=@Nat.pow_mul
abbrev Cw:=@Nat.pow_one
abbrev cF:=@Nat.pow_pos
abbrev dr:=@Nat.pow_succ
abbrev rP:=@Nat.pow_zero
abbrev EL:=@Nat.sub_le
abbrev vo:=@Nat.sub_self
abbrev Gl:=@Nat.sub_zero
abbrev ug:=@Nat.succ_mul
abbrev SD:=@Nat.succ_pos
abbrev X1:=@Nat.testBit_or
abbrev MS:=@Nat.two_pow_add_eq_or_of_lt
abbrev YO:=@Nat.xor_lt_two_pow
abbrev jL:=@Nat.zero_add
abbrev kB:=@Nat.zero_le
abbrev lB:=@Nat.zero_mul
abbrev mB:=@Ne.symm
abbrev LX:=@Go.Oper.semAt_eq
abbrev aFX:=@Option.bind_eq_some_iff
abbrev XU:=@Option.bind_some
abbrev aAW:=@Option.map_none
abbrev QM:=@Option.map_some
abbrev Tl:=@Rat.divInt_add_divInt
abbrev AZ:=@Rat.divInt_eq_div
abbrev EX:=@Rat.div_def
abbrev aAe:=@Rat.div_mul_cancel
abbrev NT:=@Rat.intCast_add
abbrev CN:=@Rat.intCast_mul
abbrev aAp:=@Rat.intCast_sub
abbrev Hm:=@Rat.mul_inv_cancel
abbrev Te:=@Rat.mul_pos
abbrev aAl:=@Rat.num_divInt_den
abbrev IM:=@Go.Sem.run_bind
abbrev MU:=@UInt8.toNat_inj
abbrev M5:=@UInt8.toNat_ofNat'
abbrev TN:=@Go.World.putObj_heap_other
abbrev qS:=@Go.World.putObj_size
abbrev qH:=@bne_iff_ne
abbrev ch:=@congrArg
abbrev oW:=@decide_eq_decide
abbrev aO:=@decide_eq_false
abbrev Y5:=@decide_eq_false_iff_not
abbrev aC:=@decide_eq_true
abbrev rI:=@decide_eq_true_eq
abbrev qU:=@decide_eq_true_iff
abbrev BB:=@getElem!_pos
abbrev XH:=@Go.grownCap_le_maxLen
abbrev uj:=@if_false
abbrev al:=@if_neg
abbrev au:=@if_pos
abbrev qx:=@if_true
abbrev AV:=@of_decide_eq_false
abbrev jh:=@of_decide_eq_true
abbrev fA:=@or_false
abbrev Ei:=@Go.roundsIn_succ
abbrev iZ:=@Go.run_underlying
abbrev L4:=@Go.size_zeroCells
abbrev I5:=@Go.wpIn_block
abbrev Rq:=@Go.wpIn_loop_rounds
abbrev lT:=@Go.wpIn_seq
def lP(a:Addr):Bool:=match a.spot with|some _=>false|none=>true
def oR:Value->Bool
 |.pointer (some a)=>lP a
 |.slice (some a) _ _=>lP a
 |.agg _=>false
 |.tuple _=>false
 |.func _ _ _=>false
 |_=>true
def oS:Value->Bool
 |.func _ fi ca=>fi.toList.all oR&&ca.toList.all oR
 |v=>oR v
def qw:Value->Bool
 |.agg cs=>cs.toList.all oS
 |v=>oS v
def flat:Value->Bool
 |.tuple vs=>vs.toList.all qw
 |v=>qw v
inductive bL{α β:Type}(R:α->β->Prop):List α->List β->Prop
 |nil:bL R [] []
 |cons {a b l m}:R a b->bL R l m->bL R (a::l) (b::m)
inductive pw where
 |at (b o cap:Nat)
 |nil
 |val (v:i_)
variable{m a:Nat}
abbrev Map:=Nat->Option pw
variable{ι κ av:Map}
def Map.le(ι κ:Map):Prop:=∀ k l,ι k=some l->κ k=some l
theorem Map.le.refl(ι:Map):Map.le ι ι:=λ_ _ h=>h
theorem Map.le.trans{a b c:Map}(h:Map.le a b)(k:Map.le b c):Map.le a c:=λi l e=>k i l (h i l e)
inductive aH(ι:Map):Value->Value->Prop
 |same {v}:flat v=true->aH ι v v
 |ptr {k off b o cap}:ι k=some (.at b o cap)->aH ι (.pointer (some ⟨k,off,some 7⟩)) (.pointer (some ⟨b,o+off,none⟩))
 |slc {k off b o n c c' cap}:ι k=some (.at b o cap)->n<=c'->c+c'=cap->aH ι (.slice (some ⟨k,off,some 7⟩) n c) (.slice (some ⟨b,o+off,none⟩) n c')
 |slcN {k}:ι k=some .nil->aH ι (.slice (some ⟨k,0,some 7⟩) 0 0) (.slice none 0 0)
 |opq {k v}:ι k=some (.val v)->v.cells=#[v]->v.oneCell'=true->aH ι (.pointer (some ⟨k,0,some 9⟩)) v
 |fn {f fi jK ca gC}:bL (aH ι) fi jK->bL (aH ι) ca gC->aH ι (.func f fi.toArray ca.toArray) (.func f jK.toArray gC.toArray)
 |agg {cs bY}:bL (aH ι) cs bY->aH ι (.agg cs.toArray) (.agg bY.toArray)
 |tup {vs cL}:bL (aH ι) vs cL->aH ι (.tuple vs.toArray) (.tuple cL.toArray)
theorem bL.imp{R R':α->β->Prop}:∀{l:List α} {m:List β},bL R l m->(∀ a∈l,∀ b,R a b->R' a b)->bL R' l m
 |_,_,.nil,_=>.nil
 |_,_,.cons h t,k=>.cons (k _ (aL ..) _ h) (t.imp λa ha=>k a (bw _ ha))
variable{k b off cap:Nat}{o:Oper}{f:FuncId}
theorem bL.length{R:α->β->Prop}:∀{l:List α} {m:List β},bL R l m->l.length=m.length
 |_,_,.nil=>rfl
 |_,_,.cons _ t=>by simp[t.length]
theorem bL.get{R:α->β->Prop}:∀{l:List α} {m:List β},bL R l m->∀(i:Nat) a,l[i]?=some a->∃ b,m[i]?=some b/\R a b
 |_,_,.nil,i,a,h=>by simp at h
 |_,_,.cons h t,0,a,e=>⟨_,rfl,by simp at e;exact e▸h⟩
 |_,_,.cons _ t,i+1,a,e=>by simpa using t.get i a (by simpa using e)
theorem bL.get'{R:α->β->Prop}:∀{l:List α} {m:List β},bL R l m->∀(i:Nat) b,m[i]?=some b->∃ a,l[i]?=some a/\R a b
 |_,_,.nil,i,a,h=>by simp at h
 |_,_,.cons h t,0,a,e=>⟨_,rfl,by simp at e;exact e▸h⟩
 |_,_,.cons _ t,i+1,a,e=>by simpa using t.get' i a (by simpa using e)
theorem bL.set{R:α->β->Prop}{a:α}{b:β}(h:R a b):∀{l:List α} {m:List β},bL R l m->∀(i:Nat),bL R (l.set i a) (m.set i b)
 |_,_,.nil,i=>by simpa using .nil
 |_,_,.cons _ t,0=>.cons h t
 |_,_,.cons k t,i+1=>.cons k (t.set h i)
theorem bL.append{R:α->β->Prop}:∀{l:List α} {m:List β},bL R l m->∀{l' m'},bL R l' m'->bL R (l++l') (m++m')
 |_,_,.nil,_,_,h=>h
 |_,_,.cons k t,_,_,h=>.cons k (t.append h)
theorem bL.take{R:α->β->Prop}:∀{l:List α} {m:List β},bL R l m->∀(n:Nat),bL R (l.take n) (m.take n)
 |_,_,.nil,n=>by simpa using .nil
 |_,_,.cons k t,0=>.nil
 |_,_,.cons k t,n+1=>.cons k (t.take n)
theorem bL.drop{R:α->β->Prop}:∀{l:List α} {m:List β},bL R l m->∀(n:Nat),bL R (l.drop n) (m.drop n)
 |_,_,.nil,n=>by simpa using .nil
 |_,_,.cons k t,0=>.cons k t
 |_,_,.cons k t,n+1=>t.drop n
theorem QI{v:i_}(h:oS v=true):flat v=true:=by cases v<;>first|exact h|(simp[oS,oR]at h)
theorem Xn{v:i_}(h:oR v=true):oS v=true:=by cases v<;>first|exact h|(simp[oR]at h)
theorem aGq{v:i_}(h:qw v=true):flat v=true:=by cases v<;>first|exact h|(simp[qw,oS,oR]at h)
theorem Xo{cs:p_}(h:flat (.agg cs)=true):∀ c∈cs.toList,flat c=true:=by simp only[flat,qw,aY]at h;exact λc hc=>QI (h c hc)
theorem aGr{cs:p_}(h:flat (.tuple cs)=true):∀ c∈cs.toList,flat c=true:=by simp only[flat,aY]at h;exact λc hc=>aGq (h c hc)
theorem Xp{f:Fn}{fi ca:p_}(h:flat (.func f fi ca)=true):(∀ c∈fi.toList,flat c=true)/\(∀ c∈ca.toList,flat c=true):=by simp only[flat,qw,oS,cY,aY]at h;exact⟨λc hc=>QI (Xn (h.1 c hc)),λc hc=>QI (Xn (h.2 c hc))⟩
abbrev ah:=List Value
variable{xs args vs ca cells' args' ew pre post:ah}
theorem ky{ι:Map}:∀{l:ah},(∀ c∈l,flat c=true)->bL (aH ι) l l
 |[],_=>.nil
 |c::l,h=>.cons (.same (h c (aL ..))) (ky λc hc=>h c (bw _ hc))
theorem aH.fh{v:i_}(h:aH ι v v')(hf:flat v=true):v'=v:=by
 suffices H:∀ v v',aH ι v v'->flat v=true->v'=v from H v v' h hf
 have hP:∀ v v',aH ι v v'->oR v=true->v'=v:=by
  intro v v' h hf;cases h with
  |same _=>rfl
  |_=>simp[oR,lP]at hf
 have tQ:∀(Q:Value->Bool),(∀ v v',aH ι v v'->Q v=true->v'=v)->∀ l l',bL (aH ι) l l'->(∀ c∈l,Q c=true)->l'=l:=by
  intro Q hQ l l' h;induction h with
  |nil=>intro _;rfl
  |cons h t ih=>
   intro hl;rw[hQ _ _ h (hl _ (aL ..)),ih λc hc=>hl c (bw _ hc)]
 have h0:∀ v v',aH ι v v'->oS v=true->v'=v:=by
  intro v v' h hf;cases h with
  |same _=>rfl
  |fn h1 h2=>
   simp only[oS,cY,aY]at hf;rw[tQ oR hP _ _ h1 hf.1,tQ oR hP _ _ h2 hf.2]
  |_=>simp[oS,oR,lP]at hf
 have h1:∀ v v',aH ι v v'->qw v=true->v'=v:=by
  intro v v' h hf;cases h with
  |same _=>rfl
  |fn a b=>exact h0 _ _ (.fn a b) hf
  |agg h1=>
   simp only[qw,aY]at hf;rw[tQ oS h0 _ _ h1 hf]
  |_=>simp[qw,oS,oR,lP]at hf
 intro v v' h hf;cases h with
 |same _=>rfl
 |fn a b=>exact h0 _ _ (.fn a b) hf
 |agg a=>exact h1 _ _ (.agg a) hf
 |tup a=>
  simp only[flat,aY]at hf;rw[tQ qw h1 _ _ a hf]
 |_=>simp[flat,qw,oS,oR,lP]at hf
theorem aH.mono(hle:Map.le ι κ){v:i_}(h:aH ι v v'):aH κ v v':=by
 apply aH.rec (motive_1:=λv v' _=>aH κ v v') (motive_2:=λl l' _=>bL (aH κ) l l') (t:=h)
 case same=>intro v h;exact .same h
 case ptr=>intro k off b o cap h;exact .ptr (hle _ _ h)
 case slc=>intro k off b o n c c' cap h h1 h2;exact .slc (hle _ _ h) h1 h2
 case slcN=>intro k h;exact .slcN (hle _ _ h)
 case opq=>intro k v h h1 h2;exact .opq (hle _ _ h) h1 h2
 case fn=>intro f fi jK ca gC _ _ h1 h2;exact .fn h1 h2
 case agg=>intro cs bY _ h;exact .agg h
 case tup=>intro cs bY _ h;exact .tup h
 case nil=>exact .nil
 case cons=>intro a b l m _ _ h1 h2;exact .cons h1 h2
theorem mY(hle:Map.le ι κ){l l':ah}(h:bL (aH ι) l l'):bL (aH κ) l l':=h.imp λ_ _ _ h=>h.mono hle
def mr(a:Addr):Bool:=match a.spot with|some s=>Nat.beq s 7|none=>false
theorem Ga{a:Addr}(h:mr a=true):a.spot=some 7:=by
 unfold mr at h;split at h
 ·rename_i s hs;rw[hs,QJ h]
 ·cases h
theorem LV{a:Addr}(h:mr a=true):lP a=false:=by unfold lP;rw[Ga h]
theorem aH.uX{a:Addr}(h:aH ι (.pointer (some a)) v')(ho:mr a=true):∃ b o cap,ι a.block=some (.at b o cap)/\v'=.pointer (some ⟨b,o+a.off,none⟩):=by
 cases h with
 |same hf=>simp[flat,qw,oS,oR,LV ho]at hf
 |ptr hb=>exact⟨_,_,_,hb,rfl⟩
 |opq _ _ _=>cases ho
theorem aH.gR{a:Addr}{n c:Nat}(h:aH ι (.slice (some a) n c) v')(ho:mr a=true):
  (ι a.block=some .nil/\n=0/\c=0/\a.off=0/\v'=.slice none 0 0)\/∃ b o cap c',ι a.block=some (.at b o cap)/\n<=c'/\c+c'=cap/\v'=.slice (some ⟨b,o+a.off,none⟩) n c':=by
 cases h with
 |same hf=>simp[flat,qw,oS,oR,LV ho]at hf
 |slc hb h1 h2=>exact .inr ⟨_,_,_,_,hb,h1,h2,rfl⟩
 |slcN hb=>exact .inl ⟨hb,rfl,rfl,rfl,rfl⟩
theorem aH.bool{b:Bool}(h:aH ι (.bool b) v'):v'=.bool b:=h.fh rfl
theorem aH.tS{vs:p_}(h:aH ι (.tuple vs) v'):∃ cL,v'=.tuple cL/\bL (aH ι) vs.toList cL.toList:=by
 cases h with
 |same hf=>exact⟨vs,rfl,ky (aGr hf)⟩
 |tup h=>exact⟨_,rfl,by simpa using h⟩
theorem aH.Gb{vs:p_}(h:aH ι (.agg vs) v'):∃ cL,v'=.agg cL/\bL (aH ι) vs.toList cL.toList:=by
 cases h with
 |same hf=>exact⟨vs,rfl,ky (Xo hf)⟩
 |agg h=>exact⟨_,rfl,by simpa using h⟩
theorem aH.z7{f:Fn}{fi ca:p_}(h:aH ι (.func f fi ca) v'):∃ jK gC,v'=.func f jK gC/\bL (aH ι) fi.toList jK.toList/\bL (aH ι) ca.toList gC.toList:=by
 cases h with
 |same hf=>exact⟨fi,ca,rfl,ky (Xp hf).1,ky (Xp hf).2⟩
 |fn h1 h2=>exact⟨_,_,rfl,by simpa using h1,by simpa using h2⟩
theorem aH.cells{ι:Map}{v v':i_}(h:aH ι v v'):bL (aH ι) v.cells.toList v'.cells.toList:=by
 cases h with
 |same hf=>
  apply ky;cases v<;>first|(intro c hc;simp[Value.cells]at hc;subst hc;exact hf)|exact Xo hf
 |ptr hb=>exact .cons (.ptr hb) .nil
 |slc hb h1 h2=>exact .cons (.slc hb h1 h2) .nil
 |slcN hb=>exact .cons (.slcN hb) .nil
 |opq hb h1 h2=>rw[h1];exact .cons (.opq hb h1 h2) .nil
 |fn a b=>exact .cons (.fn a b) .nil
 |agg h=>simpa[Value.cells]using h
 |tup h=>exact .cons (.tup h) .nil
theorem aH.Xq{v:i_}(h:aH ι v v'):v'.oneCell'=v.oneCell':=by
 cases h with
 |opq _ _ h=>rw[h];rfl
 |_=>rfl
def Gc:Value:=.tuple #[.tuple #[]]
def mw:Value->Bool
 |.tuple vs=>match vs.toList with|[.tuple us]=>Nat.beq us.size 0|_=>false
 |_=>false
def nJ(ι:Map)(v v':i_):Prop:=mw v=true\/aH ι v v'
theorem nJ.z8{v:i_}(h:nJ ι v v')(hn:mw v=false):aH ι v v':=by
 rcases h with h|h
 ·rw[hn]at h;cases h
 ·exact h
theorem nJ.mono(hle:Map.le ι κ){v:i_}(h:nJ ι v v'):nJ κ v v':=h.imp id (aH.mono hle)
def sS(w w':h_):Prop:=w'.os=w.os/\w.drawn<=w'.drawn
theorem sS.refl(w:h_):sS w w:=⟨rfl,bh _⟩
theorem sS.trans{a b c:h_}(h:sS b c)(k:sS a b):sS a c:=⟨h.1.trans k.1,dc k.2 h.2⟩
structure Below(B:Nat)(w w':h_):Prop where
 os:sS w w'
 tape:w'.tape=w.tape
 output:w'.output=w.output
 size:w.heap.size<=w'.heap.size
 block:∀ k,k<B->w'.heap[k]?=w.heap[k]?
theorem Below.IH{B:Nat}(h:Below B w w'):Go.RowKit.Below B w w':=⟨h.os.1,h.tape,h.output,h.size,h.block⟩
theorem Below.refl(B:Nat)(w:h_):Below B w w:=⟨.refl w,rfl,rfl,bh _,λ_ _=>rfl⟩
theorem Below.cell{B:Nat}(h:Below B w w'){p:Addr}(hp:p.block<B):w'.cell? p=w.cell? p:=h.IH.cell hp
theorem Below.alloc{B:Nat}{a:h_}(h:Below B a w)(hB:B<=w.heap.size)(o:Go.Obj):Below B a (w.alloc o):=
 have k:=h.IH.alloc hB o
 ⟨⟨k.os,h.os.2⟩,k.tape,k.output,k.size,k.block⟩
structure Fact where
 G:Value->World->Prop
 cM:Value->World->Nat->Prop
 lt:∀ v w k,G v w->cM v w k->k<w.heap.size
 dep:∀ v w w',G v w->w.heap.size<=w'.heap.size->(∀ k,cM v w k->w'.heap[k]?=w.heap[k]?)->G v w'/\∀ k,cM v w' k->cM v w k
 rc:Bool:=false
 soft:rc=false->∀ v w w',G v w->w.heap.size<=w'.heap.size->(∀ k,cM v w k->∀ cs ty f,w.heap[k]?=some (Go.Obj.cells cs ty f)->w'.heap[k]?=some (Go.Obj.cells cs ty f))->G v w'/\∀ k,cM v w' k->cM v w k
variable{F:Fact}
structure ae where
 G:World->Prop
 cM:Nat->Prop
 ds:List Deferred:=[]
 Fa:Fact->Prop:=λ_=>False
 mp:Map:=λ_=>none
 lt:∀ w k,G w->cM k->k<w.heap.size
 dep:∀ w w',G w->sS w w'->w'.tape=w.tape->w'.output=w.output->w.heap.size<=w'.heap.size->(∀ k,cM k->w'.heap[k]?=w.heap[k]?)->G w'
variable{B Bs:ae}
def ae.at(w0:h_):ae where
 G w:=Below w0.heap.size w0 w
 cM k:=k<w0.heap.size
 lt w k h hk:=cC hk h.size
 dep w w' h h1 h2 h3 h4 h5:=⟨h1.trans h.os,h2.trans h.tape,h3.trans h.output,dc h.size h4,λk hk=>(h5 k hk).trans (h.block k hk)⟩
inductive Obj where
 |aI (cells:ah) (ty:TypeId)
 |row (cells:ah) (ty:TypeId) (size:Nat)
 |view (cells:ah)
 |fact (F:Fact)
 |dead
variable{c:Nat->Option Obj}{need:List (Nat×Option Obj)}
def Obj.owns:Obj->Bool
 |.aI _ _=>true
 |.row _ _ _=>true
 |_=>false
def iC(ι:Map)(w:h_)(l:pw):Obj->Prop
 |.aI cells ty=>∃ b bY,l=.at b 0 0/\bL (aH ι) cells bY/\w.heap[b]?=some (.cells bY.toArray ty (0,0))
 |.row cells ty size=>(l=.nil/\cells=[])\/∃ b cap cur,l=.at b 0 cap/\w.heap[b]?=some (.cells cur ty (0,0))/\cap<=maxLen/\cur.size=cap*size/\bL (aH ι) cells (cur.toList.take cells.length)
 |.view cells=>(l=.nil/\cells=[])\/∃ b o cap bY,l=.at b o cap/\bL (aH ι) cells bY/\∀ j u,bY[j]?=some u->w.cell? ⟨b,o+j,none⟩=some u
 |.fact F=>∃ v,l=.val v/\F.G v w
 |.dead=>True
def Obj.jv:Obj->Bool
 |.view _=>true
 |_=>false
structure aJ(B:ae)(ι:Map)(c:Nat->Option Obj)(w:h_):Prop where
 base:B.G w
 dw:∀ k,c k=none->ι k=none
 born:∀ k x,c k=some x->∃ l,ι k=some l/\iC ι w l x
 own:∀ k x b o cap,c k=some x->x.owns=true->ι k=some (.at b o cap)->b<w.heap.size/\¬B.cM b
 inj:∀ k j x y b o cap o' bj,c k=some x->x.owns=true->c j=some y->y.owns=true->ι k=some (.at b o cap)->ι j=some (.at b o' bj)->k=j
 apart:∀ k j x F b o cap v,c k=some x->x.owns=true->ι k=some (.at b o cap)->c j=some (.fact F)->ι j=some (.val v)->¬F.cM v w b
 seen:∀ k x b o cap,c k=some x->x.jv=true->ι k=some (.at b o cap)->b<w.heap.size/\∀ j y o' bj,c j=some y->y.owns=true->ι j≠some (.at b o' bj)
 fa:∀ j F,c j=some (.fact F)->F.rc=true->B.Fa F
 one:∀ j k F F',c j=some (.fact F)->c k=some (.fact F')->F.rc=true->F'.rc=true->j=k
 rC:Map.le B.mp ι
theorem iC.mono(hle:Map.le ι κ){l:pw}{x:Obj}(h:iC ι w l x):iC κ w l x:=by
 cases x with
 |aI cells ty=>obtain⟨b,bY,h1,h2,h3⟩:=h;exact⟨b,bY,h1,mY hle h2,h3⟩
 |row cells ty size=>
  rcases h with h|⟨b,cap,cur,h1,h2,h3,h4,h5⟩
  ·exact .inl h
  ·exact .inr ⟨b,cap,cur,h1,h2,h3,h4,mY hle h5⟩
 |view cells=>
  rcases h with h|⟨b,o,cap,bY,h1,h2,h3⟩
  ·exact .inl h
  ·exact .inr ⟨b,o,cap,bY,h1,mY hle h2,h3⟩
 |fact F=>exact h
 |dead=>trivial
theorem iC.jw{l:pw}{x:Obj}(h:iC ι w l x)(hs:w.heap.size<=w'.heap.size)
  (hb:∀ b o cap,x.owns=true\/x.jv=true->l=.at b o cap->w'.heap[b]?=w.heap[b]?) (hf:∀ F v b,x=.fact F->l=.val v->F.cM v w b->w'.heap[b]?=w.heap[b]?):iC ι w' l x:=by
 cases x with
 |aI cells ty=>obtain⟨b,bY,h1,h2,h3⟩:=h;exact⟨b,bY,h1,h2,by rw[hb b 0 0 (.inl rfl) h1];exact h3⟩
 |row cells ty size=>
  rcases h with h|⟨b,cap,cur,h1,h2,h3,h4,h5⟩
  ·exact .inl h
  ·exact .inr ⟨b,cap,cur,h1,by rw[hb b 0 cap (.inl rfl) h1];exact h2,h3,h4,h5⟩
 |view cells=>
  rcases h with h|⟨b,o,cap,bY,h1,h2,h3⟩
  ·exact .inl h
  ·exact .inr ⟨b,o,cap,bY,h1,h2,λj u hj=>by rw[World.cell?_of_block (w:=w) (w':=w') (a:=⟨b,o+j,none⟩) (hb b o cap (.inr rfl) h1)];exact h3 j u hj⟩
 |fact F=>obtain⟨v,h1,h2⟩:=h;exact⟨v,h1,(F.dep v w w' h2 hs λk hk=>hf F v k rfl h1 hk).1⟩
 |dead=>trivial
theorem iC.DU{l:pw}{v:i_}(h:iC ι w l (.fact F))(hl:l=.val v)(hb:F.cM v w b):b<w.heap.size:=by obtain⟨v',h1,h2⟩:=h;rw[hl]at h1;injection h1 with h1;subst h1;exact F.lt _ w b h2 hb
theorem aJ.DW(h:aJ B ι c w){v:i_}(hj:c j=some (.fact F))(hv:ι j=some (.val v))(hs:w.heap.size<=w'.heap.size)
  (Aa:∀ k,k<w.heap.size->F.cM v w k->w'.heap[k]?=w.heap[k]?) {b:Nat} (hF:F.cM v w' b):F.cM v w b:=by
 obtain⟨l,q1,v',q2,q3⟩:=h.born j _ hj;rw[hv]at q1;injection q1 with q1;subst q1;injection q2 with q2;subst q2;exact(F.dep v w w' q3 hs λk hk=>Aa k (F.lt v w k q3 hk) hk).2 b hF
theorem aJ.call(h:aJ B ι c w)(hb:Below w.heap.size w w'):aJ B ι c w' where
 base:=B.dep w w' h.base hb.os hb.tape hb.output hb.size λk hk=>hb.block k (B.lt w k h.base hk)
 dw:=h.dw
 born k x hk:=by
  obtain⟨l,h1,h2⟩:=h.born k x hk;refine⟨l,h1,h2.jw hb.size (λb o cap hx hl=>?_) λF v b hx hl hf=>?_⟩
  ·rcases hx with hx|hx
   ·exact hb.block b (h.own k x b o cap hk hx (by rw[h1,hl])).1
   ·exact hb.block b (h.seen k x b o cap hk hx (by rw[h1,hl])).1
  ·subst hx;exact hb.block b (h2.DU hl hf)
 own k x b o cap hk hx hl:=⟨cC (h.own k x b o cap hk hx hl).1 hb.size,(h.own k x b o cap hk hx hl).2⟩
 inj:=h.inj
 apart k j x F b o cap v hk hx hl hj hv hF:=h.apart k j x F b o cap v hk hx hl hj hv (h.DW hj hv hb.size (λk hk _=>hb.block k hk) hF)
 seen k x b o cap hk hx hl:=⟨cC (h.seen k x b o cap hk hx hl).1 hb.size,(h.seen k x b o cap hk hx hl).2⟩
 fa:=h.fa
 one:=h.one
 rC:=h.rC
def aV(c:Nat->Option Obj)(k:Nat)(x:Obj):Nat->Option Obj:=λj=>if j=k then some x else c j
def dD(ι:Map)(k:Nat)(l:pw):Map:=λj=>if j=k then some l else ι j
theorem gu{l:pw}(h:ι k=none):Map.le ι (dD ι k l):=λj m e=>by
 unfold dD;by_cases hj:j=k
 ·subst hj;rw[h]at e;cases e
 ·rw[al hj];exact e
theorem fC(ι:Map)(k:Nat)(l:pw):dD ι k l k=some l:=by simp[dD]
theorem aJ.add(h:aJ B ι c w)(hk:c k=none){x:Obj}{l:pw}(hx:iC (dD ι k l) w l x)
  (eC:∀ b o cap,x.owns=true->l=.at b o cap->b<w.heap.size/\¬B.cM b/\(∀ j y o' bj,c j=some y->y.owns=true->ι j≠some (.at b o' bj))/\(∀ j F v,c j=some (.fact F)->ι j=some (.val v)->¬F.cM v w b)/\(∀ j y o' bj,c j=some y->y.jv=true->ι j≠some (.at b o' bj)))
  (DX:∀ F v b,x=.fact F->l=.val v->F.cM v w b->∀ j y o' bj,c j=some y->y.owns=true->ι j≠some (.at b o' bj))
  (aGs:∀ b o cap,x.jv=true->l=.at b o cap->b<w.heap.size/\∀ j y o' bj,c j=some y->y.owns=true->ι j≠some (.at b o' bj)) (pz:∀ F,x=.fact F->F.rc=true->(B.Fa F/\∀ j F',c j=some (.fact F')->F'.rc=false):=by intro F e;cases e):aJ B (dD ι k l) (aV c k x) w:=by
 have tT:=h.dw k hk;have hle:=gu (l:=l) tT;have cT:∀ j y,j≠k->aV c k x j=some y->c j=some y:=λj y hj e=>by unfold aV at e;rw[al hj]at e;exact e
 have tU:∀ j m,j≠k->dD ι k l j=some m->ι j=some m:=λj m hj e=>by unfold dD at e;rw[al hj]at e;exact e
 have new:∀ y,aV c k x k=some y->y=x:=λy e=>by unfold aV at e;rw[au rfl]at e;injection e with e;exact e.symm
 have jl:∀ m,dD ι k l k=some m->m=l:=λm e=>by rw[fC]at e;injection e with e;exact e.symm
 refine⟨h.base,?_,?_,?_,?_,?_,?_,?_,?_,h.rC.trans hle⟩
 ·intro j hj;unfold aV at hj;unfold dD;by_cases bT:j=k
  ·rw[au bT]at hj;cases hj
  ·rw[al bT]at hj ⊢;exact h.dw j hj
 ·intro j y hj;by_cases bT:j=k
  ·subst bT;rw[new y hj];exact⟨l,fC _ _ _,hx⟩
  ·obtain⟨m,h1,h2⟩:=h.born j y (cT j y bT hj);exact⟨m,hle _ _ h1,h2.mono hle⟩
 ·intro j y b o cap hj hy hl;by_cases bT:j=k
  ·subst bT;rw[new y hj]at hy;have:=eC b o cap hy (jl _ hl).symm;exact⟨this.1,this.2.1⟩
  ·exact h.own j y b o cap (cT j y bT hj) hy (tU _ _ bT hl)
 ·intro i j y z b o cap o' bj hi hy hj hz hl hm;by_cases eR:i=k<;>by_cases bT:j=k
  ·rw[eR,bT]
  ·exfalso;subst eR;rw[new y hi]at hy;exact(eC b o cap hy (jl _ hl).symm).2.2.1 j z o' bj (cT j z bT hj) hz (tU _ _ bT hm)
  ·exfalso;subst bT;rw[new z hj]at hz;exact(eC b o' bj hz (jl _ hm).symm).2.2.1 i y o cap (cT i y eR hi) hy (tU _ _ eR hl)
  ·exact h.inj i j y z b o cap o' bj (cT i y eR hi) hy (cT j z bT hj) hz (tU _ _ eR hl) (tU _ _ bT hm)
 ·intro i j y F b o cap v hi hy hl hj hv hF;by_cases eR:i=k<;>by_cases bT:j=k
  ·subst eR;subst bT;have e:y=.fact F:=(new y hi).trans (new _ hj).symm;rw[e]at hy;cases hy
  ·subst eR;rw[new y hi]at hy;exact(eC b o cap hy (jl _ hl).symm).2.2.2.1 j F v (cT j _ bT hj) (tU _ _ bT hv) hF
  ·subst bT;exact DX F v b (new _ hj).symm (jl _ hv).symm hF i y o cap (cT i y eR hi) hy (tU _ _ eR hl)
  ·exact h.apart i j y F b o cap v (cT i y eR hi) hy (tU _ _ eR hl) (cT j _ bT hj) (tU _ _ bT hv) hF
 ·intro j y b o cap hj hy hl;by_cases bT:j=k
  ·subst bT;rw[new y hj]at hy;obtain⟨q1,q2⟩:=aGs b o cap hy (jl _ hl).symm;refine⟨q1,λi z o' bj hi hz hm=>?_⟩;by_cases nK:i=j
   ·subst nK;rw[new z hi]at hz;cases x<;>simp[Obj.owns,Obj.jv]at hy hz
   ·exact q2 i z o' bj (cT i z nK hi) hz (tU _ _ nK hm)
  ·obtain⟨q1,q2⟩:=h.seen j y b o cap (cT j y bT hj) hy (tU _ _ bT hl);refine⟨q1,λi z o' bj hi hz hm=>?_⟩;by_cases eR:i=k
   ·subst eR;rw[new z hi]at hz;exact(eC b o' bj hz (jl _ hm).symm).2.2.2.2 j y o cap (cT j y bT hj) hy (tU _ _ bT hl)
   ·exact q2 i z o' bj (cT i z eR hi) hz (tU _ _ eR hm)
 ·intro j F hj;by_cases bT:j=k
  ·subst bT;exact λwi=>(pz F (new _ hj).symm wi).1
  ·exact h.fa j F (cT j _ bT hj)
 ·intro i j F F' hi hj hr DY;by_cases eR:i=k<;>by_cases bT:j=k
  ·rw[eR,bT]
  ·subst eR;have:=(pz F (new _ hi).symm hr).2 j F' (cT j _ bT hj);rw[DY]at this;cases this
  ·subst bT;have:=(pz F' (new _ hj).symm DY).2 i F (cT i _ eR hi);rw[hr]at this;cases this
  ·exact h.one i j F F' (cT i _ eR hi) (cT j _ bT hj) hr DY
theorem aJ.new(h:aJ B ι c w)(hb:Below w.heap.size w w')(hk:c k=none){x:Obj}{l:pw}
  (hx:iC (dD ι k l) w' l x) (eC:∀ b o cap,x.owns=true->l=.at b o cap->w.heap.size<=b/\b<w'.heap.size)
  (DX:∀ F v b,x=.fact F->l=.val v->F.cM v w' b->w.heap.size<=b\/B.cM b) (jV:x.jv=false) (pz:∀ F,x=.fact F->F.rc=true->(B.Fa F/\∀ j F',c j=some (.fact F')->F'.rc=false):=by intro F e;cases e):aJ B (dD ι k l) (aV c k x) w':=by
 refine(h.call hb).add hk hx (λb o cap II hl=>?_) (λF v b Xr hl hF j y o' bj hj hy he=>?_) (λb o cap hv=>by rw[jV]at hv;cases hv) pz
 ·obtain⟨h1,h2⟩:=eC b o cap II hl;refine⟨h2,λhF=>by have:=B.lt w b h.base hF;omega,λj y o' bj hj hy he=>?_,λj F v hj he hF=>?_,λj y o' bj hj hy he=>?_⟩
  ·have:=(h.own j y b o' bj hj hy he).1;omega
  ·have hF:=h.DW hj he hb.size (λk hk _=>hb.block k hk) hF;obtain⟨m,q1,q2⟩:=h.born j _ hj;rw[he]at q1;injection q1 with q1;have:=q2.DU q1.symm hF;omega
  ·have:=(h.seen j y b o' bj hj hy he).1;omega
 ·have h1:=h.own j y b o' bj hj hy he;rcases DX F v b Xr hl hF with h2|h2
  ·omega
  ·exact h1.2 h2
theorem aJ.write(h:aJ B ι c w){o:Nat}{x y:Obj}(hk:c k=some x)(hx:x.owns=true)(hl:ι k=some (.at b o cap))
  (hos:sS w w') (aGt:w'.tape=w.tape) (aGu:w'.output=w.output) (yg:w.heap.size<=w'.heap.size) (IJ:∀ j,j<w.heap.size->j≠b->w'.heap[j]?=w.heap[j]?)
  (hy:iC ι w' (.at b o cap) y) (IK:∀ F,y≠.fact F) (IL:y.jv=false):aJ B ι (aV c k y) w':=by
 obtain⟨gH,Xs⟩:=h.own k x b o cap hk hx hl;have cT:∀ j z,j≠k->aV c k y j=some z->c j=some z:=λj z hj e=>by unfold aV at e;rw[al hj]at e;exact e
 have new:∀ z,aV c k y k=some z->z=y:=λz e=>by unfold aV at e;rw[au rfl]at e;injection e with e;exact e.symm
 refine⟨B.dep w w' h.base hos aGt aGu yg λj hj=>IJ j (B.lt w j h.base hj) λe=>Xs (e▸hj),?_,?_,?_,?_,?_,?_,?_,?_,h.rC⟩
 ·intro j hj;unfold aV at hj;by_cases bT:j=k
  ·rw[au bT]at hj;cases hj
  ·rw[al bT]at hj;exact h.dw j hj
 ·intro j z hj;by_cases bT:j=k
  ·subst bT;rw[new z hj];exact⟨_,hl,hy⟩
  ·have gJ:=cT j z bT hj;obtain⟨m,h1,h2⟩:=h.born j z gJ;refine⟨m,h1,h2.jw yg (λb' o' bj hz hm=>?_) λF v b' hz hm hF=>?_⟩
   ·subst hm;rcases hz with hz|hz
    ·exact IJ b' (h.own j z b' o' bj gJ hz h1).1 λe=>bT (h.inj j k z x b o' bj o cap gJ hz hk hx (e▸h1) hl)
    ·obtain⟨q1,q2⟩:=h.seen j z b' o' bj gJ hz h1;exact IJ b' q1 λe=>q2 k x o cap hk hx (e▸hl)
   ·subst hz;subst hm;exact IJ b' (h2.DU rfl hF) λe=>h.apart k j x F b o cap v hk hx hl gJ h1 (e▸hF)
 ·intro j z b' o' bj hj hz hm;by_cases bT:j=k
  ·subst bT;rw[hl]at hm;injection hm with hm;injection hm with cS dx uY;subst cS;exact⟨cC gH yg,Xs⟩
  ·have:=h.own j z b' o' bj (cT j z bT hj) hz hm;exact⟨cC this.1 yg,this.2⟩
 ·intro i j z z' b' o1 kS o2 pA hi hz hj lQ uZ ll;by_cases eR:i=k<;>by_cases bT:j=k
  ·rw[eR,bT]
  ·subst eR;exact h.inj i j x z' b' o1 kS o2 pA hk hx (cT j z' bT hj) lQ uZ ll
  ·subst bT;exact h.inj i j z x b' o1 kS o2 pA (cT i z eR hi) hz hk hx uZ ll
  ·exact h.inj i j z z' b' o1 kS o2 pA (cT i z eR hi) hz (cT j z' bT hj) lQ uZ ll
 ·intro i j z F b' o' bj v hi hz hm hj hv hF;by_cases bT:j=k
  ·subst bT;exact absurd (new _ hj).symm (IK F)
  ·have gJ:=cT j _ bT hj;have hF:=h.DW gJ hv yg (λk2 gi jm=>IJ k2 gi λe=>h.apart k j x F b o cap v hk hx hl gJ hv (e▸jm)) hF;by_cases eR:i=k
   ·subst eR;exact h.apart i j x F b' o' bj v hk hx hm gJ hv hF
   ·exact h.apart i j z F b' o' bj v (cT i z eR hi) hz hm gJ hv hF
 ·intro j z b' o' bj hj hz hm;by_cases bT:j=k
  ·subst bT;rw[new z hj,IL]at hz;cases hz
  ·obtain⟨q1,q2⟩:=h.seen j z b' o' bj (cT j z bT hj) hz hm;refine⟨cC q1 yg,λi z' o2 pA hi lQ bo=>?_⟩;by_cases eR:i=k
   ·subst eR;exact q2 i x o2 pA hk hx bo
   ·exact q2 i z' o2 pA (cT i z' eR hi) lQ bo
 ·intro j F hj;by_cases bT:j=k
  ·subst bT;exact absurd (new _ hj).symm (IK F)
  ·exact h.fa j F (cT j _ bT hj)
 ·intro i j F F' hi hj;by_cases eR:i=k
  ·subst eR;exact absurd (new _ hi).symm (IK F)
  ·by_cases bT:j=k
   ·subst bT;exact absurd (new _ hj).symm (IK F')
   ·exact h.one i j F F' (cT i _ eR hi) (cT j _ bT hj)
theorem aJ.kill(h:aJ B ι c w)(k:Nat)(hk:c k≠none):aJ B ι (aV c k .dead) w:=by
 have cT:∀ j z,j≠k->aV c k .dead j=some z->c j=some z:=λj z hj e=>by unfold aV at e;rw[al hj]at e;exact e
 have new:∀ z,aV c k .dead k=some z->z=.dead:=λz e=>by unfold aV at e;rw[au rfl]at e;injection e with e;exact e.symm
 refine⟨h.base,?_,?_,?_,?_,?_,?_,?_,?_,h.rC⟩
 ·intro j hj;unfold aV at hj;by_cases bT:j=k
  ·rw[au bT]at hj;cases hj
  ·rw[al bT]at hj;exact h.dw j hj
 ·intro j z hj;by_cases bT:j=k
  ·subst bT;rw[new z hj];cases hc:c j with
   |none=>exact absurd hc hk
   |some x=>obtain⟨l,h1,_⟩:=h.born j x hc;exact⟨l,h1,trivial⟩
  ·exact h.born j z (cT j z bT hj)
 ·intro j z b o cap hj hz;by_cases bT:j=k
  ·subst bT;rw[new z hj]at hz;cases hz
  ·exact h.own j z b o cap (cT j z bT hj) hz
 ·intro i j z z' b o1 c1 o2 c2 hi hz hj lQ;by_cases eR:i=k
  ·subst eR;rw[new z hi]at hz;cases hz
  ·by_cases bT:j=k
   ·subst bT;rw[new z' hj]at lQ;cases lQ
   ·exact h.inj i j z z' b o1 c1 o2 c2 (cT i z eR hi) hz (cT j z' bT hj) lQ
 ·intro i j z F b o cap v hi hz hl hj;by_cases eR:i=k
  ·subst eR;rw[new z hi]at hz;cases hz
  ·by_cases bT:j=k
   ·subst bT;cases new _ hj
   ·exact h.apart i j z F b o cap v (cT i z eR hi) hz hl (cT j _ bT hj)
 ·intro j z b o cap hj hz;by_cases bT:j=k
  ·subst bT;rw[new z hj]at hz;cases hz
  ·intro hl;obtain⟨q1,q2⟩:=h.seen j z b o cap (cT j z bT hj) hz hl;refine⟨q1,λi z' o' bj hi lQ hm=>?_⟩;by_cases eR:i=k
   ·subst eR;rw[new z' hi]at lQ;cases lQ
   ·exact q2 i z' o' bj (cT i z' eR hi) lQ hm
 ·intro j F hj;by_cases bT:j=k
  ·subst bT;cases new _ hj
  ·exact h.fa j F (cT j _ bT hj)
 ·intro i j F F' hi hj;by_cases eR:i=k
  ·subst eR;cases new _ hi
  ·by_cases bT:j=k
   ·subst bT;cases new _ hj
   ·exact h.one i j F F' (cT i _ eR hi) (cT j _ bT hj)
theorem aJ.ext{c':Nat->Option Obj}(h:aJ B ι c w)(e:∀ k,c' k=c k):aJ B ι c' w:=by have:c'=c:=funext e;rw[this];exact h
theorem aJ.drew(h:aJ B ι c w)(n:Nat)(hn:w.drawn<=n):aJ B ι c { w with drawn:=n }:=
 h.call ⟨⟨rfl,hn⟩,rfl,rfl,bh _,λ_ _=>rfl⟩
def iN:ah->Nat->ah->ah
 |l,_,[]=>l
 |l,o,v::r=>iN (l.set o v) (o+1) r
theorem QK:∀(vs l:ah) (o:Nat),(iN l o vs).length=l.length
 |[],_,_=>rfl
 |v::r,l,o=>by rw[iN,QK r];simp
theorem bL.iN{ι:Map}:∀{vs cL:ah},bL (aH ι) vs cL->∀{l l':ah},bL (aH ι) l l'->∀ o,bL (aH ι) (iN l o vs) (iN l' o cL)
 |_,_,.nil,_,_,h,_=>h
 |_,_,.cons hv hr,_,_,h,o=>hr.iN (h.set hv o) (o+1)
theorem Xt:∀(vs l:ah) (o n:Nat),o+vs.length<=n->(iN l o vs).take n=iN (l.take n) o vs
 |[],_,_,_,_=>rfl
 |v::r,l,o,n,h=>by simp only[nL]at h;rw[iN,iN,Xt r (l.set o v) (o+1) n o_,List.take_set]
theorem QL(b:Nat)(ty:TypeId)(fr:Nat×Nat):∀(vs cs:ah) (o:Nat) (w:h_),w.heap[b]?=some (.cells cs.toArray ty fr)->
  (w.setCells b o vs).heap[b]?=some (.cells (iN cs o vs).toArray ty fr)/\(∀ k,k≠b->(w.setCells b o vs).heap[k]?=w.heap[k]?)/\(w.setCells b o vs).heap.size=w.heap.size/\
   sS w (w.setCells b o vs)/\(w.setCells b o vs).tape=w.tape/\(w.setCells b o vs).output=w.output
 |[],cs,o,w,h=>⟨h,λ_ _=>rfl,rfl,.refl w,rfl,rfl⟩
 |v::r,cs,o,w,h=>by
  have h1:(w.setCell ⟨b,o,none⟩ v).heap[b]?=some (.cells (cs.set o v).toArray ty fr):=by simp only[World.setCell,Xu,qx,h,QM];simp
  obtain⟨a1,a2,a3,a4,a5,a6⟩:=QL b ty fr r (cs.set o v) (o+1) _ h1;refine⟨a1,λk hk=>?_,?_,a4,a5,a6⟩
  ·rw[World.setCells,a2 k hk,Go.RowKit.Below.heap_setCell _ _ _ _ hk]
  ·rw[World.setCells,a3];simp[World.setCell]
def Obj.cells:Obj->ah
 |.aI cs _=>cs
 |.row cs _ _=>cs
 |.view cs=>cs
 |_=>[]
def Obj.LW:Obj->ah->Obj
 |.aI _ ty,cs=>.aI cs ty
 |.row _ ty s,cs=>.row cs ty s
 |x,_=>x
def Obj.reads(x:Obj):Bool:=x.owns||x.jv
theorem iC.at{ι:Map}{w:h_}{b o cap:Nat}{x:Obj}(h:iC ι w (.at b o cap) x)(hx:x.reads=true):
  ∃ bY:ah,bL (aH ι) x.cells bY/\∀ j u,bY[j]?=some u->w.cell? ⟨b,o+j,none⟩=some u:=by
 cases x with
 |aI cells ty=>
  obtain⟨b',bY,h1,h2,h3⟩:=h;injection h1 with h1 oh Xv;subst h1;subst oh;exact⟨bY,h2,λj u hj=>by simp[World.cell?,h3,hj]⟩
 |row cells ty size=>
  rcases h with h|⟨b',bj,cur,h1,h2,h3,h4,h5⟩
  ·cases h.1
  ·injection h1 with h1 oh Xv;subst h1;subst oh;refine⟨_,h5,λj u hj=>?_⟩;rw[tV]at hj;split at hj
   ·have gJ:cur[j]?=some u:=by simpa using hj
    simp[World.cell?,h2,gJ]
   ·cases hj
 |view cells=>
  rcases h with h|⟨b',o',bj,bY,h1,h2,h3⟩
  ·cases h.1
  ·injection h1 with h1 oh Xv;subst h1;subst oh;exact⟨bY,h2,h3⟩
 |fact F=>cases hx
 |dead=>cases hx
theorem aJ.store(h:aJ B ι c w){o:Nat}{x:Obj}(hk:c k=some x)(hx:x.owns=true)(hb:ι k=some (.at b A cap))
  (hv:bL (aH ι) vs ew) (hle:o+vs.length<=x.cells.length) :
  A=0/\aJ B ι (aV c k (x.LW (iN x.cells o vs))) (w.setCells b o ew)/\∃(bY:ah) (ty:TypeId),w.heap[b]?=some (.cells bY.toArray ty (0,0))/\o+vs.length<=bY.length:=by
 obtain⟨l,h1,h2⟩:=h.born k x hk;rw[hb]at h1;injection h1 with h1;subst h1;cases x with
 |aI cells ty=>
  obtain⟨b',bY,q1,q2,q3⟩:=h2;injection q1 with q1 Ab QN;subst q1;subst Ab;subst QN;obtain⟨a1,a2,a3,a4,a5,a6⟩:=QL b ty (0,0) ew bY o w q3;exact⟨rfl,h.write hk hx hb a4 a5 a6 (u4 a3.symm) (λj _ hj=>a2 j hj) ⟨b,_,rfl,hv.iN q2 o,a1⟩ n_ rfl,bY,ty,q3,by rw[<-q2.length];exact hle⟩
 |row cells ty size=>
  rcases h2 with h2|⟨b',bj,cur,q1,q2,q3,q4,q5⟩
  ·cases h2.1
  ·injection q1 with q1 Ab QN;subst q1;subst Ab;subst QN;obtain⟨a1,a2,a3,a4,a5,a6⟩:=QL b ty (0,0) ew cur.toList o w (by simpa using q2);have tW:o+ew.length<=cells.length:=by rw[<-hv.length];exact hle
   have gS:cells.length<=cur.toList.length:=by have:=q5.length;rw[jn]at this;omega
   refine⟨rfl,h.write hk hx hb a4 a5 a6 (u4 a3.symm) (λj _ hj=>a2 j hj) (.inr ⟨b,cap,_,rfl,a1,q3,by simp[QK,q4],?_⟩) n_ rfl,cur.toList,ty,by simpa using q2,?_⟩
   ·rw[QK];show bL (aH ι) (iN cells o vs) (List.take cells.length (iN cur.toList o ew));rw[Xt _ _ _ _ tW];exact hv.iN q5 o
   ·rw[hv.length];omega
 |view cells=>cases hx
 |fact F=>cases hx
 |dead=>cases hx
abbrev aE:=List (Nat×Obj)
variable{M ms:aE}
def lp(c:Nat->Option Obj):aE->Nat->Option Obj
 |[]=>c
 |(k,x)::l=>aV (lp c l) k x
def gT(P:j_)(B:ae)(o:Oper)(ew:ah)(need:List (Nat×Option Obj))(val:i_)(cP:aE):Prop:=
 ∀(ι:Map) (c:Nat->Option Obj) (ρ:Operand->Value) (w:h_),bL (aH ι) ew (o.op.operands.toList.map ρ)->aJ B ι c w->(∀ p∈need,c p.1=p.2)->
  ∃ av v' w',Map.le ι av/\aH av val v'/\aJ B av (lp c cP) w'/\((execOp ρ o).run P w=.ok (.value v') w'\/(v'=undef/\(execOp ρ o).run P w=.ok .skip w'))
def FW(R:Option Nat):Fence:={ fn:=λ_=>True,depth:=none,alive:=false,round:=R }
theorem Xw{ρ:Operand->Value}{n:Next}(h:(execOp ρ o).run P w=.ok n w')(hn:∀ d,n≠.defer d):∀ c,o.op≠.defer c:=by
 intro c hc;have e:execOp ρ o=(do let d <-resolve ρ c o.type;pure (.defer d)):=by unfold execOp;rw[hc]
 rw[e,IM]at h;cases hr:(resolve ρ c o.type).run P w with
 |ok d w1=>rw[hr]at h;injection h with h _;exact hn d h.symm
 |halt x w1=>rw[hr]at h;cases h
def cz(P:j_)(B:ae)(o:Oper)(ew:ah)(need:List (Nat×Option Obj))(val:i_)(cP:aE):Prop:=
 ∀(R:Option Nat) (ι:Map) (c:Nat->Option Obj) (a:Act) (w:h_),bL (aH ι) ew (o.op.operands.toList.map a.eval)->aJ B ι c w->(∀ p∈need,c p.1=p.2)->
  ∀(K:Act->World->Prop) (Q:Exit->Act->World->Prop),(∀ av v' w',Map.le ι av->aH av val v'->aJ B av (lp c cP) w'->K (a.put o.dst v') w')->o.wpIn (FW R) 0 P a w K Q
theorem gT.step{val:i_}{cP:aE}(h:gT P B o ew need val cP):cz P B o ew need val cP:=by
 intro R ι c a w hv hm hn K Q hK;refine⟨λ_ _=>trivial,?_⟩;obtain⟨av,v',w',h1,h2,h3,h4|⟨h4,h5⟩⟩:=h ι c a.eval w hv hm hn
 ·rw[LX _ _ _ (Xw h4 n_),h4,Oper.uponIn_value];exact hK av v' w' h1 h2 h3
 ·rw[LX _ _ _ (Xw h5 n_),h5,Oper.uponIn_skip];subst h4;exact hK av undef w' h1 h2 h3
section
variable{P:j_}{B:ae}{o:Oper}
theorem mz{R:α->β->Prop}{a:α}{m:List β}(h:bL R [a] m):∃ b,m=[b]/\R a b:=by cases h with|cons h t=>cases t;exact⟨_,rfl,h⟩
theorem iY{R:α->β->Prop}{a a2:α}{m:List β}(h:bL R [a,a2] m):∃ b b2,m=[b,b2]/\R a b/\R a2 b2:=by cases h with|cons h t=>obtain⟨b2,rfl,h2⟩:=mz t;exact⟨_,_,rfl,h,h2⟩
def dE(P:j_)(t:TypeId)(cells:ah)(off:Nat):Option Value:=
 match P.underlying t,P.info? t with
 |some d,some i=>
  if d.isRow then(if Nat.ble (off+i.size) cells.length then some (.agg ((cells.drop off).take i.size).toArray)else none)
  else cells[off]?
 |_,_=>none
def eT(P:j_)(t:TypeId)(cells:ah)(off:Nat)(v:i_):Option ah:=
 match P.info? t with
 |some i=>if Nat.beq i.size v.cells.size&&Nat.ble (off+v.cells.size) cells.length&&v.cells.toList.all (·.oneCell')then some (iN cells off v.cells.toList)else none
 |none=>none
theorem Xx(hm:aJ B ι c w){x:Obj}{t:TypeId}{v:i_}
  (hk:c k=some x) (hx:x.reads=true) (hv:dE P t x.cells off=some v) (hc:aH ι (.pointer (some ⟨k,off,some 7⟩)) u) :
  ∃ v' a',u=.pointer (some a')/\aH ι v v'/\(loadVar t a').run P w=.ok v' w:=by
 obtain⟨b,o,cap,hb,he⟩:=hc.uX rfl;dsimp only at hb he;obtain⟨l,h1,h2⟩:=hm.born k x hk;rw[hb]at h1;injection h1 with h1;subst h1;obtain⟨bY,fo,kh⟩:=h2.at hx;unfold dE at hv;split at hv
 ·rename_i d i hd hi;split at hv
  ·rename_i iO;split at hv
   ·rename_i Xy;have Xy:=pB Xy;have hlen:=fo.length;injection hv with hv;refine⟨.agg ((bY.drop off).take i.size).toArray,⟨b,o+off,none⟩,he,by rw[<-hv];exact .agg ((fo.drop _).take _),?_⟩;exact run_loadVar_mid (P:=P) w b (o+off) t ((bY.drop off).take i.size) d (λj u hj=>by
      rw[tV]at hj;split at hj
      ·rw[DZ]at hj;rw[tX];exact kh _ _ hj
      ·cases hj) hd iO (by rw[hi];simp;omega)
   ·cases hv
  ·rename_i iO;obtain⟨u',oT,QO⟩:=fo.get _ _ hv;refine⟨u',⟨b,o+off,none⟩,he,QO,?_⟩;have aGv:(isAgg t).run P w=.ok false w:=by unfold isAgg;rw[IM,iZ hd w];cases d<;>first|rfl|(simp[TypeDesc.isRow]at iO)
   simp[loadVar,IM,aGv,load,Sem.run,kh _ _ oT]
 ·cases hv
theorem Xz{t:TypeId}(ho:o.op=.load t x){y:Obj}{v:i_}(hx:y.reads=true)(hv:dE P t y.cells off=some v):
  gT P B o [.pointer (some ⟨k,off,some 7⟩)] [(k,some y)] v []:=by
 intro ι c ρ w aN hm hn;rw[ho]at aN;obtain⟨u,hu,hc⟩:=mz aN;have hu:ρ x=u:=by simpa[Op.operands]using hu
 obtain⟨v',a',e,jW,pC⟩:=Xx hm (hn _ (aL ..)) hx hv hc;refine⟨ι,v',w,Map.le.refl _,jW,hm,.inl ?_⟩;simp only[execOp,ho,hu,e,Instr.loadAt,Instr.sureAddr];simp[pC]
theorem XA{t:TypeId}{y:m_}(ho:o.op=.store t x y){z:Obj}{v:i_}{cs:ah}(hx:z.owns=true)(hv:eT P t z.cells off v=some cs):
  gT P B o [.pointer (some ⟨k,off,some 7⟩),v] [(k,some z)] undef [(k,z.LW cs)]:=by
 intro ι c ρ w aN hm hn;rw[ho]at aN;obtain⟨u,u2,hu,hc,hy⟩:=iY aN;have dy:ρ x=u:=by simp[Op.operands]at hu;exact hu.1
 have eF:ρ y=u2:=by simp[Op.operands]at hu;exact hu.2
 have hk:c k=some z:=hn _ (aL ..);obtain⟨b,oo,cap,hb,he⟩:=hc.uX rfl;dsimp only at hb he;unfold eT at hv;split at hv
 ·rename_i i hi;split at hv
  ·rename_i pD;injection hv with hv;simp only[cY,aY]at pD;obtain⟨⟨bE,hle⟩,D0⟩:=pD;have bE:=QJ bE;have hle:=pB hle;have Gd:=hy.cells.length;simp only[yi]at Gd;obtain⟨h0,bK,bY,ty,lR,tW⟩:=hm.store hk hx hb hy.cells (o:=off) (by simpa using hle);subst h0;rw[jL]at he;refine⟨ι,undef,w.setCells b off u2.cells.toList,Map.le.refl _,.same rfl,by rw[<-hv];exact bK,.inr ⟨rfl,?_⟩⟩
   have run:=run_storeCells_cells (P:=P) b off u2.cells.toList 0 w
     (λj hj=>by
      simp at hj;simp only[yi]at tW;have:j+off<bY.length:=by omega
      simp[World.cell?,lR];omega)
     (λj hj=>by simp[World.frozen?,lR])
     (λv1 kz=>by
      obtain⟨j,hj⟩:=XB kz;have ao:j<v.cells.toList.length:=by
       have:j<u2.cells.toList.length:=by
        rcases eU j u2.cells.toList.length with h|h
        ·exact h
        ·rw[yj h]at hj;cases hj
       rw[hy.cells.length];exact this
      obtain⟨v',qy,sT⟩:=hy.cells.get j _ (aW ao);rw[hj]at qy;injection qy with qy;rw[qy,sT.Xq];exact D0 _ (dK ao))
   simp only[ja]at run;simp only[execOp,ho,dy,he,eF,Instr.storeAt,Instr.sureAddr];simp[storeVar,sizeOf,typeInfo,hi,bE,<-Gd,run]
  ·cases hv
 ·cases hv
theorem XC(ho:o.op=.move x\/o.op=.assign x){v:i_}:gT P B o [v] [] v []:=by
 intro ι c ρ w aN hm hn;have yk:o.op.operands=#[x]:=by rcases ho with ho|ho<;>rw[ho]<;>rfl
 rw[yk]at aN;obtain⟨u,hu,hc⟩:=mz aN;have hu:ρ x=u:=by simpa using hu
 refine⟨ι,u,w,Map.le.refl _,hc,hm,.inl ?_⟩;rcases ho with ho|ho<;>simp[execOp,ho,hu]
theorem IP{R:α->β->Prop}{a a2 a3:α}{m:List β}(h:bL R [a,a2,a3] m):∃ b b2 b3,m=[b,b2,b3]/\R a b/\R a2 b2/\R a3 b3:=by cases h with|cons h t=>obtain⟨b2,b3,rfl,h2,h3⟩:=iY t;exact⟨_,_,_,rfl,h,h2,h3⟩
theorem aGw{y z:m_}(ho:o.op=.pick x y z){b:Bool}{v1 v2:i_}:gT P B o [.bool b,v1,v2] [] (if b then v1 else v2) []:=by
 intro ι c ρ w aN hm hn;rw[ho]at aN;obtain⟨u0,u1,u2,hu,h0,h1,h2⟩:=IP aN;simp[Op.operands]at hu;obtain⟨e0,e1,e2⟩:=hu;have h0:=h0.bool;cases b
 ·exact⟨ι,u2,w,Map.le.refl _,h2,hm,.inl (by simp[execOp,ho,e0,e1,e2,h0,asBool])⟩
 ·exact⟨ι,u1,w,Map.le.refl _,h1,hm,.inl (by simp[execOp,ho,e0,e1,e2,h0,asBool])⟩
theorem XD(hm:aJ B ι c w)(hk:c k=none)(cs bY:ah)(ty:TypeId)(hc:bL (aH ι) cs bY):
  aJ B (dD ι k (.at w.heap.size 0 0)) (aV c k (.aI cs ty)) (w.alloc (.cells bY.toArray ty (0,0))):=by
 have hle:=gu (l:=.at w.heap.size 0 0) (hm.dw k hk)
 exact hm.new (w':=w.alloc (.cells bY.toArray ty (0,0))) (x:=.aI cs ty) (l:=.at w.heap.size 0 0) ⟨⟨rfl,bh _⟩,rfl,rfl,by simp,λj hj=>QP _ _ _ hj⟩ hk
  ⟨_,bY,rfl,mY hle hc,by show(w.heap.push _)[w.heap.size]?=_;simp⟩ (λb o cap _ e=>by injection e with e1 e2;subst e1;simp) n_ rfl
theorem aGx{t:TypeId}(ho:o.op=.alloc t){i:TypeInfo}{z:i_}(hi:P.info? t=some i)(hz:i.zero=some z)(hf:flat z=true)(k:Nat):
  gT P B o [] [(k,none)] (.pointer (some ⟨k,0,some 7⟩)) [(k,.aI z.cells.toList t)]:=by
 intro ι c ρ w aN hm hn;have hk:c k=none:=hn _ (aL ..);refine⟨_,.pointer (some ⟨w.heap.size,0,none⟩),_,gu (hm.dw k hk),.ptr (o:=0) (off:=0) (fC _ _ _),XD hm hk z.cells.toList z.cells.toList t ((aH.same hf:aH ι z z).cells),.inl ?_⟩;simp[execOp,ho,Instr.alloc,zeroValue,typeInfo,hi,hz,newVar,newRow,newObj,Sem.run]
theorem aGy{t:TypeId}(ho:o.op=.box t x)(v:i_)(k:Nat):
  gT P B o [v] [(k,none)] (.pointer (some ⟨k,0,some 7⟩)) [(k,.aI v.cells.toList t)]:=by
 intro ι c ρ w aN hm hn;have hk:c k=none:=hn _ (aL ..);rw[ho]at aN;obtain⟨u,hu,hc⟩:=mz aN;have hu:ρ x=u:=by simpa[Op.operands]using hu
 refine⟨_,.pointer (some ⟨w.heap.size,0,none⟩),_,gu (hm.dw k hk),.ptr (o:=0) (off:=0) (fC _ _ _),XD hm hk v.cells.toList u.cells.toList t hc.cells,.inl ?_⟩;simp[execOp,ho,hu,Instr.box,newVar,newRow,newObj,Sem.run]
theorem aGz{s:TypeId}{f:Nat}(ho:o.op=.fieldAddr s x f){fs:Array Field}{fd:Field}{i:TypeInfo}(hs:P.underlying s=some (.struct fs))(u5:fs[f]?=some fd)
  (hi:P.info? fd.type=some i) (bE:1<=i.size) (k off:Nat) :
  gT P B o [.pointer (some ⟨k,off,some 7⟩)] [] (.pointer (some ⟨k,off+fd.offset,some 7⟩)) []:=by
 intro ι c ρ w aN hm hn;rw[ho]at aN;obtain⟨u,hu,hc⟩:=mz aN;have hu:ρ x=u:=by simpa[Op.operands]using hu
 obtain⟨b,oo,cap,hb,he⟩:=hc.uX rfl;have bd:i.size≠0:=by omega
 refine⟨ι,.pointer (some ⟨b,oo+(off+fd.offset),none⟩),w,Map.le.refl _,.ptr hb,hm,.inl ?_⟩;simp only[execOp,ho,hu,he];simp[Instr.fieldAt,Instr.sureAddr,iZ hs,u5,fieldPlace,sizeOf,typeInfo,hi,bd,yn,tX]
theorem aGA{t:TypeId}{ix:m_}(ho:o.op=.indexAddr t x ix){e:TypeId}{i:TypeInfo}(ht:P.underlying t=some (.array len e))(hi:P.info? e=some i)
  {kd:IntKind} {n:Int} (h0:0<=n) (h1:n<len) (k off:Nat) :
  gT P B o [.pointer (some ⟨k,off,some 7⟩),.int kd n] [] (.pointer (some ⟨k,off+n.toNat*i.size,some 7⟩)) []:=by
 intro ι c ρ w aN hm hn;rw[ho]at aN;obtain⟨u,u2,hu,hc,hx⟩:=iY aN;have dy:ρ x=u:=by simp[Op.operands]at hu;exact hu.1
 have eF:ρ ix=u2:=by simp[Op.operands]at hu;exact hu.2
 have hx:=hx.fh rfl;obtain⟨b,oo,cap,hb,he⟩:=hc.uX rfl;refine⟨ι,.pointer (some ⟨b,oo+(off+n.toNat*i.size),none⟩),w,Map.le.refl _,.ptr hb,hm,.inl ?_⟩;simp only[execOp,ho,dy,he,eF,hx];simp[Instr.indexAt,Instr.sureAddr,asIntOf,iZ ht,sizeOf,typeInfo,hi,h0,h1,yn,tX]
theorem XE{t:TypeId}{ix:m_}(ho:o.op=.indexAddr t x ix){e:TypeId}{i:TypeInfo}(ht:P.underlying t=some (.slice e))(hi:P.info? e=some i)
  {kd:IntKind} {n:Int} {len cc:Nat} (h0:0<=n) (h1:n<len) (k off:Nat) :
  gT P B o [.slice (some ⟨k,off,some 7⟩) len cc,.int kd n] [] (.pointer (some ⟨k,off+n.toNat*i.size,some 7⟩)) []:=by
 intro ι c ρ w aN hm hn;rw[ho]at aN;obtain⟨u,u2,hu,hc,hx⟩:=iY aN;have dy:ρ x=u:=by simp[Op.operands]at hu;exact hu.1
 have eF:ρ ix=u2:=by simp[Op.operands]at hu;exact hu.2
 have hx:=hx.fh rfl;rcases hc.gR rfl with ⟨_,h,_⟩|⟨b,oo,cap,c',hb,_,_,he⟩
 ·omega
 ·refine⟨ι,.pointer (some ⟨b,oo+(off+n.toNat*i.size),none⟩),w,Map.le.refl _,.ptr hb,hm,.inl ?_⟩;simp only[execOp,ho,dy,he,eF,hx];simp[Instr.indexAt,asIntOf,iZ ht,sizeOf,typeInfo,hi,h0,h1,yn,tX]
theorem aGB(ho:o.op=.extract x i){vs:p_}{v:i_}(hv:vs[i]?=some v):gT P B o [.tuple vs] [] v []:=by
 intro ι c ρ w aN hm hn;rw[ho]at aN;obtain⟨u,hu,hc⟩:=mz aN;have hu:ρ x=u:=by simpa[Op.operands]using hu
 obtain⟨cL,he,aU⟩:=hc.tS;obtain⟨v',qy,sT⟩:=aU.get i v (by simpa using hv);refine⟨ι,v',w,Map.le.refl _,sT,hm,.inl ?_⟩;have aGC:cL[i]?=some v':=by simpa using qy
 simp only[execOp,ho,hu,he];simp[Instr.extract,aGC]
theorem aGD{f:Fn}{fi ca:Array Operand}(ho:o.op=.makeFunc f fi ca):gT P B o vs [] (.func f (vs.take fi.size).toArray (vs.drop fi.size).toArray) []:=by intro ι c ρ w aN hm hn;rw[ho]at aN;simp only[Op.operands,Array.toList_append,wj]at aN;have h1:=aN.take fi.size;have h2:=aN.drop fi.size;rw[QQ s_]at h1;rw[QR s_]at h2;refine⟨ι,_,w,Map.le.refl _,.fn h1 h2,hm,.inl ?_⟩;simp[execOp,ho,Instr.makeFunc,<-Array.toList_map]
theorem aGE{t:TypeId}{e:TypeId}(ho:o.op=.call { callee:=.builtin .len,args:=#[x],argTypes:=#[t]})(ht:P.underlying t=some (.slice e))(k off n cc:Nat):
  gT P B o [.slice (some ⟨k,off,some 7⟩) n cc] [] (.int .i64 n) []:=by
 intro ι c ρ w aN hm hn;rw[ho]at aN;obtain⟨u,hu,hc⟩:=mz aN;have hu:ρ x=u:=by simpa[Op.operands,Call.operands]using hu
 refine⟨ι,.int .i64 n,w,Map.le.refl _,.same rfl,hm,.inl ?_⟩;rcases hc.gR rfl with ⟨_,h,_,_,he⟩|⟨b,oo,cap,c',hb,_,_,he⟩
 ·subst h;simp[execOp,ho,resolve,invoke,builtin,Builtin.len_,hu,he,iZ ht,goInt]
 ·simp[execOp,ho,resolve,invoke,builtin,Builtin.len_,hu,he,iZ ht,goInt]
def LY{α:Type}(P:j_):Sem α->Option α
 |.pure a=>some a
 |.program k=>LY P (k P)
 |.mark _ k=>LY P k
 |_=>none
theorem QS{α:Type}{P:j_}:∀{e:Sem α} {a:α},LY P e=some a->∀ w,e.run P w=.ok a w
 |.pure _,a,h,w=>by injection h with h;subst h;rfl
 |.program k,a,h,w=>by rw[Sem.run];exact QS (e:=k P) h w
 |.mark _ k,a,h,w=>by rw[Sem.run];exact QS (e:=k) h w
 |.load _ _ _,_,h,_=>by cases h
 |.store _ _ _ _,_,h,_=>by cases h
 |.new _ _,_,h,_=>by cases h
 |.shape _ _,_,h,_=>by cases h
 |.freeze _ _ _,_,h,_=>by cases h
 |.frozen _ _,_,h,_=>by cases h
 |.getObj _ _,_,h,_=>by cases h
 |.setObj _ _ _,_,h,_=>by cases h
 |.choose _ _,_,h,_=>by cases h
 |.sys _ _,_,h,_=>by cases h
 |.halt _,_,h,_=>by cases h
theorem mZ{l l':ah}(h:bL (aH ι) l l')(hf:∀ v∈l,flat v=true):l'=l:=by
 induction h with
 |nil=>rfl
 |cons h t ih=>rw[h.fh (hf _ (aL ..)),ih λv hv=>hf v (bw _ hv)]
theorem Ac{val:i_}(QT:∀ v∈ew,flat v=true)(hf:flat val=true)
  (h:∀ ρ:Operand->Value,o.op.operands.toList.map ρ=ew->∀ w,B.G w->(execOp ρ o).run P w=.ok (.value val) w):gT P B o ew [] val []:=by
 intro ι c ρ w aN hm hn;exact⟨ι,val,w,Map.le.refl _,.same hf,hm,.inl (h ρ (mZ aN QT) w hm.base)⟩
end
section
variable{P:j_}{B:ae}{o:Oper}
def bound(x:Option Operand)(n:Nat):ah:=match x with|some _=>[.int .i64 n]|none=>[]
theorem aGF{t:TypeId}{lo hi:Option Operand}(ho:o.op=.slice t x lo hi none){e:TypeId}{i:TypeInfo}(ht:P.underlying t=some (.slice e))(Ad:P.info? e=some i)
  {k off n cc l h:Nat} (hl:lo=none->l=0) (hh:hi=none->h=n) (LZ:l<=h) (XF:h<=n) (hz:l<h\/l=0) :
  gT P B o (.slice (some ⟨k,off,some 7⟩) n cc::(bound lo l++bound hi h)) [] (.slice (some ⟨k,off+l*i.size,some 7⟩) (h-l) (cc+l)) []:=by
 intro ι c ρ w aN hm hn;rw[ho]at aN;have hb:∀(x:Option Operand) (q:Nat),bL (aH ι) (bound x q) ((x.toArray).toList.map ρ)->∀ y,x=some y->ρ y=.int .i64 q:=by
  intro x q h y hy;subst hy;obtain⟨u,hu,hc⟩:=mz h;have hu:ρ y=u:=by simpa using hu
  rw[hu];exact hc.fh rfl
 have yk:(Op.operands (.slice t x lo hi none)).toList.map ρ=ρ x::(lo.toArray.toList.map ρ++hi.toArray.toList.map ρ):=by simp[Op.operands]
 rw[yk]at aN;cases aN with
 |cons hc rD=>
 have hlen:(bound lo l).length=(lo.toArray.toList.map ρ).length:=by cases lo<;>rfl
 have h1:bL (aH ι) (bound lo l) (lo.toArray.toList.map ρ):=by have:=rD.take (bound lo l).length;rwa[QU,hlen,QU]at this
 have h2:bL (aH ι) (bound hi h) (hi.toArray.toList.map ρ):=by have:=rD.drop (bound lo l).length;rwa[List.drop_left,hlen,List.drop_left]at this
 have eG:∀ y,lo=some y->ρ y=.int .i64 l:=hb lo l h1;have ik:∀ y,hi=some y->ρ y=.int .i64 h:=hb hi h h2;have sU:∀(y:Nat) (q:Nat) (code:BoundsCode),q<=y->(Instr.sliceBound (.int .i64 q) y code).run P w=.ok q w:=by intro y q code hq;have:(0:Int)<=q/\(q:Int)<=y:=⟨by omega,by omega⟩;simp[Instr.sliceBound,asIntOf,this]
 have QV:∀ cap,n<=cap->(Instr.sliceBounds true n cap (lo.map ρ) (hi.map ρ) none).run P w=.ok (l,h,cap) w:=by
  intro cap jx;cases lo with
  |none=>
   have:=hl rfl;subst this;cases hi with
   |none=>have:=hh rfl;subst this;simp[Instr.sliceBounds]
   |some y=>simp[Instr.sliceBounds,ik y rfl,sU cap h _ o_]
  |some x=>
   cases hi with
   |none=>have:=hh rfl;subst this;simp[Instr.sliceBounds,eG x rfl,sU h l _ LZ]
   |some y=>simp[Instr.sliceBounds,ik y rfl,eG x rfl,sU cap h _ o_,sU h l _ LZ]
 rcases hc.gR rfl with ⟨hb,ki,pE,yo,he⟩|⟨b,oo,cap,c',hb,lq,mA,he⟩
 ·dsimp only at yo;have hh0:h=0:=by omega
  have sV:l=0:=by omega
  subst ki;subst pE;subst yo;subst hh0;subst sV;refine⟨ι,.slice none 0 0,w,Map.le.refl _,by simpa using aH.slcN hb,hm,.inl ?_⟩;simp only[execOp,ho];simp[Instr.sliceAt,iZ ht,Instr.slice,he,QV 0 (bh _),sizeOf,typeInfo,Ad]
 ·refine⟨ι,.slice (some ⟨b,oo+(off+l*i.size),none⟩) (h-l) (c'-l),w,Map.le.refl _,.slc hb o_ o_,hm,.inl ?_⟩;simp only[execOp,ho];by_cases gS:c'=l
  ·have sV:l=0:=by omega
   simp[Instr.sliceAt,iZ ht,Instr.slice,he,QV c' lq,sizeOf,typeInfo,Ad,sV,yn,tX]
  ·simp[Instr.sliceAt,iZ ht,Instr.slice,he,QV c' lq,sizeOf,typeInfo,Ad,gS,yn,tX]
theorem XG{t:TypeId}{y:m_}(ho:o.op=.makeSlice t x y){e:TypeId}{i:TypeInfo}{z:i_}(ht:P.underlying t=some (.slice e))(hi:P.info? e=some i)(hz:i.zero=some z)
  {kl kc:IntKind} {l cp:Nat} (hlc:l<=cp) (BV:i.bytes*cp<=281474976710656) (h63:cp<=maxLen) {cells:ah} (jb:(madeCells z.cells (cp*i.size)).toList.take (l*i.size)=cells)
  (hlen:cells.length=l*i.size) (cG:∀ v∈cells,flat v=true) (k:Nat) :
  gT P B o [.int kl l,.int kc cp] [(k,none)] (.slice (some ⟨k,0,some 7⟩) l 0) [(k,.row cells e i.size)]:=by
 intro ι c ρ w aN hm hn;have hk:c k=none:=hn _ (aL ..);rw[ho]at aN;obtain⟨u,u2,hu,hc,hx⟩:=iY aN;have dy:ρ x=u:=by simp[Op.operands]at hu;exact hu.1
 have eF:ρ y=u2:=by simp[Op.operands]at hu;exact hu.2
 have hc:=hc.fh rfl;have hx:=hx.fh rfl;have hle:=gu (l:=.at w.heap.size 0 cp) (hm.dw k hk);have hr:=run_make (P:=P) w t e i z ht hi hz kl kc l cp o_ o_ (by
  have h:((i.bytes*cp:Nat):Int)<=281474976710656:=by omega
  rwa[nM]at h) (by have h:=h63;simp[maxLen]at h;omega)
 simp only[Int.toNat_natCast]at hr;refine⟨dD ι k (.at w.heap.size 0 cp),.slice (some ⟨w.heap.size,0,none⟩) l cp,w.alloc (.cells (madeCells z.cells (cp*i.size)) e),hle,.slc (o:=0) (off:=0) (fC _ _ _) hlc o_,?_,.inl ?_⟩
 ·refine hm.new (w':=w.alloc (.cells (madeCells z.cells (cp*i.size)) e)) (x:=.row cells e i.size) ⟨⟨rfl,bh _⟩,rfl,rfl,by simp,λj hj=>QP _ _ _ hj⟩ hk
   (.inr ⟨w.heap.size,cp,_,rfl,by show(w.heap.push _)[w.heap.size]?=_;simp;rfl,h63,size_madeCells _ _,?_⟩) (λb o cap _ e=>by injection e with e1 e2;subst e1;simp) n_ rfl
  rw[hlen,jb];exact ky cG
 ·simp only[execOp,ho,dy,eF,hc,hx];simp[hr]
def BW(B:ae)(sv:i_)(m:Nat)(news:ah)(need:List (Nat×Option Obj)):Prop:=
 ∀(ι:Map) (c:Nat->Option Obj) (w:h_) (u:i_),aJ B ι c w->(∀ p∈need,c p.1=p.2)->aH ι sv u->
  (m=0/\news=[]/\u=.slice none 0 0)\/∃ ad c' lS,u=.slice (some ad) m c'/\bL (aH ι) news lS/\∀ j v,lS[j]?=some v->w.cell? (ad.add j)=some v
theorem L0{x:Obj}(hx:x.reads=true)(h0:m=0->len=0):BW B (.slice (some ⟨k,off,some 7⟩) m cc) m ((x.cells.drop off).take len) [(k,some x)]:=by
 intro ι c w u hm hn hc;have hk:c k=some x:=hn _ (aL ..);rcases hc.gR rfl with ⟨hb,ki,pE,yo,he⟩|⟨b,oo,cap,c',hb,lq,mA,he⟩
 ·refine .inl ⟨ki,?_,he⟩;rw[h0 ki];rfl
 ·dsimp only at hb he;obtain⟨l,h1,h2⟩:=hm.born k x hk;rw[hb]at h1;injection h1 with h1;subst h1;obtain⟨bY,fo,kh⟩:=h2.at hx;refine .inr ⟨⟨b,oo+off,none⟩,c',_,he,(fo.drop off).take len,λj v hj=>?_⟩;rw[tV]at hj;split at hj
  ·rw[DZ]at hj;rw[yn,tX];exact kh _ _ hj
  ·cases hj
theorem Ge(hm:aJ B ι c w)(hk:c k=none){cells:ah}{rest:p_}(hc:bL (aH ι) cells cells')
  (jx:cap<=maxLen) (bE:cells'.length+rest.size=cap*size) :
  aJ B (dD ι k (.at w.heap.size 0 cap)) (aV c k (.row cells ty size)) (w.alloc (.cells (cells'.toArray++rest) ty)):=by
 have hle:=gu (l:=.at w.heap.size 0 cap) (hm.dw k hk)
 refine hm.new (w':=w.alloc (.cells (cells'.toArray++rest) ty)) (x:=.row cells ty size) ⟨⟨rfl,bh _⟩,rfl,rfl,by simp,λj hj=>QP _ _ _ hj⟩ hk
  (.inr ⟨w.heap.size,cap,cells'.toArray++rest,rfl,by show(w.heap.push _)[w.heap.size]?=_;simp,jx,by simpa using bE,?_⟩) (λb o cap _ e=>by injection e with e1 e2;subst e1;simp) n_ rfl
 rw[hc.length,Array.toList_append];show bL _ _ (List.take cells'.length (cells'++rest.toList));rw[QU];exact mY hle hc
theorem aGG{l l':ah}(h:bL (aH ι) l l')(h1:∀ v∈l,v.oneCell'=true):∀ v∈l',v.oneCell'=true:=by intro v hv;obtain⟨j,hj⟩:=XB hv;obtain⟨u,hu,hc⟩:=h.get' j v hj;rw[hc.Xq];exact h1 u (cN hu)
theorem aGH{s:m_}{t:TypeId}(ho:o.op=.call { callee:=.builtin .append,args:=#[s,x],argTypes:=#[t,t]})
  {e:TypeId} {i:TypeInfo} {z:i_} (ht:P.underlying t=some (.slice e)) (hi:P.info? e=some i) (hz:i.zero=some z) (L3:z.cells.size=i.size) (bE:0<i.size)
  {sv:i_} {m:Nat} {news:ah} {need:List (Nat×Option Obj)} (yp:BW B sv m news need) (hl:news.length=m*i.size)
  (h63:m<=maxLen) (BV:m*i.bytes<=140737488355328) (k:Nat) :
  gT P B o [.slice none 0 0,sv] ((k,none)::need) (.slice (some ⟨k,0,some 7⟩) m 0) [(k,.row news e i.size)]:=by
 intro ι c ρ w aN hm hn;have hk:c k=none:=hn _ (aL ..);rw[ho]at aN;obtain⟨u,u2,hu,hc,hx⟩:=iY aN;have dy:ρ s=u:=by simp[Op.operands,Call.operands]at hu;exact hu.1
 have eF:ρ x=u2:=by simp[Op.operands,Call.operands]at hu;exact hu.2
 have hc:=hc.fh rfl;have IQ:m=0->(Builtin.append_ #[t,t] o.type #[u,u2]).run P w=.ok (.slice none 0 0) w->
   ∃ av v' w',Map.le ι av/\aH av (.slice (some ⟨k,0,some 7⟩) m 0) v'/\aJ B av (lp c [(k,.row news e i.size)]) w'/\((execOp ρ o).run P w=.ok (.value v') w'\/(v'=undef/\(execOp ρ o).run P w=.ok .skip w')):=by
  intro jX hr;subst jX;have ki:news=[]:=kA (by simpa using hl);subst ki;refine⟨dD ι k .nil,.slice none 0 0,w,gu (hm.dw k hk),.slcN (fC _ _ _),hm.add hk (.inl ⟨rfl,rfl⟩) n_ n_ n_,.inl ?_⟩;simp[execOp,ho,resolve,invoke,builtin,dy,eF,hr]
 rcases yp ι c w u2 hm (λp hp=>hn p (bw _ hp)) hx with ⟨h1,h2,h3⟩|⟨ad,c',lS,h1,h2,h3⟩
 ·refine IQ h1 ?_;rw[hc,h3];simp[Builtin.append_,iZ ht,sizeOf,typeInfo,hi,Builtin.lenOf,Builtin.firstCells]
 ·have cZ:lS.length=m*i.size:=by rw[<-h2.length];exact hl
  by_cases jX:m=0
  ·refine IQ jX ?_;rw[hc,h1,jX];simp[Builtin.append_,iZ ht,sizeOf,typeInfo,hi,Builtin.lenOf,Builtin.firstCells,loadCells,loadCellsFrom]
  ·have hr:=run_append_nil (P:=P) w t o.type e i z ht hi hz ad m c' lS cZ h3 o_ (by have h:=h63;simp[maxLen]at h;omega) o_;have fG:=grownCap_ge w m 0 e;have dF:=XH w m 0 e h63;have bo:aJ B ι c w.drew:=hm.call ⟨⟨rfl,yq _⟩,rfl,rfl,bh _,λ_ _=>rfl⟩;have iP:=Ge (ty:=e) (size:=i.size) (cap:=grownCap w m 0 e) (rest:=Builtin.zeroCells z.cells (grownCap w m 0 e-m)) bo hk h2 dF (by
    have h:=L4 z.cells (grownCap w m 0 e-m);rw[cZ,h,L3,<-fp]
    congr 1;omega)
   refine⟨_,_,_,gu (hm.dw k hk),.slc (o:=0) (off:=0) (fC _ _ _) fG o_,iP,.inl ?_⟩;rw[<-hc,<-h1]at hr;simp[execOp,ho,resolve,invoke,builtin,dy,eF,hr]
theorem aGI{s:m_}{t:TypeId}(ho:o.op=.call { callee:=.builtin .append,args:=#[s,x],argTypes:=#[t,t]})
  {e:TypeId} {i:TypeInfo} {z:i_} (ht:P.underlying t=some (.slice e)) (hi:P.info? e=some i) (hz:i.zero=some z) (L3:z.cells.size=i.size) (bE:0<i.size)
  {sv:i_} {m:Nat} {news:ah} {need:List (Nat×Option Obj)} (yp:BW B sv m news need) (hl:news.length=m*i.size) (QW:∀ v∈news,v.oneCell'=true)
  {j n:Nat} {cells:ah} (oj:n*i.size<=cells.length) (h63:n+m<=maxLen) (BV:(n+m)*i.bytes<=140737488355328) (k:Nat) :
  gT P B o [.slice (some ⟨j,0,some 7⟩) n 0,sv] ((k,none)::(j,some (.row cells e i.size))::need) (.slice (some ⟨k,0,some 7⟩) (n+m) 0)
   [(k,.row (cells.take (n*i.size)++news) e i.size),(j,.dead)]:=by
 intro ι c ρ w aN hm hn;have hk:c k=none:=hn _ (aL ..);have hj:c j=some (.row cells e i.size):=hn _ (bw _ (aL ..));have hkj:j≠k:=λe=>by rw[e,hk]at hj;cases hj
 have gU:aV c j .dead k=none:=by unfold aV;rw[al (mB hkj)];exact hk
 rw[ho]at aN;obtain⟨u,u2,hu,hc,hx⟩:=iY aN;have dy:ρ s=u:=by simp[Op.operands,Call.operands]at hu;exact hu.1
 have eF:ρ x=u2:=by simp[Op.operands,Call.operands]at hu;exact hu.2
 have ex:∀ v' w',(Builtin.append_ #[t,t] o.type #[u,u2]).run P w=.ok v' w'->(execOp ρ o).run P w=.ok (.value v') w':=by intro v' w' hr;simp[execOp,ho,resolve,invoke,builtin,dy,eF,hr]
 have BX:aJ B ι (aV c j .dead) w:=hm.kill j (by rw[hj];exact n_);rcases hc.gR rfl with ⟨hb,ki,_,_,he⟩|⟨b,oo,cap,c',hb,lq,mA,he⟩
 ·-- nothing is there yet
  subst ki;subst he;have QX:=yp ι c w u2 hm (λp hp=>hn p (bw _ (bw _ hp))) hx;have Ae:cells.take (0*i.size)=[]:=by simp
  rw[Ae,jy,jL];simp only[jL]at h63 BV;have IQ:m=0->(Builtin.append_ #[t,t] o.type #[.slice none 0 0,u2]).run P w=.ok (.slice none 0 0) w->
    ∃ av v' w',Map.le ι av/\aH av (.slice (some ⟨k,0,some 7⟩) m 0) v'/\aJ B av (lp c [(k,.row news e i.size),(j,.dead)]) w'/\((execOp ρ o).run P w=.ok (.value v') w'\/(v'=undef/\(execOp ρ o).run P w=.ok .skip w')):=by
   intro jX hr;subst jX;have ki:news=[]:=kA (by simpa using hl);subst ki;exact⟨dD ι k .nil,.slice none 0 0,w,gu (hm.dw k hk),.slcN (fC _ _ _),BX.add gU (.inl ⟨rfl,rfl⟩) n_ n_ n_,.inl (ex _ _ hr)⟩
  rcases QX with ⟨h1,h2,h3⟩|⟨ad,c',lS,h1,h2,h3⟩
  ·refine IQ h1 ?_;rw[h3];simp[Builtin.append_,iZ ht,sizeOf,typeInfo,hi,Builtin.lenOf,Builtin.firstCells]
  ·have cZ:lS.length=m*i.size:=by rw[<-h2.length];exact hl
   by_cases jX:m=0
   ·refine IQ jX ?_;rw[h1,jX];simp[Builtin.append_,iZ ht,sizeOf,typeInfo,hi,Builtin.lenOf,Builtin.firstCells,loadCells,loadCellsFrom]
   ·have hr:=run_append_nil (P:=P) w t o.type e i z ht hi hz ad m c' lS cZ h3 o_ (by have h:=h63;simp[maxLen]at h;omega) o_;have fG:=grownCap_ge w m 0 e;have dF:=XH w m 0 e h63;have bo:aJ B ι (aV c j .dead) w.drew:=BX.call ⟨⟨rfl,yq _⟩,rfl,rfl,bh _,λ_ _=>rfl⟩;have iP:=Ge (ty:=e) (size:=i.size) (cap:=grownCap w m 0 e) (rest:=Builtin.zeroCells z.cells (grownCap w m 0 e-m)) bo gU h2 dF (by
     have h:=L4 z.cells (grownCap w m 0 e-m);rw[cZ,h,L3,<-fp]
     congr 1;omega)
    refine⟨_,_,_,gu (hm.dw k hk),.slc (o:=0) (off:=0) (fC _ _ _) fG o_,iP,.inl (ex _ _ ?_)⟩;rw[h1,hr];rfl
 ·-- a row
  dsimp only at hb he;subst he;have kj:c'=cap:=by omega
  subst kj;obtain⟨l,q1,q2⟩:=hm.born j _ hj;rw[hb]at q1;injection q1 with q1;subst q1;rcases q2 with q2|⟨b',bj,cur,e1,lR,dF,fo,jb⟩
  ·cases q2.1
  injection e1 with e1 e2 e3;subst e1;subst e2;subst e3;have gS:cells.length<=cur.size:=by have:=jb.length;rw[jn,yi]at this;change cells.length=min cells.length cur.size at this;omega
  have L5:bL (aH ι) (cells.take (n*i.size)) (cur.toList.take (n*i.size)):=by have:=jb.take (n*i.size);rwa[L6,nh oj]at this
  have holds:∀(jj:Nat) (v:i_),(cur.toList.take (n*i.size))[jj]?=some v->w.cell? ((⟨b,0,none⟩:Addr).add jj)=some v:=by
   intro jj v hv;rw[tV]at hv;split at hv
   ·have qy:cur[jj]?=some v:=by simpa using hv
    simp[World.cell?,yn,lR,qy]
   ·cases hv
  have eG:(cur.toList.take (n*i.size)).length=n*i.size:=by rw[jn,yi];omega
  -- the source
  have QX:∃ ad c' lS,u2=.slice ad m c'/\bL (aH ι) news lS/\(ad=none->m=0/\c'=0)/\∀ a,ad=some a->∀ j v,lS[j]?=some v->w.cell? (a.add j)=some v:=by
   rcases yp ι c w u2 hm (λp hp=>hn p (bw _ (bw _ hp))) hx with ⟨h1,h2,h3⟩|⟨ad,c',lS,h1,h2,h3⟩
   ·subst h1;subst h2;exact⟨none,0,[],h3,.nil,λ_=>⟨rfl,rfl⟩,λa e=>by cases e⟩
   ·exact⟨some ad,c',lS,h1,h2,λe=>(by cases e),λa e=>by injection e with e;subst e;exact h3⟩
  obtain⟨ad,c2,lS,QY,D1,L7,kh⟩:=QX;have cZ:lS.length=m*i.size:=by rw[<-D1.length];exact hl
  have eC:=hm.own j _ b 0 c' hj rfl hb
  -- where the block is kept
  have jw:∀ w' (fP:p_),sS w w'->w'.tape=w.tape->w'.output=w.output->w.heap.size<=w'.heap.size->(∀ q,q≠b->w'.heap[q]?=w.heap[q]?)->w'.heap[b]?=some (.cells fP e (0,0))->
    fP.size=c'*i.size->fP.toList.take (n*i.size+m*i.size)=cur.toList.take (n*i.size)++lS->n+m<=c'->(Builtin.append_ #[t,t] o.type #[.slice (some ⟨b,0,none⟩) n c',u2]).run P w=.ok (.slice (some ⟨b,0,none⟩) (n+m) c') w'->
    ∃ av v' w',Map.le ι av/\aH av (.slice (some ⟨k,0,some 7⟩) (n+m) 0) v'/\aJ B av (lp c [(k,.row (cells.take (n*i.size)++news) e i.size),(j,.dead)]) w'/\((execOp ρ o).run P w=.ok (.value v') w'\/(v'=undef/\(execOp ρ o).run P w=.ok .skip w')):=by
   intro w' fP p1 p2 p3 p4 p5 p6 p7 p8 p9 hr;have hle:=gu (l:=.at b 0 c') (hm.dw k hk);have cS:aJ B ι (aV c j .dead) w':=hm.write hj rfl hb p1 p2 p3 p4 (λq _ hq=>p5 q hq) trivial n_ rfl;refine⟨dD ι k (.at b 0 c'),_,w',hle,.slc (o:=0) (off:=0) (fC _ _ _) p9 o_,cS.add gU (.inr ⟨b,c',fP,rfl,p6,dF,p7,?_⟩) (λb1 o1 kS _ e1=>?_) n_ n_,.inl (ex _ _ hr)⟩
   ·have e1:(cells.take (n*i.size)++news).length=n*i.size+m*i.size:=by rw[jM,jn,hl];omega
    rw[e1,p8];exact(mY hle L5).append (mY hle D1)
   ·injection e1 with e1 e2;subst e1;refine⟨cC eC.1 p4,eC.2,λq y o' bj hq hy wk=>?_,λq F v hq wk=>?_,λq y o' bj hq hy wk=>?_⟩
    ·unfold aV at hq;by_cases wm:q=j
     ·rw[au wm]at hq;injection hq with hq;subst hq;cases hy
     ·rw[al wm]at hq;exact wm (hm.inj q j y _ b o' bj 0 c' hq hy hj rfl wk hb)
    ·unfold aV at hq;by_cases wm:q=j
     ·rw[au wm]at hq;cases hq
     ·rw[al wm]at hq;exact λhF=>hm.apart j q _ F b 0 c' v hj rfl hb hq wk (hm.DW hq wk p4 (λk2 gi jm=>p5 k2 λe=>hm.apart j q _ F b 0 c' v hj rfl hb hq wk (e▸jm)) hF)
    ·unfold aV at hq;by_cases wm:q=j
     ·rw[au wm]at hq;injection hq with hq;subst hq;cases hy
     ·rw[al wm]at hq;exact(hm.seen q y b o' bj hq hy wk).2 j _ 0 c' hj rfl hb
  by_cases IU:n+m<=c'
  ·cases ad with
   |none=>
    obtain⟨jX,pE⟩:=L7 rfl;subst jX;subst pE;have ki:lS=[]:=kA (by simpa using cZ);subst ki;refine jw w cur (.refl w) rfl rfl (bh _) (λ_ _=>rfl) lR fo s_ IU ?_;rw[QY];have hr:=run_append_owned_none (P:=P) (w:=w) 0 t o.type e i i.size ht hi (.slice (some ⟨b,0,none⟩) n c') n (cur.toList.take (n*i.size)) ⟨eG,.inr ⟨b,c',cur,rfl,kB _,lR,by omega,dF,fo,rfl⟩⟩;simpa using hr
   |some a=>
    have hr:=run_append_room (P:=P) w t o.type e i ht hi b n c' cur lR a m c2 lS cZ (kh a rfl) (aGG D1 QW) IU (by rw[cZ,fo,<-fp];exact eZ _ IU);refine jw (w.setRow b (cur.toList.take (n*i.size)++lS++cur.toList.drop (n*i.size+lS.length)).toArray) _ ⟨rfl,bh _⟩ rfl rfl s_ (λq hq=>setRow_other w b q _ hq) (setRow_heap w b cur _ e _ lR) ?_ ?_ IU (by rw[QY];exact hr)
    ·have:=eZ i.size IU;rw[fp]at this;simp only[L8,jM,eG,u7,yi,cZ];omega
    ·have e1:(cur.toList.take (n*i.size)++lS).length=n*i.size+m*i.size:=by rw[jM,eG,cZ]
     rw[<-e1];exact QU
  ·cases ad with
   |none=>
    obtain⟨jX,_⟩:=L7 rfl;omega
   |some a=>
    have hr:=run_append_grow (P:=P) w t o.type e i z ht hi hz ⟨b,0,none⟩ n c' _ eG holds a m c2 lS cZ (kh a rfl) o_ (by have h:=h63;simp[maxLen]at h;omega) (growslice_fits o_ BV);have fG:=grownCap_ge w (n+m) c' e;have aGJ:=XH w (n+m) c' e h63;have bo:aJ B ι (aV c j .dead) w.drew:=BX.call ⟨⟨rfl,yq _⟩,rfl,rfl,bh _,λ_ _=>rfl⟩;have iP:=Ge (ty:=e) (size:=i.size) (cap:=grownCap w (n+m) c' e) (rest:=Builtin.zeroCells z.cells (grownCap w (n+m) c' e-(n+m))) bo gU (L5.append D1) aGJ (by
     have h:=L4 z.cells (grownCap w (n+m) c' e-(n+m));rw[jM,eG,cZ,h,L3,<-fp,<-fp]
     congr 1;omega)
    refine⟨_,_,_,gu (hm.dw k hk),.slc (o:=0) (off:=0) (fC _ _ _) fG o_,iP,.inl (ex _ _ ?_)⟩;rw[QY,hr];simp
theorem XI{src dst e:TypeId}(ho:o.op=.convert src dst x)(hs:P.underlying src=some (.slice e))(he:P.underlying e=some (.int .u8))(hd:P.underlying dst=some .string)
  {k off n cc:Nat} {y:Obj} {ns:List Int} (hy:y.reads=true) (Af:(y.cells.drop off).take n=ns.map (Value.int .u8)) (hlen:ns.length=n) :
  gT P B o [.slice (some ⟨k,off,some 7⟩) n cc] [(k,some y)] (.string (ns.foldl (λr n=>r.push (UInt8.ofNat n.toNat)) ByteArray.empty)) []:=by
 intro ι c ρ w aN hm hn;rw[ho]at aN;obtain⟨u,hu,hc⟩:=mz aN;have hu:ρ x=u:=by simpa[Op.operands]using hu
 refine⟨ι,_,w,Map.le.refl _,.same rfl,hm,.inl ?_⟩;have jW:=λa l c=>run_convert_bytes_string (P:=P) w src dst e a l c hs he hd;rcases L0 (B:=B) (k:=k) (off:=off) (m:=n) (cc:=cc) hy (len:=n) (λh=>h) ι c w u hm hn hc with ⟨h1,h2,h3⟩|⟨ad,c',lS,h1,h2,h3⟩
 ·subst h1;have:ns=[]:=kA hlen;subst this;simp only[execOp,ho,hu,h3];simp[jW,Conv.bytesToString]
 ·rw[Af]at h2;have h2:=mZ h2 (λv hv=>by obtain⟨q,_,rfl⟩:=de.1 hv;rfl);subst h2;have aGK:(loadCells ad n).run P w=.ok (ns.map (Value.int .u8)).toArray w:=by have:=run_loadCells_list (P:=P) (w:=w) ad (ns.map (Value.int .u8)) h3;simpa[hlen]using this
  simp only[execOp,ho,hu,h1];simp[jW,run_bytesToString w ad n c' ns aGK]
end
def fV(look:Nat->Value):Operand->Value
 |.tmp t=>look t
 |.const v=>v
 |.global g=>.pointer (some ⟨g,0,none⟩)
 |.func f=>.func (.func f) #[] #[]
def L9:Operand->Bool
 |.const v=>flat v
 |_=>true
structure fD(B:ae)(ι:Map)(look:Nat->Value)(N:Nat)(a:Act):Prop where
 defers:a.defers=B.ds
 size:a.tmps.size=N
 slot:∀ t,nJ ι (look t) (a.tmps.getD t undef)
theorem XJ{a:Act}(hf:fD B ι look N a)(hx:L9 x=true)(hn:mw (fV look x)=false):aH ι (fV look x) (a.eval x):=by
 cases x with
 |tmp t=>exact(hf.slot t).z8 hn
 |const v=>exact .same hx
 |global g=>exact .same rfl
 |func f=>exact .same rfl
theorem QZ{B:ae}{ι:Map}{look:Nat->Value}{N:Nat}{a:Act}(hf:fD B ι look N a):∀(l:List Operand),(∀ x∈l,L9 x=true/\mw (fV look x)=false)->bL (aH ι) (l.map (fV look)) (l.map a.eval)
 |[],_=>.nil
 |x::l,h=>(.cons (XJ hf (h x (aL ..)).1 (h x (aL ..)).2) (QZ hf l λy hy=>h y (bw _ hy)))
structure qz where
 val:Value
 cP:aE
 need:List (Nat×Option Obj)
variable{es:Nat->qz}
def Ma(P:j_)(look:Nat->Value)(o:Oper):Option qz:=
 if o.op.operands.toList.all (λx=>flat (fV look x))then(match LY P (execOp (fV look) o)with
   |some (.value v)=>if flat v then some ⟨v,[],[]⟩else none
   |_=>none)else none
def XK(look:Nat->Value)(c:Call):Option (Nat×TypeId×Operand×Addr×Nat):=
 match c.callee,c.args.toList,c.argTypes.toList with
 |.builtin .len,[x],[t]=>match fV look x with
  |.slice (some ad) n cc=>if mr ad then some (n,t,x,ad,cc)else none
  |_=>none
 |_,_,_=>none
def qA(P:j_)(look:Nat->Value)(g:Nat->Option Obj)(next:Nat)(o:Oper):Option qz:=
 match o.op with
 |.move x=>some ⟨fV look x,[],[]⟩
 |.assign x=>some ⟨fV look x,[],[]⟩
 |.pick c x y=>match fV look c with
  |.bool b=>some ⟨if b then fV look x else fV look y,[],[]⟩
  |_=>none
 |.alloc t=>match P.info? t with
  |some i=>match i.zero with
   |some z=>if flat z then some ⟨.pointer (some ⟨next,0,some 7⟩),[(next,.aI z.cells.toList t)],[(next,none)]⟩else none
   |none=>none
  |none=>none
 |.box t x=>some ⟨.pointer (some ⟨next,0,some 7⟩),[(next,.aI (fV look x).cells.toList t)],[(next,none)]⟩
 |.load t x=>match fV look x with
  |.pointer (some ad)=>if mr ad then(match g ad.block with
   |some y=>if y.reads then(match dE P t y.cells ad.off with|some v=>some ⟨v,[],[(ad.block,some y)]⟩|none=>none)else none
   |none=>none)else none
  |_=>none
 |.store t x y=>match fV look x with
  |.pointer (some ad)=>if mr ad then(match g ad.block with
   |some z=>if z.owns then(match eT P t z.cells ad.off (fV look y)with|some cs=>some ⟨undef,[(ad.block,z.LW cs)],[(ad.block,some z)]⟩|none=>none)else none
   |none=>none)else none
  |_=>none
 |.fieldAddr s x f=>match fV look x with
  |.pointer (some ad)=>if mr ad then(match P.underlying s with
   |some (.struct fs)=>(match fs[f]? with
    |some fd=>(match P.info? fd.type with
     |some i=>if Nat.ble 1 i.size then some ⟨.pointer (some ⟨ad.block,ad.off+fd.offset,some 7⟩),[],[]⟩else none
     |none=>none)
    |none=>none)
   |_=>none)else none
  |_=>none
 |.indexAddr t x ix=>match fV look x,fV look ix with
  |.pointer (some ad),.int _ n=>if mr ad then(match P.underlying t with
   |some (.array len e)=>(match P.info? e with
    |some i=>if 0<=n/\n<len then some ⟨.pointer (some ⟨ad.block,ad.off+n.toNat*i.size,some 7⟩),[],[]⟩else none
    |none=>none)
   |_=>none)else none
  |.slice (some ad) len _,.int _ n=>if mr ad then(match P.underlying t with
   |some (.slice e)=>(match P.info? e with
    |some i=>if 0<=n/\n<len then some ⟨.pointer (some ⟨ad.block,ad.off+n.toNat*i.size,some 7⟩),[],[]⟩else none
    |none=>none)
   |_=>none)else none
  |_,_=>none
 |.extract x i=>match fV look x with
  |.tuple vs=>(match vs[i]? with|some v=>some ⟨v,[],[]⟩|none=>none)
  |_=>none
 |.makeFunc f fi ca=>some ⟨.func f (((fi++ca).toList.map (fV look)).take fi.size).toArray (((fi++ca).toList.map (fV look)).drop fi.size).toArray,[],[]⟩
 |.call c=>match XK look c with
  |some (n,t,_)=>(match P.underlying t with|some (.slice _)=>some ⟨.int .i64 n,[],[]⟩|_=>none)
  |none=>Ma P look o
 |_=>Ma P look o
def Ag(look:Nat->Value)(o:Oper):Bool:=o.op.operands.toList.all (λx=>L9 x&&!mw (fV look x))&&(match o.op with|.select _ _=>false|_=>true)
def BZ(g:Nat->Option Obj)(next:Nat)(e:qz):Prop:=(∀ p∈e.need,(∃ x,p.2=some x/\g p.1=some x)\/(p.2=none/\next<=p.1))/\∀ p∈e.cP,∃ q∈e.need,q.1=p.1
theorem B0{a:Addr}(h:mr a=true):a=⟨a.block,a.off,some 7⟩:=by obtain⟨b,o,s⟩:=a;have:=Ga h;dsimp only at this;subst this;rfl
theorem XL{g:Nat->Option Obj}{next:Nat}{e:qz}(ax:Ag look o=true)(h:qA P look g next o=some e):
  gT P B o (o.op.operands.toList.map (fV look)) e.need e.val e.cP/\BZ g next e:=by
 simp only[Ag,cY,aY]at ax;obtain⟨yk,XM⟩:=ax;have tY:BZ g next ⟨e.val,[],[]⟩:=⟨λp hp=>(by cases hp),λp hp=>(by cases hp)⟩;have XN:Ma P look o=some e->gT P B o (o.op.operands.toList.map (fV look)) e.need e.val e.cP/\BZ g next e:=by
  intro h;unfold Ma at h;split at h
  ·rename_i cG;rw[aY]at cG;split at h
   ·rename_i v hp;split at h
    ·rename_i QT;injection h with h;subst h;refine⟨Ac (λv hv=>by obtain⟨x,hx,rfl⟩:=de.1 hv;exact cG x hx) QT λρ e6 w _=>?_,tY⟩;rw[execOp_congr (ρ:=ρ) (ρ':=fV look) o (λcs b e=>by rw[e]at XM;cases XM) (λx hx=>by obtain⟨j,hj⟩:=XB (Mb.2 hx);have:=ch (λl=>l[j]?) e6;simp only[u9,hj,QM]at this;injection this)]
     exact QS hp w
    ·cases h
   ·cases h
  ·cases h
 cases bM:o.op with
 |move x=>
  simp only[qA,bM]at h;injection h with h;subst h;exact⟨XC (.inl bM),tY⟩
 |assign x=>
  simp only[qA,bM]at h;injection h with h;subst h;exact⟨XC (.inr bM),tY⟩
 |pick c x y=>
  simp only[qA,bM]at h;split at h
  ·rename_i b hb;injection h with h;subst h;refine⟨?_,tY⟩;have:=aGw (P:=P) (B:=B) bM (b:=b) (v1:=fV look x) (v2:=fV look y);rw[<-hb]at this;exact this
  ·cases h
 |alloc t=>
  simp only[qA,bM]at h;split at h
  ·rename_i i hi;split at h
   ·rename_i z hz;split at h
    ·rename_i XO;injection h with h;subst h;exact⟨aGx bM hi hz XO next,λp hp=>.inr (by simp at hp;subst hp;exact⟨rfl,bh _⟩),λp hp=>⟨_,aL ..,by simp at hp;subst hp;rfl⟩⟩
    ·cases h
   ·cases h
  ·cases h
 |box t x=>
  simp only[qA,bM]at h;injection h with h;subst h;exact⟨aGy bM _ next,λp hp=>.inr (by simp at hp;subst hp;exact⟨rfl,bh _⟩),λp hp=>⟨_,aL ..,by simp at hp;subst hp;rfl⟩⟩
 |load t x=>
  simp only[qA,bM]at h;split at h
  ·rename_i ad hx;split at h
   ·rename_i eC;split at h
    ·rename_i y hy;split at h
     ·rename_i IV;split at h
      ·rename_i v hv;injection h with h;subst h;refine⟨?_,λp hp=>.inl ⟨y,by simp at hp;subst hp;exact⟨rfl,hy⟩⟩,λp hp=>(by cases hp)⟩;have:=Xz (P:=P) (B:=B) bM (k:=ad.block) IV hv;rw[<-B0 eC,<-hx]at this;exact this
      ·cases h
     ·cases h
    ·cases h
   ·cases h
  ·cases h
 |store t x y=>
  simp only[qA,bM]at h;split at h
  ·rename_i ad hx;split at h
   ·rename_i eC;split at h
    ·rename_i z hz;split at h
     ·rename_i hzo;split at h
      ·rename_i cs fo;injection h with h;subst h;refine⟨?_,λp hp=>.inl ⟨z,by simp at hp;subst hp;exact⟨rfl,hz⟩⟩,λp hp=>⟨_,aL ..,by simp at hp;subst hp;rfl⟩⟩;have:=XA (P:=P) (B:=B) bM (k:=ad.block) hzo fo;rw[<-B0 eC,<-hx]at this;exact this
      ·cases h
     ·cases h
    ·cases h
   ·cases h
  ·cases h
 |fieldAddr s x f=>
  simp only[qA,bM]at h;split at h
  ·rename_i ad hx;split at h
   ·rename_i eC;split at h
    ·rename_i fs hs;split at h
     ·rename_i fd u5;split at h
      ·rename_i i hi;split at h
       ·rename_i bE;injection h with h;subst h;refine⟨?_,tY⟩;have:=aGz (P:=P) (B:=B) bM hs u5 hi (pB bE) ad.block ad.off;rw[<-B0 eC,<-hx]at this;exact this
       ·cases h
      ·cases h
     ·cases h
    ·cases h
   ·cases h
  ·cases h
 |indexAddr t x ix=>
  simp only[qA,bM]at h;split at h
  ·rename_i ad kd n hx Ah;split at h
   ·rename_i eC;split at h
    ·rename_i len el ht;split at h
     ·rename_i i hi;split at h
      ·rename_i hr;injection h with h;subst h;refine⟨?_,tY⟩;have:=aGA (P:=P) (B:=B) bM ht hi (kd:=kd) hr.1 hr.2 ad.block ad.off;rw[<-B0 eC,<-hx,<-Ah]at this;exact this
      ·cases h
     ·cases h
    ·cases h
   ·cases h
  ·rename_i ad len cc kd n hx Ah;split at h
   ·rename_i eC;split at h
    ·rename_i el ht;split at h
     ·rename_i i hi;split at h
      ·rename_i hr;injection h with h;subst h;refine⟨?_,tY⟩;have:=XE (P:=P) (B:=B) bM ht hi (kd:=kd) (cc:=cc) hr.1 hr.2 ad.block ad.off;rw[<-B0 eC,<-hx,<-Ah]at this;exact this
      ·cases h
     ·cases h
    ·cases h
   ·cases h
  ·cases h
 |extract x i=>
  simp only[qA,bM]at h;split at h
  ·rename_i vs hx;split at h
   ·rename_i v hv;injection h with h;subst h;refine⟨?_,tY⟩;have:=aGB (P:=P) (B:=B) bM hv;rw[<-hx]at this;exact this
   ·cases h
  ·cases h
 |makeFunc f fi ca=>
  simp only[qA,bM]at h;injection h with h;subst h;exact⟨aGD bM,tY⟩
 |call c=>
  simp only[qA,bM]at h;split at h
  ·rename_i n t rest hl;obtain⟨x,ad,cc⟩:=rest;split at h
   ·rename_i el ht;injection h with h;subst h;refine⟨?_,tY⟩;unfold XK at hl;split at hl
    ·rename_i x' t' hc ha mC;split at hl
     ·rename_i XP n' bX hx;split at hl
      ·rename_i eC;injection hl with hl;injection hl with h1 hl;injection hl with h2 hl;injection hl with h3 hl;injection hl with h4 h5;subst h1;subst h2;subst h3;subst h4;subst h5;have kj:c={ callee:=.builtin .len,args:=#[x'],argTypes:=#[t']}:=by
        obtain⟨c1,c2,c3⟩:=c;dsimp only at hc ha mC;subst hc
        congr 1
        ·exact vf.1 ha
        ·exact vf.1 mC
       rw[kj]at bM ⊢;have:=aGE (P:=P) (B:=B) bM ht XP.block XP.off n' bX;rw[<-B0 eC,<-hx]at this;exact this
      ·cases hl
     ·cases hl
    ·cases hl
   ·cases h
  ·rw[<-bM];exact XN h
 |_=>rw[<-bM];refine XN ?_;simp only[qA,bM]at h;exact h
abbrev aM:=List (Nat×Value)
variable{fr:aM}
def bC:aM->Nat->Value
 |[],_=>Gc
 |(t,v)::l,s=>if Nat.beq t s then v else bC l s
def ai:aE->Nat->Option Obj
 |[],_=>none
 |(k,x)::l,j=>if Nat.beq k j then some x else ai l j
theorem jY(h:Nat.beq a b=true):a=b:=QJ h
theorem om(h:a≠b):Nat.beq a b=false:=by
 cases hb:Nat.beq a b with
 |false=>rfl
 |true=>exact absurd (jY hb) h
theorem wo(c:Nat->Option Obj):∀(l:aE) (k:Nat),lp c l k=match ai l k with|some x=>some x|none=>c k
 |[],k=>rfl
 |(j,x)::l,k=>by
  show(if k=j then some x else lp c l k)=match (if Nat.beq j k then some x else ai l k)with|some x=>some x|none=>c k
  by_cases h:k=j
  ·subst h;simp
  ·rw[al h,om (mB h)];exact wo c l k
theorem jz:∀(l m:aE) (k:Nat),ai (l++m) k=match ai l k with|some x=>some x|none=>ai m k
 |[],m,k=>rfl
 |(j,x)::l,m,k=>by
  show(if Nat.beq j k then some x else ai (l++m) k)=match (if Nat.beq j k then some x else ai l k)with|some x=>some x|none=>ai m k
  by_cases h:Nat.beq j k=true
  ·simp only[au h]
  ·simp only[al h];exact jz l m k
theorem iQ:∀{l:aE} {k:Nat} {x:Obj},ai l k=some x->(k,x)∈l
 |(j,y)::l,k,x,h=>by
  unfold ai at h;split at h
  ·rename_i hb;injection h with h;rw[jY hb,h];exact aL ..
  ·exact bw _ (iQ h)
def cX(c:Nat->Option Obj)(M:aE):Prop:=∀ k x,ai M k=some x->c k=some x
def eH(c:Nat->Option Obj)(next:Nat):Prop:=∀ k,next<=k->c k=none
inductive Ex where
 |normal
 |exit (id:Nat)
 |ret
def Ex.Ai:Ex->Exit
 |.normal=>.normal
 |.exit id=>.exit id
 |.ret=>.ret
def wl:Code->List Nat
 |.region _ ops _=>ops.toList.filterMap (·.dst)
 |.seq x y=>wl x++wl y
 |.cond _ x y=>wl x++wl y
 |.block _ b=>wl b
 |.loop b=>wl b
 |.scope b=>wl b
 |.rangeFunc _ ps x y=>ps.toList++(wl x++wl y)
 |_=>[]
def tZ(c:Code)(t:Nat):Bool:=(wl c).any λd=>Nat.beq d t
structure lv where
 ex:Ex
 fr:aM
 M:aE
 next:Nat
variable{r1:lv}
def af(P:j_)(B:ae)(N:Nat)(c:Code)(fr:aM)(M:aE)(next:Nat)(r:lv):Prop:=
 ∀(R:Option Nat) (ι:Map) (cc:Nat->Option Obj) (a:Act) (w:h_) (Q:Exit->Act->World->Prop),fD B ι (bC fr) N a->aJ B ι cc w->cX cc M->eH cc next->
  (∀ av bX a' w',Map.le ι av->fD B av (bC r.fr) N a'->aJ B av bX w'->cX bX r.M->eH bX r.next->(∀ k,k<next->ai M k=none->bX k=cc k)->(∀ t,tZ c t=false->a'.tmps.getD t undef=a.tmps.getD t undef)->Q r.ex.Ai a' w')->c.wpIn (FW R) 0 P Q a w
inductive aQ(P:j_)(B:ae)(N:Nat) where
 |step (key:Nat) (o:Oper) (ew:ah) (need:List (Nat×Option Obj)) (val:i_) (cP:aE) (ok:cz P B o ew need val cP)
 |call (key:Nat) (f:FuncId) (args:ah) (res:i_) (ok:∀ w,B.G w->Calls P f args.toArray w λe w'=>e=.returned res/\Below w.heap.size w w')
 |rw(key:Nat) (v v':i_) (ok:v=v')
 |code (key:Nat) (c:Code) (fr:aM) (M:aE) (next:Nat) (r:lv) (ok:af P B N c fr M next r)
inductive nN where
 |ew (l:ah)
 |obj (x:Option Obj)
 |op (o:Oper)
 |code (c:Code)
 |nat (n:Nat)
def callee(look:Nat->Value)(o:Oper):Option (FuncId×ah):=
 match o.op with
 |.call c=>match c.callee with
  |.value x=>match fV look x with
   |.func (.func f) fi ca=>some (f,fi.toList++c.args.toList.map (fV look)++ca.toList)
   |_=>none
  |_=>none
 |_=>none
def fW(P:j_)(f:FuncId):Bool:=
 match P.funcs[f]? with
 | some fn => fn.body.isSome && !(fn.name == "runtime.NumGoroutine")
 |none=>false
def Mc(o:Oper):Nat:=match o.dst with
 |some t=>t
 |none=>match o.op with
  |.store _ (.tmp t) _=>100000+t
  |_=>99999
abbrev bH(P:j_)(B:ae)(N:Nat):=List (aQ P B N)
abbrev vg:=List (nN×nN)
def XQ(next:Nat)(need:List (Nat×Option Obj)):Bool:=need.all λp=>match p.2 with|some _=>true|none=>Nat.ble next p.1
def XR(cP:aE)(need:List (Nat×Option Obj)):Bool:=cP.all λp=>need.any λq=>Nat.beq q.1 p.1
def Gf(look:Nat->Value)(g:Nat->Option Obj)(next:Nat)(o:Oper)(rs:bH P B N):Option (qz×bH P B N×vg):=
 match qA P look g next o with
 |some e=>some (e,rs,[])
 |none=>none
def Q0(look:Nat->Value)(g:Nat->Option Obj)(next:Nat)(o:Oper)(rs:bH P B N):Option (qz×bH P B N×vg):=
 if Ag look o then
  match rs with
  |.step key o' ew need val cP _::wx=>
   if Nat.beq key (Mc o)then
    (if XQ next need&&XR cP need then
     some (⟨val,cP,need⟩,wx,(.op o,.op o')::(.ew (o.op.operands.toList.map (fV look)),.ew ew)::need.filterMap λp=>match p.2 with|some x=>some (.obj (g p.1),.obj (some x))|none=>none)
    else none)
   else Gf look g next o rs
  |.call key f args res _::wx=>
   if Nat.beq key (Mc o)then
    (match callee look o with
    |some (f',args')=>if fW P f&&args.all flat&&flat res then some (⟨res,[],[]⟩,wx,[(.nat f',.nat f),(.ew args',.ew args)])else none
    |none=>none)
   else Gf look g next o rs
  |.rw key v v' _::wx=>
   if Nat.beq key (Mc o)then
    (match qA P look g next o with
    |some e=>some (⟨v',e.cP,e.need⟩,wx,[(.ew [e.val],.ew [v])])
    |none=>none)
   else Gf look g next o rs
  |_=>Gf look g next o rs
 else none
theorem Md(h:fW P f=true)(args:p_)(w:h_):(callFunc f args).run P w=.ok (.enter f args) w:=by
 unfold fW at h;split at h
 ·rename_i fn hf;simp only[cY,yr]at h;obtain⟨c,hb⟩:=Option.isSome_iff_exists.1 h.1
  have h1 : fn.name ≠ "runtime.NumGoroutine" := by simpa using h.2
  simp[callFunc,hf,h1,hb]
 ·cases h
def rE(tr:vg):Prop:=∀ p∈tr,p.1=p.2
theorem IW{R:Option Nat}{args:p_}{Rs:Ending->World->Prop}{n:Nat}:CallsIn (FW R) n P f args w Rs↔Calls P f args w Rs:=
 (callsIn_wide (n:=n):CallsIn Fence.wide n P f args w Rs↔Calls P f args w Rs)
theorem aGL(ax:Ag look o=true)(hc:callee look o=some (f,args))(eK:fW P f=true)
  (dz:∀ v∈args,flat v=true) (Aj:flat res=true) (h:∀ w,B.G w->Calls P f args.toArray w λe w'=>e=.returned res/\Below w.heap.size w w') :
  cz P B o (o.op.operands.toList.map (fV look)) [] res []:=by
 intro R ι c a w hv hm hn K Q hK;obtain⟨dst,op,ty,pos,after,guard⟩:=o;unfold callee at hc;split at hc
 ·rename_i cl ho;dsimp only at ho;subst ho;split at hc
  ·rename_i x hx;split at hc
   ·rename_i f' fi ca gK;injection hc with hc;injection hc with gj c9;subst gj;obtain⟨cal,kT,wy⟩:=cl;dsimp only at hx c9;subst hx;have yk:(Op.operands (.call ⟨.value x,kT,wy⟩)).toList=x::kT.toList:=by simp[Op.operands,Call.operands]
    dsimp only at hv;rw[yk]at hv;cases hv with
    |cons hx rD=>
    rw[gK]at hx;obtain⟨jK,gC,he,h1,h2⟩:=hx.z7;have aU:=(h1.append rD).append h2;rw[c9]at aU;have e2:=mZ aU dz;have e3:execOp a.eval ⟨dst,.call ⟨.value x,kT,wy⟩,ty,pos,after,guard⟩=callFunc f' (jK++kT.map a.eval++gC):=by have:execOp a.eval ⟨dst,.call ⟨.value x,kT,wy⟩,ty,pos,after,guard⟩=(do let d <-Deferred.ofValue (a.eval x) (kT.map a.eval);invoke d.target d.args):=rfl;rw[this,he];rfl
    have e4:(jK++kT.map a.eval++gC:p_)=args.toArray:=by rw[<-e2];apply D2;simp
    refine⟨λ_ _=>trivial,?_⟩;rw[LX _ _ _ n_,e3,e4,Md eK,Oper.uponIn_enter];refine⟨λe=>(by cases e),IW.2 ((h w hm.base).mono ?_)⟩
    rintro e w' ⟨rfl,hb⟩
    exact hK ι res w' (Map.le.refl _) (.same Aj) (hm.call hb)
   ·cases hc
  ·cases hc
 ·cases hc
theorem Q1{g:Nat->Option Obj}{next:Nat}{rs wx:bH P B N}{e:qz}{tr:vg}
  (h:Q0 look g next o rs=some (e,wx,tr)) (hs:rE tr):Ag look o=true/\cz P B o (o.op.operands.toList.map (fV look)) e.need e.val e.cP/\BZ g next e:=by
 unfold Q0 at h;split at h
 ·rename_i ax;refine⟨ax,?_⟩;have auto:∀{rs:bH P B N},Gf look g next o rs=some (e,wx,tr)->cz P B o (o.op.operands.toList.map (fV look)) e.need e.val e.cP/\BZ g next e:=by
   intro rs h;unfold Gf at h;split at h
   ·rename_i e' he;injection h with h;injection h with h1 h2;subst h1;obtain⟨q1,q2⟩:=XL (B:=B) ax he;exact⟨q1.step,q2⟩
   ·cases h
  split at h
  ·rename_i key o' ew need val cP ok D3;split at h
   ·split at h
    ·rename_i pD;injection h with h;injection h with h1 h;injection h with h2 h3;subst h1;subst h3;simp only[cY]at pD;have e1:nN.op o=.op o':=hs _ (aL ..);have e2:nN.ew _=.ew ew:=hs _ (bw _ (aL ..));injection e1 with e1;injection e2 with e2;subst e1;rw[e2];refine⟨ok,λp hp=>?_,λp hp=>?_⟩
     ·have gj:=pD.1;unfold XQ at gj;rw[aY]at gj;have iD:=gj p hp;cases D4:p.2 with
      |none=>rw[D4]at iD;exact .inr ⟨rfl,pB iD⟩
      |some x=>
       left;refine⟨x,rfl,?_⟩;have:nN.obj (g p.1)=.obj (some x):=hs _ (bw _ (bw _ (XS.2 ⟨p,hp,by rw[D4]⟩)));injection this
     ·have c9:=pD.2;unfold XR at c9;rw[aY]at c9;have:=c9 p hp;rw[rF]at this;obtain⟨q,hq,hb⟩:=this;exact⟨q,hq,jY hb⟩
    ·cases h
   ·exact auto h
  ·rename_i key f args res ok D3;split at h
   ·split at h
    ·rename_i f' args' hc;split at h
     ·rename_i pD;injection h with h;injection h with h1 h;injection h with h2 h3;subst h1;subst h3;simp only[cY,aY]at pD;have e1:nN.nat f'=.nat f:=hs _ (aL ..);have e2:nN.ew args'=.ew args:=hs _ (bw _ (aL ..));injection e1 with e1;injection e2 with e2;subst e1;subst e2;exact⟨aGL ax hc pD.1.1 pD.1.2 pD.2 ok,λp hp=>(by cases hp),λp hp=>(by cases hp)⟩
     ·cases h
    ·cases h
   ·exact auto h
  ·rename_i key v v' ok D3;split at h
   ·split at h
    ·rename_i e' he;injection h with h;injection h with h1 h;injection h with h2 h3;subst h1;subst h3;have e1:nN.ew [e'.val]=.ew [v]:=hs _ (aL ..);injection e1 with e1;injection e1 with e1 _;obtain⟨q1,q2⟩:=XL (B:=B) ax he;rw[e1,ok]at q1;exact⟨q1.step,q2⟩
    ·cases h
   ·exact auto h
  ·exact auto h
 ·cases h
def IX(fr:aM)(d:Option Nat)(v:i_):aM:=match d with|some t=>(t,v)::fr|none=>fr
def Me(fr:aM)(ops:Array Oper)(j:Nat):Option Bool:=
 match (ops[j]?).bind (·.dst)with
 |some t=>match bC fr t with|.bool b=>some b|_=>none
 |none=>none
def B3(fr:aM)(ops:Array Oper)(o:Oper):Bool:=
 match o.guard with
 |none=>true
 |some (j,want)=>match Me fr ops j with|some b=>b==want|none=>false
def B4(N:Nat)(fr:aM)(ops:Array Oper)(o:Oper):Bool:=
 (match o.guard with
 |none=>true
 |some (j,_)=>match (ops[j]?).bind (·.dst)with|some t=>flat (bC fr t)&&!mw (bC fr t)&&Nat.blt t N|none=>true)&&
 (match o.dst with|some d=>Nat.blt d N|none=>true)
theorem Q2(fr:aM)(d:Option Nat)(v:i_)(t:Nat):bC (IX fr d v) t=if d=some t then v else bC fr t:=by
 cases d with
 |none=>rfl
 |some s=>
  show(if Nat.beq s t then v else bC fr t)=_;by_cases h:s=t
  ·subst h;simp
  ·rw[om h];simp[h]
theorem fD.put(hle:Map.le ι κ){XT:Nat->Value}{a:Act}(h:fD B ι look N a){v:i_}(hv:nJ κ v v')(d:Option Nat)(hd:∀ t,d=some t->t<N)
  (hl:∀ t,XT t=if d=some t then v else look t):fD B κ XT N (a.put d v'):=by
 refine⟨by cases d<;>exact h.defers,by cases d<;>simp[Act.put,h.size],λt=>?_⟩;rw[hl t];by_cases D5:d=some t
 ·rw[au D5];subst D5;have:t<a.tmps.size:=by rw[h.size];exact hd t rfl
  have e:(a.put (some t) v').tmps.getD t undef=v':=by simp[Act.put,pF,this]
  rw[e];exact hv
 ·rw[al D5];have e:(a.put d v').tmps.getD t undef=a.tmps.getD t undef:=by
   cases d with
   |none=>rfl
   |some s=>
    have:s≠t:=λe=>D5 (by rw[e]);simp[Act.put,pF,Q3 this]
  rw[e];exact(h.slot t).mono hle
theorem Q4(a:Act)(d:Option Nat)(v:i_){t:Nat}(h:d≠some t):(a.put d v).tmps.getD t undef=a.tmps.getD t undef:=by
 cases d with
 |none=>rfl
 |some s=>
  have:s≠t:=λe=>h (by rw[e]);simp[Act.put,pF,Q3 this]
theorem aGM{a:Act}(h:fD B ι look N a)(ops:Array Oper)(j:Nat)
  (hn:∀ t,(ops[j]?).bind (·.dst)=some t->look t=bC fr t/\flat (bC fr t)=true/\mw (bC fr t)=false/\t<N):yielded ops a.tmps j=Me fr ops j:=by
 unfold yielded Me;cases hd:(ops[j]?).bind (·.dst)with
 |none=>rfl
 |some t=>
  simp only[XU];obtain⟨h1,cG,h2,h3⟩:=hn t hd;have ao:t<a.tmps.size:=by rw[h.size];exact h3
  have hs:=h.slot t;rw[h1]at hs;have hs:=(hs.z8 h2).fh cG;rw[show a.tmps.getD t undef=a.tmps[t]by simp[pF,ao]]at hs;rw[yt ao,hs];cases bC fr t<;>rfl
theorem XV{a:Act}(h:fD B ι look N a)(ops:Array Oper)(o:Oper)(hg:B4 N fr ops o=true)
  (hl:∀ j b,o.guard=some (j,b)->∀ t,(ops[j]?).bind (·.dst)=some t->look t=bC fr t):Region.wanted o (yielded ops a.tmps)=B3 fr ops o:=by
 unfold Region.wanted B3;unfold B4 at hg;simp only[cY]at hg;have hg:=hg.1;cases nO:o.guard with
 |none=>rfl
 |some gd=>
  obtain⟨j,want⟩:=gd;rw[nO]at hg;dsimp only at hg ⊢;rw[aGM h ops j λt ht=>by rw[ht]at hg;simp only[cY,yr]at hg;exact⟨hl j want nO t ht,hg.1.1,hg.1.2,by simpa[yu]using hg.2⟩]
  cases Me fr ops j with
  |none=>rfl
  |some b=>cases b<;>cases want<;>rfl
theorem XW{ops:Array Oper}(hg:B4 N fr ops o=true):∀ t,o.dst=some t->t<N:=by intro t ht;unfold B4 at hg;simp only[cY]at hg;have:=hg.2;rw[ht]at this;simpa[yu]using this
def Ak(next:Nat)(cP:aE):Nat:=cP.foldl (λn p=>if Nat.ble n p.1 then p.1+1 else n) next
theorem Gg:∀(cP:aE) (next:Nat),next<=Ak next cP
 |[],next=>bh _
 |p::l,next=>by
  show next<=Ak (if Nat.ble next p.1 then p.1+1 else next) l;refine dc ?_ (Gg l _);split
  ·rename_i h;have:=pB h;omega
  ·exact bh _
theorem XX:∀(cP:aE) (next:Nat),∀ p∈cP,p.1<Ak next cP
 |q::l,next,p,hp=>by
  show p.1<Ak (if Nat.ble next q.1 then q.1+1 else next) l;rcases b9.1 hp with rfl|hp
  ·refine cC ?_ (Gg l _);split
   ·omega
   ·rename_i h;rcases eU p.1 next with h1|h1
    ·exact h1
    ·exact absurd (Q5 h1) h
  ·exact XX l _ p hp
theorem Q6{cc:Nat->Option Obj}{next:Nat}{e:qz}(hn:BZ (ai M) next e)(ha:cX cc M)(hu:eH cc next):
  (∀ p∈e.need,cc p.1=p.2)/\cX (lp cc e.cP) (e.cP++M)/\eH (lp cc e.cP) (Ak next e.cP)/\(∀ k,k<next->ai M k=none->ai (e.cP++M) k=none/\lp cc e.cP k=cc k):=by
 refine⟨λp hp=>?_,λk x hk=>?_,λk hk=>?_,λk hk hM=>?_⟩
 ·rcases hn.1 p hp with ⟨x,h1,h2⟩|⟨h1,h2⟩
  ·rw[h1];exact ha _ _ h2
  ·rw[h1];exact hu _ h2
 ·rw[jz]at hk;rw[wo];cases h:ai e.cP k with
  |some y=>rw[h]at hk;exact hk
  |none=>rw[h]at hk;exact ha k x hk
 ·rw[wo];cases h:ai e.cP k with
  |some y=>have:=XX e.cP next _ (iQ h);dsimp only at this;omega
  |none=>exact hu k (dc (Gg _ _) hk)
 ·have:ai e.cP k=none:=by
   cases h:ai e.cP k with
   |none=>rfl
   |some y=>
    exfalso;obtain⟨q,hq,rG⟩:=hn.2 _ (iQ h);dsimp only at rG;rcases hn.1 q hq with ⟨x,h1,h2⟩|⟨h1,h2⟩
    ·rw[rG,hM]at h2;cases h2
    ·omega
  exact⟨by rw[jz,this];exact hM,by rw[wo,this]⟩
structure qB(P:j_)(B:ae)(N:Nat) where
 fr:aM
 M:aE
 next:Nat
 rs:bH P B N
 tr:vg
 ni:List (List Nat×List Nat)
def keys(l:List (Nat×α)):List Nat:=l.map (·.1)
def qB.more(r:qB P B N)(tr:vg)(e:List Nat×List Nat):qB P B N:=⟨r.fr,r.M,r.next,r.rs,tr++r.tr,e::r.ni⟩
def yv{P:j_}{B:ae}{N:Nat}(ops:Array Oper):List Oper->aM->aE->Nat->bH P B N->Option (qB P B N)
 |[],fr,M,next,rs=>some ⟨fr,M,next,rs,[],[]⟩
 |o::l,fr,M,next,rs=>
  if B4 N fr ops o then
   if B3 fr ops o then
    match Q0 (P:=P) (bC fr) (ai M) next o rs with
    |some (e,D3,D6)=>match yv ops l (IX fr o.dst e.val) (e.cP++M) (Ak next e.cP) D3 with
     |some r=>some (r.more D6 (keys e.need,keys e.cP))
     |none=>none
    |none=>none
   else match yv ops l (IX fr o.dst undef) M next rs with
    |some r=>some (r.more [] ([],[]))
    |none=>none
  else none
def wz(l:List Oper)(t:Nat):Bool:=l.any λo=>match o.dst with|some d=>Nat.beq d t|none=>false
theorem XY{l:List Oper}{t:Nat}(h:wz (o::l) t=false):o.dst≠some t/\wz l t=false:=by unfold wz at h;rw[List.any_cons,Mf]at h;refine⟨λe=>?_,h.2⟩;rw[e]at h;simp at h
def Q7(B:ae)(N:Nat)(cc:Nat->Option Obj)(M:aE)(next:Nat)(ι:Map)(a:Act)(wr:Nat->Bool)(r:qB P B N)(K:Act->World->Prop):Prop:=
 ∀ av bX a' w',Map.le ι av->fD B av (bC r.fr) N a'->aJ B av bX w'->cX bX r.M->eH bX r.next->(∀ k,k<next->ai M k=none->bX k=cc k)->
  (∀ t,wr t=false->a'.tmps.getD t undef=a.tmps.getD t undef)->K a' w'
theorem Q8{R:Option Nat}{P:j_}{B:ae}{N:Nat}{ops:Array Oper}{Q:Exit->Act->World->Prop}:∀(l:List Oper) {fr:aM} {M:aE} {next:Nat} {rs:bH P B N} {r:qB P B N} {ι:Map} {cc:Nat->Option Obj} {a:Act} {w:h_},
  yv ops l fr M next rs=some r->rE r.tr->fD B ι (bC fr) N a->aJ B ι cc w->cX cc M->eH cc next->
  Q7 B N cc M next ι a (wz l) r (Q .normal)->wpListIn (FW R) 0 P ops Q l a w
 |[],fr,M,next,rs,r,ι,cc,a,w,h,_,hf,hm,ha,hu,hQ=>by injection h with h;subst h;exact hQ ι cc a w (Map.le.refl _) hf hm ha hu (λ_ _ _=>rfl) (λ_ _=>rfl)
 |o::l,fr,M,next,rs,r,ι,cc,a,w,h,hs,hf,hm,ha,hu,hQ=>by
  unfold yv at h;unfold wpListIn;by_cases nO:B4 N fr ops o=true
  case neg=>rw[al nO]at h;cases h
  rw[au nO]at h;have B5:=XW nO;rw[XV hf ops o nO λ_ _ _ _ _=>rfl];split at h
  ·rename_i hw;rw[au hw];split at h
   ·rename_i e D3 D6 bK;split at h
    ·rename_i r2 ua;injection h with h;subst h;have wB:rE D6:=λp hp=>hs p (eA.2 (.inl hp));have Q9:rE r2.tr:=λp hp=>hs p (eA.2 (.inr hp));obtain⟨ax,vh,oq⟩:=Q1 (B:=B) bK wB;simp only[Ag,cY,aY,yr]at ax;obtain⟨q1,q2,q3,q4⟩:=Q6 oq ha hu;refine(vh R ι cc a w (QZ hf _ λx hx=>ax.1 x hx) hm q1 _ _ λav v' w' hle hv bo=>?_);refine Q8 l ua Q9 (hf.put hle (.inr hv) o.dst B5 λt=>Q2 _ _ _ _) bo q2 q3 λdq qC a2 w2 kC jm dx fX eF gi nP=>?_;refine hQ dq qC a2 w2 (hle.trans kC) jm dx fX eF (λk hk hM=>?_) λt ht=>?_
     ·obtain⟨q5,q6⟩:=q4 k hk hM;rw[gi k (cC hk (Gg _ _)) q5,q6]
     ·obtain⟨t1,t2⟩:=XY ht;rw[nP t t2,Q4 _ _ _ t1]
    ·cases h
   ·cases h
  ·rename_i hw;rw[al hw];split at h
   ·rename_i r2 ua;injection h with h;subst h;refine⟨λ_ _=>trivial,?_⟩;refine Q8 l ua (λp hp=>hs p (eA.2 (.inr hp))) (hf.put (Map.le.refl _) (v:=undef) (v':=undef) (.inr (.same rfl)) o.dst B5 λt=>Q2 _ _ _ _) hm ha hu λdq qC a2 w2 kC jm dx fX eF gi nP=>?_;refine hQ dq qC a2 w2 kC jm dx fX eF gi λt ht=>?_;obtain⟨t1,t2⟩:=XY ht;rw[nP t t2,Q4 _ _ _ t1]
   ·cases h
theorem aGN{R:Option Nat}{ops:Array Oper}{Q:Exit->Act->World->Prop}(Inv:(Nat->Bool)->Act->World->Prop)
  (aGO:∀ i o,ops[i]?=some o->∀ e∈o.after,Region.binds .any e=true->e.on<i)
  (step:∀ L a w i o,Inv L a w->ops[i]?=some o->L i=false->(∀ e∈o.after,Region.binds .any e=true->L e.on=true)->wpOpIn (FW R) 0 P ops Q i (λa' w'=>Inv (λj=>L j||j==i) a' w') a w)
  (fin:∀ L a w,(∀ i,i<ops.size->L i=true)->Inv L a w->Q .normal a w)
  (aGP:∀ L L' a w,(∀ j,L j=L' j)->Inv L a w->Inv L' a w) :
  ∀(fuel:Nat) (listed:Array Bool) (a:Act) (w:h_),listed.size=ops.size->(listed.toList.countP (λb=>b=false))=fuel->Inv (λj=>listed.getD j false) a w->
   wpAnyIn (FW R) 0 P .any ops Q fuel listed a w:=by
 have aGQ:∀ listed:Array Bool,listed.size=ops.size->Region.ready .any ops listed=[]->∀ i,i<ops.size->listed.getD i false=true:=by
  intro listed bE hr i;induction i using Nat.strongRecOn with
  |_ i ih=>
   intro hi;cases h:listed.getD i false with
   |true=>rfl
   |false=>
    exfalso;have:i∈Region.ready .any ops listed:=by
     rw[mem_ready];refine⟨?_,ops[i],yt hi,λe he hb=>?_⟩
     ·have il:i<listed.size:=by omega
      simp[pF,il]at h ⊢;exact h
     ·have:=aGO i ops[i] (yt hi) e he hb;exact ih e.on this o_
    rw[hr]at this;cases this
 intro fuel;induction fuel with
 |zero=>
  intro listed a w bE hc hI;have aU:∀ i,i<ops.size->listed.getD i false=true:=by
   intro i hi;have il:i<listed.size:=by omega
   have h0:=List.countP_eq_zero.1 hc listed[i] s_;simp[pF,il];simpa using h0
  refine⟨?_,fin _ a w aU hI⟩;cases hr:Region.ready .any ops listed with
  |nil=>rfl
  |cons i l=>
   have:i∈Region.ready .any ops listed:=by rw[hr];exact aL ..
   rw[mem_ready]at this;obtain⟨h1,o,ho,_⟩:=this;have hi:i<ops.size:=by
    rcases eU i ops.size with h|h
    ·exact h
    ·rw[XZ h]at ho;cases ho
   have h2:=aU i hi;have il:i<listed.size:=by omega
   simp[pF,il]at h1 h2;rw[h1]at h2;cases h2
 |succ fuel ih=>
  intro listed a w bE hc hI;refine⟨λhr=>fin _ a w (aGQ listed bE hr) hI,λi hi=>?_⟩;rw[mem_ready]at hi;obtain⟨h1,o,ho,aU⟩:=hi;have hi:i<ops.size:=by
   rcases eU i ops.size with h|h
   ·exact h
   ·rw[XZ h]at ho;cases ho
  have il:i<listed.size:=by omega
  have oh:listed.getD i false=false:=by simp[pF,il]at h1 ⊢;exact h1
  refine wpOpIn_mono (λa' w' h=>?_) (step _ a w i o hI ho oh aU);refine ih (listed.setIfInBounds i true) a' w' (by simp[bE]) ?_ (aGP _ _ a' w' (λj=>?_) h)
  ·have ao:i<listed.toList.length:=by simpa using il
   have IY:listed.toList[i]=false:=by simp[pF,il]at oh;simpa using oh
   rw[aGR];have key:∀(l:List Bool) (i:Nat) (h:i<l.length),l[i]=false->(l.set i true).countP (λb=>b=false)+1=l.countP (λb=>b=false):=by
    intro l;induction l with
    |nil=>intro i h;simp at h
    |cons b l ih=>
     intro i h hb;cases i with
     |zero=>simp at hb;subst hb;simp
     |succ i=>
      simp at hb h;have:=ih i h hb;simp only[List.set_cons_succ,List.countP_cons];omega
   have:=key listed.toList i ao IY;omega
  ·by_cases oU:j=i
   ·subst oU;simp[pF,il]
   ·have:(listed.setIfInBounds i true).getD j false=listed.getD j false:=by simp[pF,Q3 (mB oU)]
    rw[this];simp[oU]
def IZ(acc:l_)(o:Oper):Nat:=o.after.toList.foldl (λs e=>if Region.binds .any e then s||| (2^e.on||| acc.getD e.on 0)else s) 0
def B6:List Oper->List Nat->List Nat
 |[],acc=>acc
 |o::l,acc=>B6 l (acc++[IZ acc o])
def I0(o:Oper):List Nat:=o.op.operands.toList.filterMap λ| .tmp t=>some t|_=>none
theorem X0(acc:l_):∀(es:List Edge) (s j:Nat),(es.foldl (λs e=>if Region.binds .any e then s||| (2^e.on||| acc.getD e.on 0)else s) s).testBit j=true->
  s.testBit j=true\/∃ e∈es,Region.binds .any e=true/\(e.on=j\/(acc.getD e.on 0).testBit j=true)
 |[],s,j,h=>.inl h
 |e::es,s,j,h=>by
  rw[vi]at h;rcases X0 acc es _ j h with h|⟨e',ub,h⟩
  ·by_cases hb:Region.binds .any e=true
   ·rw[au hb,X1,X1,Nat.testBit_two_pow]at h;simp only[rH,rI]at h;rcases h with h|h|h
    ·exact .inl h
    ·exact .inr ⟨e,aL ..,hb,.inl h⟩
    ·exact .inr ⟨e,aL ..,hb,.inr h⟩
   ·rw[al hb]at h;exact .inl h
  ·exact .inr ⟨e',bw _ ub,h⟩
def X2(ops:List Oper)(acc:l_):Prop:=
 ∀ k,k<acc.length->∀ j,(acc.getD k 0).testBit j=true->∃ o,ops[k]?=some o/\∃ e∈o.after,Region.binds .any e=true/\(e.on=j\/(acc.getD e.on 0).testBit j=true)
theorem X3:∀(l pre:List Oper) (acc:l_),acc.length=pre.length->X2 (pre++l) acc->
  (∀ i o,(pre++l)[i]?=some o->∀ e∈o.after,Region.binds .any e=true->e.on<i)->X2 (pre++l) (B6 l acc)/\(B6 l acc).length=(pre++l).length
 |[],pre,acc,hl,hg,_=>⟨hg,by simp[B6,hl]⟩
 |o::l,pre,acc,hl,hg,hd=>by
  have e:pre++o::l=(pre++[o])++l:=by simp
  rw[e]at hg hd ⊢;refine X3 l (pre++[o]) (acc++[IZ acc o]) (by simp[hl]) ?_ hd;have cT:∀ k,k<acc.length->(acc++[IZ acc o]).getD k 0=acc.getD k 0:=λk hk=>by rw[D7,D7,I1 hk]
  intro k hk j hj;rcases eU k acc.length with ao|fG
  ·rw[cT k ao]at hj;obtain⟨o',rJ,e',ub,hb,h⟩:=hg k ao j hj;refine⟨o',rJ,e',ub,hb,?_⟩;rcases h with h|h
   ·exact .inl h
   ·right;have:e'.on<k:=hd k o' rJ e' ub hb;rw[cT _ o_];exact h
  ·have gU:k=acc.length:=by simp at hk;omega
   subst gU;have ho:((pre++[o])++l)[acc.length]?=some o:=by rw[hl];simp
   have hm:(acc++[IZ acc o]).getD acc.length 0=IZ acc o:=by rw[D7,D8 (bh _)];simp
   rw[hm]at hj;rcases X0 acc o.after.toList 0 j hj with h|⟨e',ub,hb,h⟩
   ·simp at h
   ·have ub:e'∈o.after:=Mb.1 ub;refine⟨o,ho,e',ub,hb,?_⟩;rcases h with h|h
    ·exact .inl h
    ·right;have:e'.on<acc.length:=hd acc.length o ho e' ub hb;rw[cT _ this];exact h
def gL{α:Type}(u:Nat->Nat->Option α)(c0:Nat->α)(L:Nat->Bool):Nat->Nat->α
 |0,k=>c0 k
 |i+1,k=>if L i then(match u i k with|some x=>x|none=>gL u c0 L i k)else gL u c0 L i k
theorem X4(u:Nat->Nat->Option α)(c0:Nat->α)(L:Nat->Bool)(i k:Nat):gL u c0 L (i+1) k=if L i then(match u i k with|some x=>x|none=>gL u c0 L i k)else gL u c0 L i k:=rfl
theorem Ra{u:Nat->Nat->Option α}{c0:Nat->α}{L:Nat->Bool}:∀(n:Nat),i<=n->(∀ j,j<n->u j k≠none->(L j=true↔j<i))->gL u c0 L n k=gL u c0 (λ_=>true) i k:=by
 have below:∀ m,m<=i->(∀ j,j<m->u j k≠none->L j=true)->gL u c0 L m k=gL u c0 (λ_=>true) m k:=by
  intro m;induction m with
  |zero=>intro _ _;rfl
  |succ m ih=>
   intro hm h;show(if L m then _ else _)=(if true then _ else _);have ih:=ih o_ λj hj=>h j o_;cases hu:u m k with
   |none=>simp only[ih];simp
   |some x=>rw[h m o_ (by rw[hu];exact n_)];rfl
 intro n;induction n with
 |zero=>
  intro hi _;have:i=0:=by omega
  subst this;rfl
 |succ n ih=>
  intro hi h;rcases eU n i with ao|fG
  ·have:i=n+1:=by omega
   subst this;exact below (n+1) (bh _) λj hj hu=>(h j hj hu).2 hj
  ·have ih:=ih fG λj hj=>h j o_;show(if L n then _ else _)=_;cases hu:u n k with
   |none=>simp only[ih];simp
   |some x=>
    have:L n=false:=by
     cases hL:L n with
     |false=>rfl
     |true=>have:=(h n o_ (by rw[hu];exact n_)).1 hL;omega
    rw[this,ih];rfl
theorem X5{u:Nat->Nat->Option α}{c0:Nat->α}{L:Nat->Bool}(hi:L i=false)(hk:∀ j,j<m->i<j->L j=true->u i k≠none->u j k=none):
  ∀(n:Nat),n<=m->i<n->gL u c0 (λj=>L j||j==i) n k=match u i k with|some x=>x|none=>gL u c0 L n k:=by
 have before:∀ m,m<=i->gL u c0 (λj=>L j||j==i) m k=gL u c0 L m k:=by
  intro m;induction m with
  |zero=>intro _;rfl
  |succ m ih=>
   intro hm;show(if(L m||m==i)then _ else _)=(if L m then _ else _);rw[ih o_];have:(m==i)=false:=by simp;omega
   rw[this,Bool.or_false]
 intro n;induction n with
 |zero=>intro _ h;omega
 |succ n ih=>
  intro lA h;show(if(L n||n==i)then(match u n k with|some x=>x|none=>gL u c0 (λj=>L j||j==i) n k)else gL u c0 (λj=>L j||j==i) n k)=match u i k with|some x=>x|none=>(if L n then(match u n k with|some x=>x|none=>gL u c0 L n k)else gL u c0 L n k)
  rcases eU i n with ao|fG
  ·rw[ih o_ ao];have e:(n==i)=false:=by simp;omega
   rw[e,Bool.or_false];cases hL:L n with
   |false=>simp
   |true=>
    cases hu:u i k with
    |none=>rfl
    |some x=>rw[hk n o_ ao hL (by rw[hu];exact n_)];rfl
  ·have:i=n:=by omega
   subst this;rw[before i (bh _),hi];simp
def Mg(ops:List Oper)(o:Oper):List Nat:=match o.guard with
 |some (j,_)=>match (ops[j]?).bind (·.dst)with|some t=>[t]|none=>[]
 |none=>[]
def Rb(ops:List Oper)(o:Oper)(t:Nat):Bool:=(I0 o++Mg ops o).any λs=>Nat.beq s t
def Mh(l m:l_):Bool:=l.any λa=>m.any λb=>Nat.beq a b
def wC(ops:List Oper)(o:Oper)(e:List Nat×List Nat)(p:Oper)(f:List Nat×List Nat):Bool:=
 (match p.dst with|some t=>Rb ops o t||(match o.dst with|some d=>Nat.beq d t|none=>false)|none=>false)||Mh f.2 e.1
def D9(ops:List Oper)(ni:List (List Nat×List Nat)):Bool:=
 (List.range ops.length).all λi=>match ops[i]?,ni[i]? with
  |some o,some e=>(o.after.toList.all λg=>!Region.binds .any g||Nat.blt g.on i)&&
   (List.range i).all λj=>Nat.testBit ((B6 ops []).getD i 0) j||(match ops[j]?,ni[j]? with|some p,some f=>!wC ops o e p f&&!wC ops p f o e|_,_=>false)
  |_,_=>false
section
variable{P:j_}{B:ae}{N:Nat}{ops:Array Oper}
structure Rc(P:j_)(B:ae)(N:Nat)(ops:Array Oper)(l:List Oper)(fr:aM)(M:aE)(next:Nat)(r:qB P B N) where
 rK:Nat->aM
 Ms:Nat->aE
 Al:Nat->Nat
 es:Nat->qz
 X6:rK 0=fr
 Re:Ms 0=M
 Rf:Al 0=next
 X7:rK l.length=r.fr
 X8:Ms l.length=r.M
 X9:Al l.length=r.next
 ni:∀ i,i<l.length->r.ni[i]?=some (keys (es i).need,keys (es i).cP)
 step:∀ i o,l[i]?=some o->B4 N (rK i) ops o=true/\rK (i+1)=IX (rK i) o.dst (es i).val/\Ms (i+1)=(es i).cP++Ms i/\Al (i+1)=Ak (Al i) (es i).cP/\BZ (ai (Ms i)) (Al i) (es i)/\
  ((B3 (rK i) ops o=true/\Ag (bC (rK i)) o=true/\cz P B o (o.op.operands.toList.map (fV (bC (rK i)))) (es i).need (es i).val (es i).cP)\/(B3 (rK i) ops o=false/\es i=⟨undef,[],[]⟩))
theorem Rg:∀(l:List Oper) {fr:aM} {M:aE} {next:Nat} {rs:bH P B N} {r:qB P B N},yv ops l fr M next rs=some r->rE r.tr->Nonempty (Rc P B N ops l fr M next r)
 |[],fr,M,next,rs,r,h,_=>by injection h with h;subst h;exact⟨⟨λ_=>fr,λ_=>M,λ_=>next,λ_=>⟨undef,[],[]⟩,rfl,rfl,rfl,rfl,rfl,rfl,λi hi=>by simp at hi,λi o h=>by simp at h⟩⟩
 |o::l,fr,M,next,rs,r,h,hs=>by
  unfold yv at h;by_cases nO:B4 N fr ops o=true
  case neg=>rw[al nO]at h;cases h
  rw[au nO]at h;have build:∀(e:qz) (r2:qB P B N) (tr:vg),r=r2.more tr (keys e.need,keys e.cP)->BZ (ai M) next e->Nonempty (Rc P B N ops l (IX fr o.dst e.val) (e.cP++M) (Ak next e.cP) r2)->
    ((B3 fr ops o=true/\Ag (bC fr) o=true/\cz P B o (o.op.operands.toList.map (fV (bC fr))) e.need e.val e.cP)\/(B3 fr ops o=false/\e=⟨undef,[],[]⟩))->Nonempty (Rc P B N ops (o::l) fr M next r):=by
   rintro e r2 tr rfl bd ⟨T⟩ bK
   refine⟨⟨λi=>match i with|0=>fr|i+1=>T.rK i,λi=>match i with|0=>M|i+1=>T.Ms i,λi=>match i with|0=>next|i+1=>T.Al i,λi=>match i with|0=>e|i+1=>T.es i,rfl,rfl,rfl,T.X7,T.X8,T.X9,λi hi=>?_,λi o' ho=>?_⟩⟩
   ·cases i with
    |zero=>rfl
    |succ i=>exact T.ni i (by simpa using hi)
   ·cases i with
    |zero=>
     simp at ho;subst ho;exact⟨nO,T.X6,T.Re,T.Rf,bd,bK⟩
    |succ i=>exact T.step i o' (by simpa using ho)
  split at h
  ·rename_i hw;split at h
   ·rename_i e D3 D6 bK;split at h
    ·rename_i r2 ua;injection h with h;have oV:rE D6/\rE r2.tr:=by subst h;exact⟨λp hp=>hs p (eA.2 (.inl hp)),λp hp=>hs p (eA.2 (.inr hp))⟩
     obtain⟨ax,vh,oq⟩:=Q1 (B:=B) bK oV.1;exact build e r2 D6 h.symm oq (Rg l ua oV.2) (.inl ⟨hw,ax,vh⟩)
    ·cases h
   ·cases h
  ·rename_i hw;split at h
   ·rename_i r2 ua;injection h with h;have oV:rE r2.tr:=by subst h;exact λp hp=>hs p (eA.2 (.inr hp))
    exact build ⟨undef,[],[]⟩ r2 [] h.symm ⟨λp hp=>(by cases hp),λp hp=>(by cases hp)⟩ (Rg l ua oV) (.inr ⟨by simpa using hw,rfl⟩)
   ·cases h
def Mi(ops:List Oper)(L:Nat->Bool):Prop:=∀ i o,ops[i]?=some o->L i=true->∀ e∈o.after,Region.binds .any e=true->L e.on=true
theorem Gh{l:List α}{x:α}(h:l[i]?=some x):i<l.length:=by
 rcases eU i l.length with h1|h1
 ·exact h1
 ·rw[yj h1]at h;cases h
theorem Rh{l:List Oper}{ni:List (List Nat×List Nat)}(h:D9 l ni=true)(ho:l[i]?=some o):∀ e∈o.after,Region.binds .any e=true->e.on<i:=by
 intro e he hb;unfold D9 at h;rw[aY]at h;have:=h i (kk.2 (Gh ho));rw[ho]at this;split at this
 ·rename_i o' e' h1 h2;injection h1 with h1;subst h1;simp only[cY,aY]at this;have:=this.1 e (Mb.2 he);rw[hb]at this;simpa[yu]using this
 ·cases this
theorem Ya{l:List Oper}{ni:List (List Nat×List Nat)}(h:D9 l ni=true){p:Oper}{e f:List Nat×List Nat}(ho:l[i]?=some o)(he:ni[i]?=some e)(hp:l[j]?=some p)(hf:ni[j]?=some f)(hj:j<i):
  ((B6 l []).getD i 0).testBit j=true\/(wC l o e p f=false/\wC l p f o e=false):=by
 unfold D9 at h;rw[aY]at h;have:=h i (kk.2 (Gh ho));rw[ho,he]at this;dsimp only at this;simp only[cY,aY]at this;have:=this.2 j (kk.2 hj);rw[hp,hf]at this;simpa using this
theorem Yb{l:List Oper}{ni:List (List Nat×List Nat)}(h:D9 l ni=true){L:Nat->Bool}(hL:Mi l L):∀(i:Nat) (o:Oper),l[i]?=some o->(∀ e∈o.after,Region.binds .any e=true->L e.on=true)->
  ∀ j,((B6 l []).getD i 0).testBit j=true->L j=true/\j<i:=by
 obtain⟨hg,hlen⟩:=X3 l [] [] rfl (λk hk=>by simp at hk) (λi o ho e he hb=>Rh h (by simpa using ho) e he hb);simp only[jy]at hg hlen;intro i;induction i using Nat.strongRecOn with
 |_ i ih=>
  intro o ho hd j hj;have hi:i<(B6 l []).length:=by rw[hlen];exact Gh ho
  obtain⟨o',rJ,e,he,hb,kU⟩:=hg i hi j hj;rw[ho]at rJ;injection rJ with rJ;subst rJ;have ao:=Rh h ho e he hb;have Yc:=hd e he hb;rcases kU with rfl|kU
  ·exact⟨Yc,ao⟩
  ·have aGS:e.on<l.length:=by
    have:i<l.length:=by rw[<-hlen];exact hi
    omega
   have Yd:=aW aGS;obtain⟨h1,h2⟩:=ih e.on ao _ Yd (λe' ub kD=>hL e.on _ Yd Yc e' ub kD) j kU;exact⟨h1,by omega⟩
theorem Ye{l m:l_}(h1:a∈l)(h2:a∈m):Mh l m=true:=by unfold Mh;rw[rF];refine⟨a,h1,?_⟩;rw[rF];exact⟨a,h2,by simp⟩
theorem aGT{l:List Oper}{t:Nat}(h:t∈I0 o++Mg l o):Rb l o t=true:=by unfold Rb;rw[rF];exact⟨t,h,by simp⟩
theorem Ri{l:List (Nat×α)}{p:Nat×α}(h:p∈l):p.1∈keys l:=de.2 ⟨p,h,rfl⟩
theorem aGU{t:Nat}(h:Operand.tmp t∈o.op.operands):t∈I0 o:=by unfold I0;exact XS.2 ⟨.tmp t,Mb.2 h,rfl⟩
def uS(ops:List Oper)(es:Nat->qz)(j t:Nat):Option Value:=match (ops[j]?).bind (·.dst)with|some d=>if d=t then some (es j).val else none|none=>none
def uM(es:Nat->qz)(j k:Nat):Option (Option Obj):=match ai (es j).cP k with|some x=>some (some x)|none=>none
theorem Yf(k:Nat):lp c (es i).cP k=match uM es i k with|some x=>x|none=>c k:=by rw[wo];unfold uM;cases ai (es i).cP k<;>rfl
theorem Rj(h:uM es i k≠none):k∈keys (es i).cP:=by
 unfold uM at h;cases hk:ai (es i).cP k with
 |none=>rw[hk]at h;exact absurd rfl h
 |some x=>exact Ri (iQ hk)
theorem Rk{l:List Oper}{t:Nat}(h:uS l es j t≠none):∃ p,l[j]?=some p/\p.dst=some t:=by
 unfold uS at h;cases hp:l[j]? with
 |none=>rw[hp]at h;exact absurd rfl h
 |some p=>
  rw[hp]at h;simp only[XU]at h;cases hd:p.dst with
  |none=>rw[hd]at h;exact absurd rfl h
  |some d=>
   rw[hd]at h;dsimp only at h;by_cases D5:d=t
   ·exact⟨p,rfl,by rw[hd,D5]⟩
   ·rw[al D5]at h;exact absurd rfl h
theorem Yg{l:List Oper}{t:Nat}{p:Oper}(hp:l[j]?=some p):uS l es j t=if p.dst=some t then some (es j).val else none:=by
 unfold uS;rw[hp];simp only[XU];cases p.dst with
 |none=>rfl
 |some d=>by_cases h:d=t<;>simp[h]
theorem aGV{R:Option Nat}{next:Nat}{rs:bH P B N}{r:qB P B N}{cc:Nat->Option Obj}{Q:Exit->Act->World->Prop}{a:Act}{id:Nat}(iq:P.follows .mixedOrders=true)
  (hs:yv ops ops.toList fr M next rs=some r) (Aa:rE r.tr) (h:D9 ops.toList r.ni=true) (hf:fD B ι (bC fr) N a) (hm:aJ B ι cc w) (ha:cX cc M) (hu:eH cc next)
  (hQ:Q7 B N cc M next ι a (wz ops.toList) r (Q .normal)):(Code.region id ops true).wpIn (FW R) 0 P Q a w:=by
 obtain⟨T⟩:=Rg _ hs Aa;have yg:ops.size=ops.toList.length:=by simp
 have IY:∀(i:Nat),ops[i]?=ops.toList[i]?:=λi=>by simp
 generalize hn:ops.toList.length=n at *
 -- the order of the text
 have text:∀ i,i<=n->(∀ t,bC (T.rK i) t=gL (uS ops.toList T.es) (bC fr) (λ_=>true) i t)/\cX (gL (uM T.es) cc (λ_=>true) i) (T.Ms i)/\eH (gL (uM T.es) cc (λ_=>true) i) (T.Al i)/\next<=T.Al i/\
   (∀ k,k<next->ai M k=none->ai (T.Ms i) k=none/\gL (uM T.es) cc (λ_=>true) i k=cc k):=by
  intro i;induction i with
  |zero=>intro _;exact⟨λt=>by rw[T.X6];rfl,by rw[T.Re];exact ha,by rw[T.Rf];exact hu,by rw[T.Rf];exact bh _,λk _ hk=>⟨by rw[T.Re];exact hk,rfl⟩⟩
  |succ i ih=>
   intro hi;obtain⟨h1,h2,h3,h4,h5⟩:=ih o_;have ho:=aW (l:=ops.toList) (i:=i) o_;obtain⟨_,s2,s3,s4,s5,_⟩:=T.step i _ ho;obtain⟨q1,q2,q3,q4⟩:=Q6 s5 h2 h3;have e:gL (uM T.es) cc (λ_=>true) (i+1)=lp (gL (uM T.es) cc (λ_=>true) i) (T.es i).cP:=funext λk=>by rw[Yf,X4];cases uM T.es i k<;>rfl
   refine⟨λt=>?_,by rw[s3,e];exact q2,by rw[s4,e];exact q3,by rw[s4];exact dc h4 (Gg _ _),λk hk hM=>?_⟩
   ·rw[s2,Q2];rw[X4,Yg ho,h1 t];by_cases hd:(ops.toList[i]).dst=some t
    ·rw[au hd,au hd];rfl
    ·rw[al hd,al hd];rfl
   ·obtain⟨p1,p2⟩:=h5 k hk hM;obtain⟨p3,p4⟩:=q4 k o_ p1;exact⟨by rw[s3];exact p3,by rw[e,p4,p2]⟩
 -- which of two that wC has Yh up
 have ordered:∀{L:Nat->Bool} (hL:Mi ops.toList L) {i:Nat} {o:Oper},ops.toList[i]?=some o->L i=false->(∀ e∈o.after,Region.binds .any e=true->L e.on=true)->∀{j:Nat} {p:Oper},ops.toList[j]?=some p->j≠i->
   wC ops.toList o (keys (T.es i).need,keys (T.es i).cP) p (keys (T.es j).need,keys (T.es j).cP)=true\/wC ops.toList p (keys (T.es j).need,keys (T.es j).cP) o (keys (T.es i).need,keys (T.es i).cP)=true->(L j=true↔j<i):=by
  intro L hL i o ho Ea Mj j p hp oU sW;have ei:=T.ni i (Gh ho);have ej:=T.ni j (Gh hp);rcases Eb oU with ao|sY
  ·rcases Ya h ho ei hp ej ao with hb|⟨pG,gM⟩
   ·have:=(Yb h hL i o ho Mj j hb).1;exact⟨λ_=>ao,λ_=>this⟩
   ·rcases sW with sW|sW
    ·rw[pG]at sW;cases sW
    ·rw[gM]at sW;cases sW
  ·rcases Ya h hp ej ho ei sY with hb|⟨pG,gM⟩
   ·refine⟨λAm=>?_,λao=>by omega⟩;have:=(Yb h hL j p hp (λe he Ec=>hL j p hp Am e he Ec) i hb).1;rw[Ea]at this;cases this
   ·rcases sW with sW|sW
    ·rw[gM]at sW;cases sW
    ·rw[pG]at sW;cases sW
 have Yi:∀{α:Type} (u:Nat->Nat->Option α) (c0:Nat->α) (L:Nat->Bool) (k:Nat),(∀ j,L j=false)->∀ m,gL u c0 L m k=c0 k:=by
  intro α u c0 L k hL m;induction m with
  |zero=>rfl
  |succ m ih=>show(if L m then _ else _)=_;rw[hL m,ih];rfl
 have aT6:∀{α:Type} (u:Nat->Nat->Option α) (c0:Nat->α) (L L':Nat->Bool) (k:Nat),(∀ j,L j=L' j)->∀ m,gL u c0 L m k=gL u c0 L' m k:=by intro α u c0 L L' k hL m;rw[show L=L' from funext hL]
 refine wpIn_region_any iq (aGN (λL a' w'=>∃ av,Map.le ι av/\fD B av (gL (uS ops.toList T.es) (bC fr) L n) N a'/\Mi ops.toList L/\aJ B av (gL (uM T.es) cc L n) w'/\(∀ t,wz ops.toList t=false->a'.tmps.getD t undef=a.tmps.getD t undef))
  (λi o ho e he hb=>Rh h (by rw[<-IY];exact ho) e he hb) ?_ ?_ ?_ ops.size _ a _ s_ (by simp[List.countP_replicate]) ?_)
 ·-- one operation
  rintro L a' w' i o ⟨av,hle,mD,gS,Ed,yw⟩ ho Ea Mj
  have rJ:ops.toList[i]?=some o:=by rw[<-IY];exact ho
  have cx:i<n:=by rw[<-hn];exact Gh rJ
  obtain⟨t1,t2,t3,t4,t5⟩:=text i o_;obtain⟨s1,s2,s3,s4,s5,s6⟩:=T.step i o rJ;have ord:=λ{j:Nat} {p:Oper}=>ordered gS rJ Ea Mj (j:=j) (p:=p)
  -- the jZ that it looks at
  have slot:∀ t,t∈I0 o++Mg ops.toList o->gL (uS ops.toList T.es) (bC fr) L n t=bC (T.rK i) t:=by
   intro t ht;rw[t1 t];refine Ra n o_ λj hj hu=>?_;obtain⟨p,hp,Gi⟩:=Rk hu;by_cases oU:j=i
   ·subst oU;rw[Ea];exact⟨λe=>(by cases e),λe=>o_⟩
   ·refine ord hp oU (.inl ?_);unfold wC;rw[Gi];simp only[aGT ht,Gj]
  have marks:∀ p∈(T.es i).need,gL (uM T.es) cc L n p.1=p.2:=by
   intro q hq;rw[<-(Q6 s5 t2 t3).1 q hq];refine Ra n o_ λj hj hu=>?_;have hk:=Rj hu;by_cases oU:j=i
   ·subst oU;rw[Ea];exact⟨λe=>(by cases e),λe=>o_⟩
   ·have hp:=aW (l:=ops.toList) (i:=j) o_;refine ord hp oU (.inl ?_);unfold wC;rw[Ye hk (Ri hq),Bool.or_true]
  -- what stands behind it
  have Yj:Mi ops.toList (λj=>L j||j==i):=by
   intro k p hp B7 e he hb;simp only[rH,beq_iff_eq]at B7 ⊢;rcases B7 with B7|rfl
   ·exact .inl (gS k p hp B7 e he hb)
   ·rw[rJ]at hp;injection hp with hp;subst hp;exact .inl (Mj e he hb)
  have Yk:∀ t,gL (uS ops.toList T.es) (bC fr) (λj=>L j||j==i) n t=if o.dst=some t then(T.es i).val else gL (uS ops.toList T.es) (bC fr) L n t:=by
   intro t;rw[X5 (i:=i) (m:=n) Ea (λj hjn hj Am hu=>?_) n (bh _) cx,Yg rJ]
   ·by_cases hd:o.dst=some t<;>simp[hd]
   ·obtain⟨q,hq,hqd⟩:=Rk hu;rw[rJ]at hq;injection hq with hq;subst hq;apply jo;intro bd;obtain⟨p,hp,Gi⟩:=Rk bd;have:=(ord hp o_ (.inl (by unfold wC;rw[Gi,hqd];simp))).1 Am;omega
  have Yl:gL (uM T.es) cc (λj=>L j||j==i) n=lp (gL (uM T.es) cc L n) (T.es i).cP:=by
   funext k
   rw[X5 (i:=i) (m:=n) Ea (λj hjn hj Am hu=>?_) n (bh _) cx,Yf]
   ·cases uM T.es i k<;>rfl
   ·apply jo;intro bd;have hp:=aW (l:=ops.toList) (i:=j) o_;have hk:=Rj bd;have gi:=Rj hu;obtain⟨q,hq,rG⟩:=de.1 gi;obtain⟨q2,pH,aGW⟩:=s5.2 q hq;have:=(ord hp o_ (.inl (by unfold wC;rw[Ye hk (by rw[<-rG,<-aGW];exact Ri pH),Bool.or_true]))).1 Am;omega
  have other:∀ v,∀ t,wz ops.toList t=false->(a'.put o.dst v).tmps.getD t undef=a.tmps.getD t undef:=by intro v t ht;rw[Q4 _ _ _ λhd=>?_,yw t ht];unfold wz at ht;rw[I2]at ht;have:=ht o (cN rJ);rw[hd]at this;simp at this
  have B5:=XW s1;have aGX:Region.wanted o (yielded ops a'.tmps)=B3 (T.rK i) ops o:=by refine XV mD ops o s1 λj b hg t ht=>slot t (eA.2 (.inr ?_));unfold Mg;rw[hg];dsimp only;rw[<-IY,ht];exact aL ..
  unfold wpOpIn;rw[ho];dsimp only;rw[aGX];rcases s6 with ⟨hw,ax,vh⟩|⟨hw,he⟩
  ·rw[au hw];simp only[Ag,cY,aY,yr]at ax;have Ee:∀ x∈o.op.operands.toList,fV (gL (uS ops.toList T.es) (bC fr) L n) x=fV (bC (T.rK i)) x:=by
    intro x hx;cases x with
    |tmp t=>exact slot t (eA.2 (.inl (aGU (Mb.1 hx))))
    |_=>rfl
   have Ym:=QZ mD o.op.operands.toList (λx hx=>by rw[Ee x hx];exact ax.1 x hx);rw[wD Ee]at Ym;refine vh R av _ a' w' Ym Ed marks _ _ λdq v2 w2 kC iu dx=>?_;exact⟨dq,hle.trans kC,mD.put kC (.inr iu) o.dst B5 Yk,Yj,by rw[Yl];exact dx,other v2⟩
  ·rw[al (by rw[hw];decide)];refine⟨λ_ _=>trivial,?_⟩;refine⟨av,hle,mD.put (Map.le.refl _) (v':=undef) (.inr (by rw[he];exact .same rfl)) o.dst B5 Yk,Yj,by rw[Yl,he];exact Ed,other undef⟩
 ·-- all have Yh up
  rintro L a' w' aU ⟨av,hle,mD,gS,Ed,yw⟩
  obtain⟨t1,t2,t3,t4,t5⟩:=text n (bh _);have eN:∀{α:Type} (u:Nat->Nat->Option α) (c0:Nat->α),gL u c0 L n=gL u c0 (λ_=>true) n:=λu c0=>funext λk=>
   Ra n (bh _) λj hj _=>⟨λ_=>hj,λ_=>aU j o_⟩
  have e1:T.rK n=r.fr:=by rw[<-hn];exact T.X7
  have e2:T.Ms n=r.M:=by rw[<-hn];exact T.X8
  have e3:T.Al n=r.next:=by rw[<-hn];exact T.X9
  rw[eN]at Ed;refine hQ av _ a' w' hle ⟨mD.defers,mD.size,λt=>?_⟩ Ed (by rw[<-e2];exact t2) (by rw[<-e3];exact t3) (λk hk hM=>(t5 k hk hM).2) yw;rw[<-e1,t1 t,<-eN];exact mD.slot t
 ·-- the numbers alone
  rintro L L' a' w' Yn ⟨av,hle,mD,gS,Ed,yw⟩
  have e:L=L':=funext Yn;subst e;exact⟨av,hle,mD,gS,Ed,yw⟩
 ·-- none has Yh up
  have hL:∀ j,(Array.replicate ops.size false).getD j false=false:=λj=>by simp[pF,Array.getElem?_replicate];split<;>rfl
  refine⟨ι,Map.le.refl _,⟨hf.defers,hf.size,λt=>?_⟩,λi o _ hi=>?_,?_,λ_ _=>rfl⟩
  ·rw[Yi _ _ _ _ hL];exact hf.slot t
  ·have:=(hL i).symm.trans hi;cases this
  ·exact(hm.drew _ (yq _)).ext λk=>Yi _ _ _ _ hL n
end
def Ef(M:aE)(ks:aE):aE:=M.filter λp=>match ai ks p.1 with|some _=>false|none=>true
theorem Rl{ks:aE}:∀(M:aE) (k:Nat),ai (Ef M ks) k=match ai ks k with|some _=>none|none=>ai M k
 |[],k=>by cases h:ai ks k<;>simp[Ef,ai]
 |(j,x)::M,k=>by
  have ih:=Rl (ks:=ks) M k;unfold Ef at ih ⊢;by_cases hj:j=k
  ·subst hj;cases h:ai ks j with
   |some y=>rw[h]at ih;rw[Mk,al (by simp[h])];exact ih
   |none=>rw[Mk,au (by simp[h])];simp[ai]
  ·have e:∀ M,ai ((j,x)::M) k=ai M k:=λM=>by show(if Nat.beq j k then _ else _)=_;rw[om hj];rfl
   rw[e,<-ih];cases h:ai ks j with
   |some y=>rw[Mk,al (by simp[h])]
   |none=>rw[Mk,au (by simp[h]),e]
theorem aGY{cc bX:Nat->Option Obj}{M0 M1:aE}{next:Nat}(ha:cX cc M)(hu:eH cc next)(h1:cX bX M1)(hk:∀ k,k<next->ai M0 k=none->bX k=cc k):cX bX (M1++Ef M M0):=by
 intro k x hx;rw[jz]at hx;cases h:ai M1 k with
 |some y=>rw[h]at hx;exact h1 k x (by rw[h];exact hx)
 |none=>
  rw[h]at hx;dsimp only at hx;rw[Rl]at hx;cases h0:ai M0 k with
  |some y=>rw[h0]at hx;cases hx
  |none=>
   rw[h0]at hx;have hc:=ha k x hx;have:k<next:=by
    rcases eU k next with h|h
    ·exact h
    ·rw[hu k h]at hc;cases hc
   rw[hk k this h0];exact hc
structure jN(P:j_)(B:ae)(N:Nat) where
 ex:Ex
 fr:aM
 M:aE
 next:Nat
 rs:bH P B N
 tr:vg
section
variable{P:j_}{B:ae}{N:Nat}
def jN.more(r:jN P B N)(tr:vg):jN P B N:=⟨r.ex,r.fr,r.M,r.next,r.rs,tr++r.tr⟩
def jN.after(o:Option (jN P B N))(tr:vg):Option (jN P B N):=match o with|some r=>some (r.more tr)|none=>none
def jN.aGZ(r:jN P B N)(e:Ex):jN P B N:=⟨e,r.fr,r.M,r.next,r.rs,r.tr⟩
def jN.out(r:jN P B N):lv:=⟨r.ex,r.fr,r.M,r.next⟩
def Keys(M:aE)(next:Nat)(M':aE)(next':Nat):Prop:=next<=next'/\∀ k,k<next->ai M k=none->ai M' k=none
theorem Keys.refl(M:aE)(next:Nat):Keys M next M next:=⟨bh _,λ_ _ h=>h⟩
theorem Keys.trans{M1 M2:aE}{n:Nat}(h:Keys M n M1 n1)(k:Keys M1 n1 M2 n2):Keys M n M2 n2:=⟨dc h.1 k.1,λj hj hM=>k.2 j (cC hj h.1) (h.2 j hj hM)⟩
def Ml(fr:aM)(M:aE)(next:Nat)(c:Code)(key:Nat)(rs:bH P B N):Option (jN P B N):=
 match rs with
 |.code Yo c' I3 M0 Rm r _::wx=>
  if Nat.beq Yo key&&(Nat.ble next r.next&&r.M.all λp=>Nat.ble next p.1||(match ai M0 p.1 with|some _=>true|none=>false))then
   some ⟨r.ex,r.fr++((wl c).map λt=>(t,Gc))++fr,r.M++Ef M M0,r.next,wx,(.code c,.code c')::(.nat next,.nat Rm)::(I3.map λp=>(nN.ew [bC fr p.1],nN.ew [p.2]))++M0.map λp=>(nN.obj (ai M p.1),nN.obj (some p.2))⟩
  else none
 |_=>none
def aG0:Bool->List Oper->List (List Nat×List Nat)->Bool
 |true,ops,ni=>D9 ops ni
 |false,_,_=>true
def iR:Nat->Code->aM->aE->Nat->bH P B N->Option (jN P B N)
 |0,_,_,_,_,_=>none
 |n+1,c,fr,M,next,rs=>
  match c with
  |.skip=>some ⟨.normal,fr,M,next,rs,[]⟩
  |.exit id=>some ⟨.exit id,fr,M,next,rs,[]⟩
  |.ret=>some ⟨.ret,fr,M,next,rs,[]⟩
  |.region id ops draw=>
   match Ml fr M next (.region id ops draw) (200000+id) rs with
   |some r=>some r
   |none=>
    match yv ops ops.toList fr M next rs with
    |some r=>if aG0 draw ops.toList r.ni then some ⟨.normal,r.fr,r.M,r.next,r.rs,r.tr⟩else none
    |none=>none
  |.seq x y=>match iR n x fr M next rs with
   |some r=>match r.ex with
    |.normal=>jN.after (iR n y r.fr r.M r.next r.rs) r.tr
    |_=>some r
   |none=>none
  |.cond c x y=>match fV (bC fr) c with
   |.bool b=>if b then iR n x fr M next rs else iR n y fr M next rs
   |_=>none
  |.block id b=>
   match Ml fr M next (.block id b) id rs with
   |some r=>some r
   |none=>match iR n b fr M next rs with
    |some r=>match r.ex with
     |.exit k=>some (r.aGZ (if Nat.beq k id then .normal else .exit k))
     |_=>some r
    |none=>none
  |.loop b=>match iR n b fr M next rs with
   |some r=>match r.ex with
    |.normal=>jN.after (iR n (.loop b) r.fr r.M r.next r.rs) r.tr
    |_=>some r
   |none=>none
  |_=>none
theorem Yp{o:Option (jN P B N)}{tr:vg}{r:jN P B N}(h:jN.after o tr=some r):∃ r',o=some r'/\r=r'.more tr:=by
 cases o with
 |none=>cases h
 |some r'=>injection h with h;exact⟨r',rfl,h.symm⟩
theorem Rn:∀(l m:aM) (t:Nat),(∃ v,(t,v)∈l/\bC (l++m) t=v/\bC l t=v)\/((∀ v,(t,v)∉l)/\bC (l++m) t=bC m t)
 |[],m,t=>.inr ⟨λv h=>(by cases h),rfl⟩
 |(s,v)::l,m,t=>by
  by_cases h:s=t
  ·subst h;exact .inl ⟨v,aL ..,by simp[bC],by simp[bC]⟩
  ·have e1:bC ((s,v)::l++m) t=bC (l++m) t:=by show(if Nat.beq s t then _ else _)=_;rw[om h];rfl
   have e2:bC ((s,v)::l) t=bC l t:=by show(if Nat.beq s t then _ else _)=_;rw[om h];rfl
   rcases Rn l m t with ⟨u,h1,h2,h3⟩|⟨h1,h2⟩
   ·exact .inl ⟨u,bw _ h1,by rw[e1,h2],by rw[e2,h3]⟩
   ·refine .inr ⟨λu hu=>?_,by rw[e1,h2]⟩;rcases b9.1 hu with hu|hu
    ·injection hu with dy eF;exact h dy.symm
    ·exact h1 u hu
theorem aG1{c:Code}{t:Nat}(h:t∈wl c):tZ c t=true:=by unfold tZ;rw[rF];exact⟨t,h,by simp⟩
theorem Mm{c:Code}{t:Nat}(h:tZ c t=false):t∉wl c:=λhm=>by rw[aG1 hm]at h;cases h
theorem I4{c:Code}{t:Nat}(h:t∉wl c):tZ c t=false:=by
 cases hb:tZ c t with
 |false=>rfl
 |true=>
  unfold tZ at hb;rw[rF]at hb;obtain⟨d,hd,he⟩:=hb;exact absurd (jY he▸hd) h
theorem aG2{c:Code}{An:aM}{a a':Act}(hle:Map.le ι av)(hf:fD B ι (bC fr) N a)(h1:fD B av (bC An) N a')(ht:∀ t,tZ c t=false->a'.tmps.getD t undef=a.tmps.getD t undef):
  fD B av (bC (An++((wl c).map λt=>(t,Gc))++fr)) N a':=by
 refine⟨h1.defers,h1.size,λt=>?_⟩;rw[B8];rcases Rn An (((wl c).map λt=>(t,Gc))++fr) t with ⟨v,_,h2,h3⟩|⟨_,h2⟩
 ·rw[h2,<-h3];exact h1.slot t
 ·rw[h2];rcases Rn ((wl c).map λt=>(t,Gc)) fr t with ⟨v,hv,h3,_⟩|⟨hn,h3⟩
  ·obtain⟨s,_,he⟩:=de.1 hv;injection he with _ he;rw[h3,<-he];exact .inl rfl
  ·rw[h3,ht t (I4 λhm=>hn Gc (de.2 ⟨t,hm,rfl⟩))];exact(hf.slot t).mono hle
theorem Yq{next:Nat}{c:Code}{rs:bH P B N}{r:jN P B N}(h:Ml fr M next c A rs=some r)(hs:rE r.tr):af P B N c fr M next r.out/\Keys M next r.M r.next:=by
 unfold Ml at h;split at h
 ·rename_i Yo c' I3 M0 Rm r0 ok wx;split at h
  ·rename_i pD;injection h with h;subst h;simp only[cY,aY,rH]at pD;have e1:nN.code c=.code c':=hs _ (aL ..);have e2:nN.nat next=.nat Rm:=hs _ (bw _ (aL ..));injection e1 with e1;injection e2 with e2;subst e1;subst e2;have e3:∀ p∈I3,bC fr p.1=p.2:=λp hp=>by have:nN.ew [bC fr p.1]=.ew [p.2]:=hs _ (eA.2 (.inl (bw _ (bw _ (de.2 ⟨p,hp,rfl⟩)))));injection this with this;injection this
   have e4:∀ p∈M0,ai M p.1=some p.2:=λp hp=>by have:nN.obj (ai M p.1)=.obj (some p.2):=hs _ (eA.2 (.inr (de.2 ⟨p,hp,rfl⟩)));injection this
   refine⟨?_,pB pD.2.1,λk hk hM=>?_⟩;rotate_left
   ·show ai (r0.M++Ef M M0) k=none;rw[jz];have h1:ai r0.M k=none:=by
     cases h1:ai r0.M k with
     |none=>rfl
     |some x=>
      rcases pD.2.2 _ (iQ h1)with h2|h2
      ·have:=pB h2;dsimp only at this;omega
      ·dsimp only at h2;cases h0:ai M0 k with
       |none=>rw[h0]at h2;cases h2
       |some y=>have:=e4 _ (iQ h0);dsimp only at this;rw[hM]at this;cases this
    rw[h1];show ai (Ef M M0) k=none;rw[Rl,hM];cases ai M0 k<;>rfl
   intro R ι cc a w Q hf hm ha hu hQ;have Ao:fD B ι (bC I3) N a:=⟨hf.defers,hf.size,λt=>by
    have:∀(l:aM),(∀ p∈l,bC fr p.1=p.2)->nJ ι (bC l t) (a.tmps.getD t undef):=by
     intro l;induction l with
     |nil=>intro _;exact .inl rfl
     |cons p l ih=>
      intro hl;obtain⟨s,v⟩:=p;by_cases bK:s=t
      ·subst bK;have this:bC fr s=v:=hl _ (aL ..);have e:bC ((s,v)::l) s=v:=by simp[bC]
       rw[e,<-this];exact hf.slot s
      ·have e:bC ((s,v)::l) t=bC l t:=by show(if Nat.beq s t then _ else _)=_;rw[om bK];rfl
       rw[e];exact ih λp hp=>hl p (bw _ hp)
    exact this I3 e3⟩
   have nj:cX cc M0:=λk x hk=>ha k x (by have:=e4 _ (iQ hk);exact this);refine ok R ι cc a w Q Ao hm nj hu λav bX a' w' hle wE bo gV oT gU Eg=>?_;refine hQ av bX a' w' hle (aG2 hle hf wE Eg) bo (aGY ha hu gV gU) oT (λk hk hM=>gU k hk ?_) Eg;cases h0:ai M0 k with
   |none=>rfl
   |some x=>have:=e4 _ (iQ h0);dsimp only at this;rw[hM]at this;cases this
  ·cases h
 ·cases h
theorem Ro{ops:Array Oper}:∀(l:List Oper) {fr:aM} {M:aE} {next:Nat} {rs:bH P B N} {r:qB P B N},yv ops l fr M next rs=some r->rE r.tr->Keys M next r.M r.next
 |[],fr,M,next,rs,r,h,_=>by injection h with h;subst h;exact Keys.refl _ _
 |o::l,fr,M,next,rs,r,h,hs=>by
  unfold yv at h;split at h
  ·split at h
   ·split at h
    ·rename_i e D3 D6 bK;split at h
     ·rename_i r2 ua;injection h with h;subst h;obtain⟨_,_,oq⟩:=Q1 (B:=B) bK (λp hp=>hs p (eA.2 (.inl hp)));have k2:=Ro l ua λp hp=>hs p (eA.2 (.inr hp));refine Keys.trans (M1:=e.cP++M) (n1:=Ak next e.cP) ⟨Gg _ _,λk hk hM=>?_⟩ k2;rw[jz];cases h1:ai e.cP k with
      |none=>exact hM
      |some x=>
       exfalso;obtain⟨q,hq,rG⟩:=oq.2 _ (iQ h1);dsimp only at rG;rcases oq.1 q hq with ⟨y,h2,h3⟩|⟨h2,h3⟩
       ·rw[rG,hM]at h3;cases h3
       ·omega
     ·cases h
    ·cases h
   ·split at h
    ·rename_i r2 ua;injection h with h;subst h;have k2:=Ro l ua λp hp=>hs p (eA.2 (.inr hp));exact k2
    ·cases h
  ·cases h
theorem aG3{x y:Code}{next:Nat}{r2:lv}(h1:af P B N x fr M next r1)(hn:r1.ex=.normal)(hk:Keys M next r1.M r1.next)(h2:af P B N y r1.fr r1.M r1.next r2):af P B N (.seq x y) fr M next r2:=by intro R ι cc a w Q hf hm ha hu hQ;refine lT (h1 R ι cc a w _ hf hm ha hu λbJ gk a1 w1 jc gW cS dY dy gN iE=>?_);rw[hn];refine h2 R bJ gk a1 w1 Q gW cS dY dy λdq qC a2 w2 kC jm dx fX eF gi nP=>?_;refine hQ dq qC a2 w2 (jc.trans kC) jm dx fX eF (λk qD hM=>by rw[gi k (cC qD hk.1) (hk.2 k qD hM),gN k qD hM]) λt ht=>?_;have B9:t∉wl x++wl y:=Mm ht;rw[nP t (I4 λh=>B9 (eA.2 (.inr h))),iE t (I4 λh=>B9 (eA.2 (.inl h)))]
theorem Yr{x y:Code}{next:Nat}(h1:af P B N x fr M next r1)(hn:r1.ex≠.normal):af P B N (.seq x y) fr M next r1:=by
 intro R ι cc a w Q hf hm ha hu hQ;refine lT (h1 R ι cc a w _ hf hm ha hu λbJ gk a1 w1 jc gW cS dY dy gN iE=>?_);have:=hQ bJ gk a1 w1 jc gW cS dY dy gN λt ht=>iE t (I4 λh=>(Mm ht:t∉wl x++wl y) (eA.2 (.inl h)));cases hx:r1.ex with
 |normal=>exact absurd hx hn
 |exit id=>rw[hx]at this;exact this
 |ret=>rw[hx]at this;exact this
theorem bO{b:Code}{id:Nat}{next:Nat}(h1:af P B N b fr M next r1):
  af P B N (.block id b) fr M next ⟨(match r1.ex with|.exit k=>if Nat.beq k id then .normal else .exit k|e=>e),r1.fr,r1.M,r1.next⟩:=by
 intro R ι cc a w Q hf hm ha hu hQ;refine I5 (h1 R ι cc a w _ hf hm ha hu λbJ gk a1 w1 jc gW cS dY dy gN iE=>?_);have:=hQ bJ gk a1 w1 jc gW cS dY dy gN iE;cases hx:r1.ex with
 |normal=>rw[hx]at this;exact this
 |ret=>rw[hx]at this;exact this
 |exit k=>
  rw[hx]at this;dsimp only at this;show(if k=id then Q .normal a1 w1 else Q (.exit k) a1 w1);by_cases hk:k=id
  ·rw[au hk];subst hk;rw[show Nat.beq k k=true from Eh k]at this;exact this
  ·rw[al hk];rw[om hk]at this;exact this
theorem Rp(iq:P.follows .mixedOrders=true):∀(n:Nat),
  (∀(c:Code) (fr:aM) (M:aE) (next:Nat) (rs:bH P B N) (r:jN P B N),iR n c fr M next rs=some r->rE r.tr->af P B N c fr M next r.out/\Keys M next r.M r.next)/\
  (∀(b:Code) (fr:aM) (M:aE) (next:Nat) (rs:bH P B N) (r:jN P B N),iR n (.loop b) fr M next rs=some r->rE r.tr->Keys M next r.M r.next/\∀(R:Option Nat) (ι:Map) (cc:Nat->Option Obj) (a:Act) (w:h_) (Q:Exit->Act->World->Prop),fD B ι (bC fr) N a->aJ B ι cc w->cX cc M->eH cc next->(∀ av bX a' w',Map.le ι av->fD B av (bC r.fr) N a'->aJ B av bX w'->cX bX r.M->eH bX r.next->(∀ k,k<next->ai M k=none->bX k=cc k)->(∀ t,tZ b t=false->a'.tmps.getD t undef=a.tmps.getD t undef)->Q r.ex.Ai a' w')->Code.roundsIn (FW R) 0 P b Q n a w):=by
 intro n;induction n with
 |zero=>exact⟨λc fr M next rs r h=>by simp[iR]at h,λb fr M next rs r h=>by simp[iR]at h⟩
 |succ n ih=>
  obtain⟨wF,ihl⟩:=ih;have loop:∀(b:Code) (fr:aM) (M:aE) (next:Nat) (rs:bH P B N) (r:jN P B N),iR (n+1) (.loop b) fr M next rs=some r->rE r.tr->
   Keys M next r.M r.next/\∀(R:Option Nat) (ι:Map) (cc:Nat->Option Obj) (a:Act) (w:h_) (Q:Exit->Act->World->Prop),fD B ι (bC fr) N a->aJ B ι cc w->cX cc M->eH cc next->
  (∀ av bX a' w',Map.le ι av->fD B av (bC r.fr) N a'->aJ B av bX w'->cX bX r.M->eH bX r.next->(∀ k,k<next->ai M k=none->bX k=cc k)->(∀ t,tZ b t=false->a'.tmps.getD t undef=a.tmps.getD t undef)->Q r.ex.Ai a' w')->Code.roundsIn (FW R) 0 P b Q (n+1) a w:=by
   intro b fr M next rs r h hs;simp only[iR]at h;cases hb:iR n b fr M next rs with
   |none=>rw[hb]at h;cases h
   |some r1=>
    rw[hb]at h;dsimp only at h;have out:r1.ex≠.normal->r=r1->_:=λbd (e:r=r1)=>by
     subst e;obtain⟨g1,k1⟩:=wF b fr M next rs r hb hs;refine(⟨k1,λR ι cc a w Q hf hm ha hu hQ=>?_⟩:Keys M next r.M r.next/\∀(R:Option Nat) (ι:Map) (cc:Nat->Option Obj) (a:Act) (w:h_) (Q:Exit->Act->World->Prop),fD B ι (bC fr) N a->aJ B ι cc w->cX cc M->eH cc next->(∀ av bX a' w',Map.le ι av->fD B av (bC r.fr) N a'->aJ B av bX w'->cX bX r.M->eH bX r.next->(∀ k,k<next->ai M k=none->bX k=cc k)->(∀ t,tZ b t=false->a'.tmps.getD t undef=a.tmps.getD t undef)->Q r.ex.Ai a' w')->Code.roundsIn (FW R) 0 P b Q (n+1) a w);rw[Ei];refine g1 R ι cc a w _ hf hm ha hu λbJ gk a1 w1 jc gW cS dY dy gN iE=>?_;have:=hQ bJ gk a1 w1 jc gW cS dY dy gN iE;show Exit.then _ Q r.ex.Ai a1 w1;cases hx:r.ex with
     |normal=>exact absurd hx bd
     |exit id=>rw[hx]at this;exact this
     |ret=>rw[hx]at this;exact this
    cases hex:r1.ex with
    |normal=>
     rw[hex]at h;obtain⟨r2,h2,he⟩:=Yp h;subst he;obtain⟨g1,k1⟩:=wF b fr M next rs r1 hb (λp hp=>hs p (eA.2 (.inl hp)));obtain⟨k2,g2⟩:=ihl b r1.fr r1.M r1.next r1.rs r2 h2 (λp hp=>hs p (eA.2 (.inr hp)));refine⟨k1.trans k2,λR ι cc a w Q hf hm ha hu hQ=>?_⟩;rw[Ei];refine g1 R ι cc a w _ hf hm ha hu λbJ gk a1 w1 jc gW cS dY dy gN iE=>?_;show Exit.then _ Q r1.ex.Ai a1 w1;rw[hex];refine g2 R bJ gk a1 w1 Q gW cS dY dy λdq qC a2 w2 kC jm dx fX eF gi nP=>?_;exact hQ dq qC a2 w2 (jc.trans kC) jm dx fX eF (λk qD hM=>(gi k (cC qD k1.1) (k1.2 k qD hM)).trans (gN k qD hM)) λt ht=>(nP t ht).trans (iE t ht)
    |exit id=>rw[hex]at h;injection h with h;exact out (by rw[hex];exact n_) h.symm
    |ret=>rw[hex]at h;injection h with h;exact out (by rw[hex];exact n_) h.symm
  refine⟨λc fr M next rs r h hs=>?_,loop⟩;cases c with
  |skip=>
   simp only[iR]at h;injection h with h;subst h;exact⟨λR ι cc a w Q hf hm ha hu hQ=>wpIn_skip (hQ ι cc a w (Map.le.refl _) hf hm ha hu (λ_ _ _=>rfl) λ_ _=>rfl),Keys.refl _ _⟩
  |exit id=>
   simp only[iR]at h;injection h with h;subst h;exact⟨λR ι cc a w Q hf hm ha hu hQ=>wpIn_exit (hQ ι cc a w (Map.le.refl _) hf hm ha hu (λ_ _ _=>rfl) λ_ _=>rfl),Keys.refl _ _⟩
  |ret=>
   simp only[iR]at h;injection h with h;subst h;exact⟨λR ι cc a w Q hf hm ha hu hQ=>wpIn_ret (hQ ι cc a w (Map.le.refl _) hf hm ha hu (λ_ _ _=>rfl) λ_ _=>rfl),Keys.refl _ _⟩
  |region id ops draw=>
   simp only[iR]at h;split at h
   ·rename_i r1 h1;injection h with h;subst h;exact Yq h1 hs
   ·split at h
    ·rename_i r1 h1;split at h
     ·rename_i hd;injection h with h;subst h;refine⟨λR ι cc a w Q hf hm ha hu hQ=>?_,Ro _ h1 hs⟩;have Ys:Q7 B N cc M next ι a (wz ops.toList) r1 (Q .normal):=λav bX a' w' hle wE bo gV oT gU Eg=>hQ av bX a' w' hle wE bo gV oT gU λt ht=>Eg t (by
       have hn:t∉ops.toList.filterMap (·.dst):=Mm ht;cases hb:wz ops.toList t with
       |false=>rfl
       |true=>
        unfold wz at hb;rw[rF]at hb;obtain⟨o,ho,Mn⟩:=hb;exfalso;refine hn (XS.2 ⟨o,ho,?_⟩);cases B5:o.dst with
        |none=>rw[B5]at Mn;cases Mn
        |some d=>rw[B5]at Mn;rw[jY Mn])
      cases draw with
      |false=>exact wpIn_region_list (Q8 _ h1 hs hf hm ha hu Ys)
      |true=>exact aGV iq h1 hs hd hf hm ha hu Ys
     ·cases h
    ·cases h
  |seq x y=>
   simp only[iR]at h;cases hx:iR n x fr M next rs with
   |none=>rw[hx]at h;cases h
   |some r1=>
    rw[hx]at h;dsimp only at h;cases hex:r1.ex with
    |normal=>
     rw[hex]at h;obtain⟨r2,h2,he⟩:=Yp h;subst he;obtain⟨g1,k1⟩:=wF x fr M next rs r1 hx (λp hp=>hs p (eA.2 (.inl hp)));obtain⟨g2,k2⟩:=wF y r1.fr r1.M r1.next r1.rs r2 h2 (λp hp=>hs p (eA.2 (.inr hp)));exact⟨aG3 g1 hex k1 g2,k1.trans k2⟩
    |exit id=>
     rw[hex]at h;injection h with h;subst h;obtain⟨g1,k1⟩:=wF x fr M next rs r1 hx hs;exact⟨Yr g1 (by show r1.ex≠_;rw[hex];exact n_),k1⟩
    |ret=>
     rw[hex]at h;injection h with h;subst h;obtain⟨g1,k1⟩:=wF x fr M next rs r1 hx hs;exact⟨Yr g1 (by show r1.ex≠_;rw[hex];exact n_),k1⟩
  |cond Ej x y=>
   simp only[iR]at h;cases hc:fV (bC fr) Ej with
   |bool b=>
    rw[hc]at h;have he:∀(ι:Map) (a:Act),fD B ι (bC fr) N a->a.eval Ej=.bool b:=by
     intro ι a hf;cases Ej with
     |tmp t=>
      have:bC fr t=.bool b:=hc;have hs:=hf.slot t;rw[this]at hs;exact(hs.z8 rfl).bool
     |const v=>exact hc
     |global g=>exact hc
     |func f=>exact hc
    have fin:∀ z:Code,(∀ t,t∈wl z->t∈wl (Code.cond Ej x y))->af P B N z fr M next r.out->(∀(R:Option Nat) (Q:Exit->Act->World->Prop) (a:Act) (w:h_),a.eval Ej=.bool b->z.wpIn (FW R) 0 P Q a w->(Code.cond Ej x y).wpIn (FW R) 0 P Q a w)->af P B N (.cond Ej x y) fr M next r.out:=by intro z hz g hw R ι cc a w Q hf hm ha hu hQ;refine hw R Q a w (he ι a hf) (g R ι cc a w Q hf hm ha hu λbJ gk a1 w1 jc gW cS dY dy gN iE=>hQ bJ gk a1 w1 jc gW cS dY dy gN λt ht=>iE t (I4 λhm=>Mm ht (hz t hm)))
    cases b with
    |true=>
     obtain⟨g1,k1⟩:=wF x fr M next rs r h hs;exact⟨fin x (λt ht=>eA.2 (.inl ht)) g1 (λR Q a w e h=>wpIn_cond e h),k1⟩
    |false=>
     obtain⟨g1,k1⟩:=wF y fr M next rs r h hs;exact⟨fin y (λt ht=>eA.2 (.inr ht)) g1 (λR Q a w e h=>wpIn_cond e h),k1⟩
   |_=>rw[hc]at h;cases h
  |block id b=>
   simp only[iR]at h;split at h
   ·rename_i r1 h1;injection h with h;subst h;exact Yq h1 hs
   ·cases hb:iR n b fr M next rs with
    |none=>rw[hb]at h;cases h
    |some r1=>
     rw[hb]at h;dsimp only at h;cases hex:r1.ex with
     |normal=>
      rw[hex]at h;injection h with h;subst h;obtain⟨g1,k1⟩:=wF b fr M next rs r1 hb hs;have:=bO (id:=id) g1;rw[show r1.out.ex=Ex.normal from hex]at this;refine⟨?_,k1⟩;have e:r1.out=⟨.normal,r1.fr,r1.M,r1.next⟩:=by unfold jN.out;rw[hex]
      rw[e];exact this
     |ret=>
      rw[hex]at h;injection h with h;subst h;obtain⟨g1,k1⟩:=wF b fr M next rs r1 hb hs;have:=bO (id:=id) g1;rw[show r1.out.ex=Ex.ret from hex]at this;refine⟨?_,k1⟩;have e:r1.out=⟨.ret,r1.fr,r1.M,r1.next⟩:=by unfold jN.out;rw[hex]
      rw[e];exact this
     |exit k=>
      rw[hex]at h;injection h with h;subst h;obtain⟨g1,k1⟩:=wF b fr M next rs r1 hb hs;have:=bO (id:=id) g1;rw[show r1.out.ex=Ex.exit k from hex]at this;exact⟨this,k1⟩
  |loop b=>
   obtain⟨k1,g1⟩:=loop b fr M next rs r h hs;exact⟨λR ι cc a w Q hf hm ha hu hQ=>Rq (n+1) (g1 R ι cc a w Q hf hm ha hu hQ),k1⟩
  |_=>simp[iR]at h
end
section
variable{P:j_}{B:ae}{N:Nat}
theorem Yt{Rr:aM}{a:Act}(hf:fD B ι (bC fr) N a)(h:∀ p∈Rr,bC fr p.1=p.2):fD B ι (bC Rr) N a:=by
 refine⟨hf.defers,hf.size,λt=>?_⟩;induction Rr with
 |nil=>exact .inl rfl
 |cons p l ih=>
  obtain⟨s,v⟩:=p;by_cases bK:s=t
  ·subst bK;have this:bC fr s=v:=h _ (aL ..);have e:bC ((s,v)::l) s=v:=by simp[bC]
   rw[e,<-this];exact hf.slot s
  ·have e:bC ((s,v)::l) t=bC l t:=by show(if Nat.beq s t then _ else _)=_;rw[om bK];rfl
   rw[e];exact ih λp hp=>h p (bw _ hp)
theorem af.to{c:Code}{next:Nat}{r2:lv}(h:af P B N c fr M next r1)(hex:r1.ex=r2.ex)(mD:∀ p∈r2.fr,bC r1.fr p.1=p.2)
  (hM:∀ p∈r2.M,ai r1.M p.1=some p.2) (hn:r1.next<=r2.next):af P B N c fr M next r2:=by
 intro R ι cc a w Q hf hm ha hu hQ;refine h R ι cc a w Q hf hm ha hu λbJ gk a1 w1 jc gW cS dY dy gN iE=>?_;rw[hex];exact hQ bJ gk a1 w1 jc (Yt gW mD) cS (λk x hk=>dY k x (hM _ (iQ hk))) (λk hk=>dy k (dc hn hk)) gN iE
theorem jO:∀{l m:aE},keys l=keys m->∀ k,(ai l k=none↔ai m k=none)
 |[],[],_,k=>Iff.rfl
 |[],_::_,h,k=>by cases h
 |_::_,[],h,k=>by cases h
 |(i,x)::l,(j,y)::m,h,k=>by
  injection h with h1 h2;dsimp only at h1;subst h1;show(if Nat.beq i k then some x else ai l k)=none↔(if Nat.beq i k then some y else ai m k)=none;cases Nat.beq i k
  ·exact jO h2 k
  ·simp
theorem ck{b:Code}{next:Nat}{r:lv}(n:Nat)(I:Nat->aM)(J:Nat->aE)(kV:∀ i k,i<=n->(ai (J i) k=none↔ai (J 0) k=none))
  (body:∀ i,i<n->af P B N b (I i) (J i) next ⟨.normal,I (i+1),J (i+1),next⟩) (last:af P B N b (I n) (J n) next r) (hr:r.ex≠.normal):af P B N (.loop b) (I 0) (J 0) next r:=by
 intro R ι cc a w Q hf hm ha hu hQ;refine Rq (n+1) ?_;have key:∀ d i,i+d=n->∀(bJ:Map) (gk:Nat->Option Obj) (a1:Act) (w1:h_),Map.le ι bJ->fD B bJ (bC (I i)) N a1->aJ B bJ gk w1->cX gk (J i)->eH gk next->(∀ k,k<next->ai (J 0) k=none->gk k=cc k)->
   (∀ t,tZ (.loop b) t=false->a1.tmps.getD t undef=a.tmps.getD t undef)->Code.roundsIn (FW R) 0 P b Q (d+1) a1 w1:=by
  intro d;induction d with
  |zero=>
   intro i hi bJ gk a1 w1 jc gW cS dY dy gN iE;have:i=n:=by omega
   subst this;rw[Ei];refine last R bJ gk a1 w1 _ gW cS dY dy λdq qC a2 w2 kC jm dx fX eF gi nP=>?_;have:=hQ dq qC a2 w2 (jc.trans kC) jm dx fX eF (λk hk h0=>(gi k hk ((kV i k (bh _)).2 h0)).trans (gN k hk h0)) λt ht=>(nP t ht).trans (iE t ht);show Exit.then _ Q r.ex.Ai a2 w2;cases hx:r.ex with
   |normal=>exact absurd hx hr
   |exit id=>rw[hx]at this;exact this
   |ret=>rw[hx]at this;exact this
  |succ d ih=>
   intro i hi bJ gk a1 w1 jc gW cS dY dy gN iE;rw[Ei];refine body i o_ R bJ gk a1 w1 _ gW cS dY dy λdq qC a2 w2 kC jm dx fX eF gi nP=>?_;exact ih (i+1) o_ dq qC a2 w2 (jc.trans kC) jm dx fX eF (λk hk h0=>(gi k hk ((kV i k o_).2 h0)).trans (gN k hk h0)) λt ht=>(nP t ht).trans (iE t ht)
 exact key n 0 o_ ι cc a w (Map.le.refl _) hf hm ha hu (λ_ _ _=>rfl) λ_ _=>rfl
theorem I6:∀{v v1 v2:i_},aH ι v v1->aH ι v v2->v1=v2:=by
 intro v v1 v2 h;revert v2;apply aH.rec (motive_1:=λv v1 _=>∀ v2,aH ι v v2->v1=v2) (motive_2:=λl l1 _=>∀ l2,bL (aH ι) l l2->l1=l2) (t:=h)
 case same=>intro v hf v2 h2;exact(h2.fh hf).symm
 case ptr=>
  intro k off b o cap hk v2 h2;obtain⟨b',o',bj,h3,h4⟩:=h2.uX rfl;rw[hk]at h3;injection h3 with h3;injection h3 with h3 h5 _;subst h3;subst h5;rw[h4]
 case slc=>
  intro k off b o n c c' cap hk h1 h2 v2 h3;rcases h3.gR rfl with ⟨h4,_⟩|⟨b',o',bj,c2,h4,_,h6,h7⟩
  ·rw[hk]at h4;cases h4
  ·rw[hk]at h4;injection h4 with h4;injection h4 with h4 h5 h8;subst h4;subst h5;subst h8;rw[h7,show c'=c2 by omega]
 case slcN=>
  intro k hk v2 h3;rcases h3.gR rfl with ⟨_,_,_,_,h4⟩|⟨b',o',bj,c2,h4,_⟩
  ·exact h4.symm
  ·rw[hk]at h4;cases h4
 case opq=>
  intro k v hk h1 h2 v2 h3;cases h3 with
  |same hf=>simp[flat,qw,oS,oR,lP]at hf
  |opq gU _ _=>rw[hk]at gU;injection gU with gU;injection gU
 case fn=>
  intro f fi jK ca gC _ _ Rt Ru v2 h3;obtain⟨fi2,Yu,e,h4,h5⟩:=h3.z7;rw[e,Rt _ h4,Ru _ h5]
 case agg=>
  intro cs bY _ ih v2 h3;obtain⟨cs2,e,h4⟩:=h3.Gb;rw[e,ih _ h4]
 case tup=>
  intro cs bY _ ih v2 h3;obtain⟨cs2,e,h4⟩:=h3.tS;rw[e,ih _ h4]
 case nil=>intro l2 h2;cases h2;rfl
 case cons=>
  intro a b l m _ _ Rt Ru l2 h2;cases h2 with
  |cons h3 h4=>rw[Rt _ h3,Ru _ h4]
theorem Ek{ι:Map}:∀{l l1 l2:ah},bL (aH ι) l l1->bL (aH ι) l l2->l1=l2
 |_,_,_,.nil,h=>by cases h;rfl
 |_,_,_,.cons h t,h2=>by cases h2 with|cons h3 t3=>rw[I6 h h3,Ek t t3]
def Gk(m:Nat)(a:Addr):Bool:=lP a||Nat.blt a.block m
def Ca(m:Nat):Value->Bool
 |.pointer (some a)=>Gk m a
 |.slice (some a) _ _=>Gk m a
 |.agg _=>false
 |.tuple _=>false
 |.func _ _ _=>false
 |_=>true
def Cb(m:Nat):Value->Bool
 |.func _ fi ca=>fi.toList.all (Ca m)&&ca.toList.all (Ca m)
 |v=>Ca m v
def El(m:Nat):Value->Bool
 |.agg cs=>cs.toList.all (Cb m)
 |v=>Cb m v
def nk(m:Nat):Value->Bool
 |.tuple vs=>vs.toList.all (El m)
 |v=>El m v
theorem Mo{v:i_}(h:oR v=true):Ca m v=true:=by
 cases v with
 |pointer a=>cases a with
  |none=>rfl
  |some a=>show(lP a||_)=true;rw[show lP a=true from h];rfl
 |slice a n c=>cases a with
  |none=>rfl
  |some a=>show(lP a||_)=true;rw[show lP a=true from h];rfl
 |_=>exact h
theorem Mp{v:i_}(h:oS v=true):Cb m v=true:=by
 cases v with
 |func f fi ca=>
  simp only[oS,cY,aY]at h;simp only[Cb,cY,aY];exact⟨λc hc=>Mo (h.1 c hc),λc hc=>Mo (h.2 c hc)⟩
 |pointer a=>exact Mo (v:=.pointer a) h
 |slice a n c=>exact Mo (v:=.slice a n c) h
 |_=>first|rfl|exact h
theorem I7{v:i_}(h:qw v=true):El m v=true:=by
 cases v with
 |agg cs=>
  simp only[qw,aY]at h;simp only[El,aY];exact λc hc=>Mp (h c hc)
 |pointer a=>exact Mp (v:=.pointer a) h
 |slice a n c=>exact Mp (v:=.slice a n c) h
 |func f fi ca=>exact Mp (v:=.func f fi ca) h
 |_=>first|rfl|exact h
theorem iF{v:i_}(h:flat v=true):nk m v=true:=by
 cases v with
 |tuple cs=>
  simp only[flat,aY]at h;simp only[nk,aY];exact λc hc=>I7 (h c hc)
 |pointer a=>exact I7 (v:=.pointer a) h
 |slice a n c=>exact I7 (v:=.slice a n c) h
 |func f fi ca=>exact I7 (v:=.func f fi ca) h
 |agg cs=>exact I7 (v:=.agg cs) h
 |_=>first|rfl|exact h
theorem aH.low(rL:∀ k,k<m->∀ l,ι k=some l->κ k=some l){v:i_}(h:aH ι v v')(hb:nk m v=true):aH κ v v':=by
 have addr:∀(a:Addr) (s:Nat),a.spot=some s->Gk m a=true->a.block<m:=by intro a s hs h;unfold Gk lP at h;rw[hs]at h;simpa[yu]using h
 have hP:∀ v v',aH ι v v'->Ca m v=true->aH κ v v':=by
  intro v v' h hb;cases h with
  |same hf=>exact .same hf
  |ptr hk=>exact .ptr (rL _ (addr _ 7 rfl hb) _ hk)
  |slc hk h1 h2=>exact .slc (rL _ (addr _ 7 rfl hb) _ hk) h1 h2
  |slcN hk=>exact .slcN (rL _ (addr _ 7 rfl hb) _ hk)
  |opq hk h1 h2=>exact .opq (rL _ (addr _ 9 rfl hb) _ hk) h1 h2
  |_=>simp[Ca]at hb
 have tQ:∀(Q:Value->Bool),(∀ v v',aH ι v v'->Q v=true->aH κ v v')->∀ l l',bL (aH ι) l l'->(∀ c∈l,Q c=true)->bL (aH κ) l l':=by
  intro Q hQ l l' h;induction h with
  |nil=>intro _;exact .nil
  |cons h t ih=>
   intro hl;exact .cons (hQ _ _ h (hl _ (aL ..))) (ih λc hc=>hl c (bw _ hc))
 have h0:∀ v v',aH ι v v'->Cb m v=true->aH κ v v':=by
  intro v v' h hb;cases h with
  |fn h1 h2=>
   simp only[Cb,cY,aY]at hb;exact .fn (tQ _ hP _ _ h1 hb.1) (tQ _ hP _ _ h2 hb.2)
  |same hf=>exact .same hf
  |ptr hk=>exact hP _ _ (.ptr hk) hb
  |slc hk h1 h2=>exact hP _ _ (.slc hk h1 h2) hb
  |slcN hk=>exact hP _ _ (.slcN hk) hb
  |opq hk h1 h2=>exact hP _ _ (.opq hk h1 h2) hb
  |_=>simp[Cb,Ca]at hb
 have h1:∀ v v',aH ι v v'->El m v=true->aH κ v v':=by
  intro v v' h hb;cases h with
  |agg h1=>
   simp only[El,aY]at hb;exact .agg (tQ _ h0 _ _ h1 hb)
  |same hf=>exact .same hf
  |ptr hk=>exact h0 _ _ (.ptr hk) hb
  |slc hk h1 h2=>exact h0 _ _ (.slc hk h1 h2) hb
  |slcN hk=>exact h0 _ _ (.slcN hk) hb
  |opq hk h1 h2=>exact h0 _ _ (.opq hk h1 h2) hb
  |fn h1 h2=>exact h0 _ _ (.fn h1 h2) hb
  |_=>simp[El,Cb,Ca]at hb
 cases h with
 |tup h2=>
  simp only[nk,aY]at hb;exact .tup (tQ _ h1 _ _ h2 hb)
 |same hf=>exact .same hf
 |ptr hk=>exact h1 _ _ (.ptr hk) hb
 |slc hk q1 q2=>exact h1 _ _ (.slc hk q1 q2) hb
 |slcN hk=>exact h1 _ _ (.slcN hk) hb
 |opq hk q1 q2=>exact h1 _ _ (.opq hk q1 q2) hb
 |fn q1 q2=>exact h1 _ _ (.fn q1 q2) hb
 |agg q1=>exact h1 _ _ (.agg q1) hb
def fH(m:Nat)(x:Obj):Prop:=∀ v∈x.cells,nk m v=true
theorem iC.below(rL:∀ k,k<m->∀ l,ι k=some l->κ k=some l){l:pw}{x:Obj}(h:iC ι w l x)(hb:fH m x):iC κ w l x:=by
 have tQ:∀{l l':ah},bL (aH ι) l l'->(∀ c∈l,nk m c=true)->bL (aH κ) l l':=by
  intro l l' h hl;induction h with
  |nil=>exact .nil
  |cons h t ih=>exact .cons (h.low rL (hl _ (aL ..))) (ih λc hc=>hl c (bw _ hc))
 cases x with
 |aI cells ty=>obtain⟨b,bY,h1,h2,h3⟩:=h;exact⟨b,bY,h1,tQ h2 hb,h3⟩
 |row cells ty size=>
  rcases h with h|⟨b,cap,cur,h1,h2,h3,h4,h5⟩
  ·exact .inl h
  ·exact .inr ⟨b,cap,cur,h1,h2,h3,h4,tQ h5 hb⟩
 |view cells=>
  rcases h with h|⟨b,o,cap,bY,h1,h2,h3⟩
  ·exact .inl h
  ·exact .inr ⟨b,o,cap,bY,h1,tQ h2 hb,h3⟩
 |fact F=>exact h
 |dead=>trivial
theorem af.reset{c:Code}{next:Nat}{r2:lv}(h:af P B N c fr M next r1)(hex:r1.ex=r2.ex)(mD:∀ p∈r2.fr,bC r1.fr p.1=p.2)(Mq:∀ p∈r2.fr,nk next p.2=true)
  (hM:∀ p∈r2.M,ai r1.M p.1=some p.2) (Rv:∀ p∈r2.M,fH next p.2) (Mr:∀ p∈r2.M,p.1<next) (hn:next<=r2.next):af P B N c fr M next r2:=by
 intro R ι cc a w Q hf hm ha hu hQ;refine h R ι cc a w Q hf hm ha hu λbJ gk a1 w1 jc gW cS dY dy gN iE=>?_;rw[hex];have rL:∀ k,k<next->∀ l,bJ k=some l->(λk=>if k<next then bJ k else none) k=some l:=λk hk l e=>by simp[hk,e]
 have Ap:∀ k l,(λk=>if k<next then bJ k else none) k=some l->k<next/\bJ k=some l:=λk l e=>by
  dsimp only at e;split at e
  ·rename_i hk;exact⟨hk,e⟩
  ·cases e
 generalize (λk=>if k<next then bJ k else none)=κ at rL Ap;have hle:Map.le ι κ:=λk l e=>by
  have hk:k<next:=by
   rcases eU k next with h|h
   ·exact h
   ·rw[hm.dw k (hu k h)]at e;cases e
  exact rL k hk l (jc k l e)
 -- what is kept: what Yv not looked at,and what is known;the rest is dead
 have aG4:∃ c2:Nat->Option Obj,(∀ k,c2 k=none↔(next<=k\/gk k=none))/\(∀ k x,c2 k=some x->x=.dead\/(gk k=some x/\((ai M k=none)\/ai r2.M k=some x)))/\(∀ k x,ai r2.M k=some x->c2 k=some x)/\(∀ k,k<next->ai M k=none->ai r2.M k=none->c2 k=gk k):=by
  refine⟨λk=>if k<next then(match gk k with|none=>none|some x=>match ai r2.M k with|some y=>some y|none=>match ai M k with|none=>some x|some _=>some .dead)else none,?_,?_,?_,?_⟩
  ·intro k;dsimp only;by_cases hk:k<next
   ·rw[au hk];cases hc:gk k with
    |none=>simp
    |some x=>cases h2:ai r2.M k<;>cases h3:ai M k<;>simp<;>omega
   ·rw[al hk];simp;left;omega
  ·intro k x hx;dsimp only at hx;split at hx
   ·cases hc:gk k with
    |none=>rw[hc]at hx;cases hx
    |some y=>
     rw[hc]at hx;dsimp only at hx;cases h2:ai r2.M k with
     |some z=>
      rw[h2]at hx;injection hx with hx;subst hx;have:=dY k z (hM _ (iQ h2));rw[hc]at this;exact .inr ⟨this,.inr rfl⟩
     |none=>
      rw[h2]at hx;dsimp only at hx;cases h3:ai M k with
      |none=>rw[h3]at hx;injection hx with hx;subst hx;exact .inr ⟨rfl,.inl rfl⟩
      |some z=>rw[h3]at hx;injection hx with hx;exact .inl hx.symm
   ·cases hx
  ·intro k x hx;have h1:=dY k x (hM _ (iQ hx));have h2:=Mr _ (iQ hx);dsimp only at h2 ⊢;rw[au h2,h1];dsimp only;rw[hx]
  ·intro k hk h1 h2;dsimp only;rw[au hk];cases hc:gk k with
   |none=>rfl
   |some x=>rw[h2,h1]
 obtain⟨c2,d1,d2,d3,d4⟩:=aG4;have Em:∀ k x,c2 k=some x->x.owns=true->gk k=some x:=λk x hk hx=>by
  rcases d2 k x hk with rfl|⟨h1,_⟩
  ·cases hx
  ·exact h1
 have dx:aJ B κ c2 w1:=by
  refine⟨cS.base,?_,?_,?_,?_,?_,?_,?_,?_,hm.rC.trans hle⟩
  ·intro k hk;cases aG5:κ k with
   |none=>rfl
   |some l=>
    obtain⟨q1,q2⟩:=Ap k l aG5;rcases(d1 k).1 hk with q|q
    ·omega
    ·rw[cS.dw k q]at q2;cases q2
  ·intro k x hk;have qD:k<next:=by
    rcases eU k next with h|h
    ·exact h
    ·rw[(d1 k).2 (.inl h)]at hk;cases hk
   have gj:∃ y,gk k=some y:=by
    cases hc:gk k with
    |some y=>exact⟨y,rfl⟩
    |none=>rw[(d1 k).2 (.inr hc)]at hk;cases hk
   obtain⟨y,hy⟩:=gj;obtain⟨l,q1,q2⟩:=cS.born k y hy;refine⟨l,rL k qD l q1,?_⟩;rcases d2 k x hk with rfl|⟨h1,h2⟩
   ·trivial
   ·rw[hy]at h1;injection h1 with h1;subst h1;rcases h2 with h2|h2
    ·-- as it Yv
     have e0:cc k=some y:=(gN k qD h2).symm.trans hy;obtain⟨l0,p1,p2⟩:=hm.born k y e0;have p3:=jc k l0 p1;rw[q1]at p3;injection p3 with p3;subst p3;cases y with
     |aI cells ty=>
      obtain⟨b,bY,e1,e2,e3⟩:=q2;obtain⟨b0,Yw,f1,f2,f3⟩:=p2;rw[e1]at f1;injection f1 with f1 _ _;subst f1;have:bY=Yw:=Ek e2 (mY jc f2);subst this;exact⟨b,bY,e1,mY hle f2,e3⟩
     |row cells ty size=>
      rcases q2 with q2|⟨b,cap,cur,e1,e2,e3,e4,e5⟩
      ·exact .inl q2
      ·rcases p2 with p2|⟨b0,aG6,aT7,f1,f2,f3,f4,f5⟩
       ·rw[e1]at p2;cases p2.1
       ·have:=Ek e5 (mY jc f5);exact .inr ⟨b,cap,cur,e1,e2,e3,e4,by rw[this];exact mY hle f5⟩
     |view cells=>
      rcases q2 with q2|⟨b,o,cap,bY,e1,e2,e3⟩
      ·exact .inl q2
      ·rcases p2 with p2|⟨b0,o0,aG6,Yw,f1,f2,f3⟩
       ·rw[e1]at p2;cases p2.1
       ·have:=Ek e2 (mY jc f2);subst this;exact .inr ⟨b,o,cap,bY,e1,mY hle f2,e3⟩
     |fact F=>exact q2
     |dead=>trivial
    ·exact q2.below rL (Rv _ (iQ h2))
  ·intro k x b o cap hk hx hl;exact cS.own k x b o cap (Em k x hk hx) hx (Ap k _ hl).2
  ·intro i j x y b o1 c1 o3 c3 hi hx hj hy hl cZ;exact cS.inj i j x y b o1 c1 o3 c3 (Em i x hi hx) hx (Em j y hj hy) hy (Ap i _ hl).2 (Ap j _ cZ).2
  ·intro i j x F b o cap v hi hx hl hj hv;have gJ:gk j=some (.fact F):=by
    rcases d2 j _ hj with h|⟨h,_⟩
    ·cases h
    ·exact h
   exact cS.apart i j x F b o cap v (Em i x hi hx) hx (Ap i _ hl).2 gJ (Ap j _ hv).2
  ·intro k x b o cap hk hx hl;have aG7:gk k=some x:=by
    rcases d2 k x hk with rfl|⟨h1,_⟩
    ·cases hx
    ·exact h1
   obtain⟨q1,q2⟩:=cS.seen k x b o cap aG7 hx (Ap k _ hl).2;exact⟨q1,λj y o' bj hj hy hm=>q2 j y o' bj (Em j y hj hy) hy (Ap j _ hm).2⟩
  ·intro j F hj;rcases d2 j _ hj with h|⟨h,_⟩
   ·cases h
   ·exact cS.fa j F h
  ·intro i j F F' hi hj;rcases d2 i _ hi with h|⟨h,_⟩
   ·cases h
   ·rcases d2 j _ hj with h'|⟨h',_⟩
    ·cases h'
    ·exact cS.one i j F F' h h'
 refine hQ κ c2 a1 w1 hle ⟨gW.defers,gW.size,λt=>?_⟩ dx (λk x hk=>d3 k x hk) (λk hk=>(d1 k).2 (.inl (dc hn hk))) (λk hk h1=>?_) iE
 ·have hs:=(Yt gW mD).slot t;have:∀(l:aM),(∀ p∈l,nk next p.2=true)->nJ bJ (bC l t) (a1.tmps.getD t undef)->nJ κ (bC l t) (a1.tmps.getD t undef):=by
   intro l;induction l with
   |nil=>intro _ _;exact .inl rfl
   |cons p l ih=>
    intro hl hc;obtain⟨s,v⟩:=p;by_cases bK:s=t
    ·subst bK;have e:bC ((s,v)::l) s=v:=by simp[bC]
     rw[e]at hc ⊢;exact hc.imp id λhc=>hc.low rL (hl _ (aL ..))
    ·have e:bC ((s,v)::l) t=bC l t:=by show(if Nat.beq s t then _ else _)=_;rw[om bK];rfl
     rw[e]at hc ⊢;exact ih (λp hp=>hl p (bw _ hp)) hc
  exact this r2.fr Mq hs
 ·cases h2:ai r2.M k with
  |none=>rw[d4 k hk h1 h2,gN k hk h1]
  |some x=>rw[d3 k x h2,<-gN k hk h1];exact(dY k x (hM _ (iQ h2))).symm
end
section
variable{P:j_}{B:ae}{N:Nat}
def Mt(P:j_)(fr:aM)(M:aE):ResultVar->Option Value
 |.tmp t=>if mw (bC fr t)then none else some (bC fr t)
 |.cell t ty=>match bC fr t with
  |.pointer (some ad)=>if mr ad then(match ai M ad.block with|some x=>if x.reads then dE P ty x.cells ad.off else none|none=>none)else none
  |_=>none
def I8(P:j_)(fr:aM)(M:aE):List ResultVar->Option ah
 |[]=>some []
 |r::l=>match Mt P fr M r with
  |some v=>match I8 P fr M l with|some vs=>some (v::vs)|none=>none
  |none=>none
def Aq(P:j_)(fn:Func)(fr:aM)(M:aE):Option Value:=
 match I8 P fr M fn.results.toList with
 |some [v]=>some v
 |some vs=>some (.tuple vs.toArray)
 |none=>none
def rv(tmps:p_):ResultVar->Sem Value
 |.tmp t=>pure (tmps.getD t undef)
 |.cell x t=>do loadVar t (<-asAddr (tmps.getD x undef))
theorem aG8{cc:Nat->Option Obj}{a:Act}(hf:fD B ι (bC fr) N a)(hm:aJ B ι cc w)(ha:cX cc M){r:ResultVar}{v:i_}
  (h:Mt P fr M r=some v):∃ v',aH ι v v'/\(rv a.tmps r).run P w=.ok v' w:=by
 cases r with
 |tmp t=>
  unfold Mt at h;dsimp only at h;split at h
  ·cases h
  ·rename_i hn;injection h with h;subst h;exact⟨_,(hf.slot t).z8 (by simpa using hn),rfl⟩
 |cell t ty=>
  unfold Mt at h;dsimp only at h;split at h
  ·rename_i ad hx;split at h
   ·rename_i eC;split at h
    ·rename_i x hblk;split at h
     ·rename_i hrd;have hc:=hf.slot t;rw[hx]at hc;have hc:=hc.z8 rfl;rw[B0 eC]at hc;obtain⟨v',a',he,sT,pC⟩:=Xx hm (ha _ _ hblk) hrd h hc;refine⟨v',sT,?_⟩;unfold rv;dsimp only;rw[he];simp[asAddr,pC]
     ·cases h
    ·cases h
   ·cases h
  ·cases h
theorem Yx{ι:Map}{cc:Nat->Option Obj}{fr:aM}{M:aE}{a:Act}{w:h_}(hf:fD B ι (bC fr) N a)(hm:aJ B ι cc w)(ha:cX cc M):∀(l:List ResultVar) {vs:ah},
  I8 P fr M l=some vs->∃ cL,bL (aH ι) vs cL/\(l.mapM (rv a.tmps)).run P w=.ok cL w
 |[],vs,h=>by injection h with h;subst h;exact⟨[],.nil,rfl⟩
 |r::l,vs,h=>by
  unfold I8 at h;split at h
  ·rename_i v hv;split at h
   ·rename_i vs1 aN;injection h with h;subst h;obtain⟨v',hc,pC⟩:=aG8 hf hm ha hv;obtain⟨cL,fo,aG9⟩:=Yx hf hm ha l aN;refine⟨v'::cL,.cons hc fo,?_⟩;rw[I9,IM,pC,Result.andThen_ok,IM,aG9,Result.andThen_ok];rfl
   ·cases h
  ·cases h
theorem Mu{cc:Nat->Option Obj}{a:Act}(hf:fD B ι (bC fr) N a)(hm:aJ B ι cc w)(ha:cX cc M){v:i_}
  (h:Aq P fn fr M=some v):∃ v',aH ι v v'/\(results fn a.tmps).run P w=.ok v' w:=by
 unfold Aq at h;cases hr:I8 P fr M fn.results.toList with
 |none=>rw[hr]at h;cases h
 |some vs=>
  obtain⟨cL,fo,pC⟩:=Yx hf hm ha _ hr;have e:(results fn a.tmps).run P w=.ok (if h:cL.toArray.size=1 then cL.toArray[0]else .tuple cL.toArray) w:=by
   have e0:results fn a.tmps=(do let vs <-fn.results.mapM (rv a.tmps);pure (if h:vs.size=1 then vs[0]else .tuple vs)):=by
    unfold results
    congr 1
   rw[e0];rw[Array.mapM_eq_mapM_toList,IM,Sem.run_map,pC];rfl
  rw[e];rw[hr]at h;cases fo with
  |nil=>injection h with h;subst h;exact⟨_,.same rfl,by simp⟩
  |cons h1 t1=>
   cases t1 with
   |nil=>injection h with h;subst h;exact⟨_,h1,by simp⟩
   |cons h2 t2=>injection h with h;subst h;exact⟨_,.tup (.cons h1 (.cons h2 t2)),by simp⟩
def jZ:Nat->ah->aM
 |_,[]=>[]
 |i,v::l=>(i,v)::jZ (i+1) l
theorem Mv{ι:Map}:∀{l l':ah},bL (aH ι) l l'->∀(i t:Nat) (tail:ah),nJ ι (bC (jZ i l) t) (if i<=t then(l'++tail).getD (t-i) undef else undef)\/mw (bC (jZ i l) t)=true
 |_,_,.nil,i,t,tail=>.inr rfl
 |_,_,.cons (a:=v) (b:=v') (l:=l) (m:=m) h k,i,t,tail=>by
  by_cases vj:i=t
  ·subst vj;left;right;have e:bC (jZ i (v::l)) i=v:=by simp[jZ,bC]
   rw[e];simpa using h
  ·have e:bC (jZ i (v::l)) t=bC (jZ (i+1) l) t:=by show(if Nat.beq i t then _ else _)=_;rw[om vj];rfl
   rw[e];rcases Mv k (i+1) t tail with h1|h1
   ·left;by_cases ao:i+1<=t
    ·rw[au ao]at h1;rw[au o_];have:t-i=(t-(i+1))+1:=by omega
     rw[this];simpa using h1
    ·by_cases hle:i<=t
     ·omega
     ·rw[al ao]at h1;rw[al hle];exact h1
   ·exact .inr h1
theorem Yy{c:Code}{Q:Exit->Act->World->Prop}{a:Act}{n:Nat}(h:c.wpIn (FW none) n P Q a w):c.wp P Q a w:=wpIn_wide.1 h
theorem aHa{c:Code}{next:Nat}{r:lv}{v:i_}{cc:Nat->Option Obj}
  (hf:P.funcs[f]?=some fn) (hb:fn.body=some c) (hN:N=args.length+(fn.ntmps-args.length)) (g:af P B N c (jZ 0 args) M next r) (hex:(match r.ex with|.exit _=>false|_=>true)=true)
  (hv:Aq P fn r.fr r.M=some v) (dz:bL (aH ι) args args') (hm:aJ B ι cc w) (ha:cX cc M) (hu:eH cc next)
  (hQ:∀ av bX v' w',Map.le ι av->aH av v v'->aJ B av bX w'->cX bX r.M->eH bX r.next->(∀ k,k<next->ai M k=none->bX k=cc k)->Q (.returned v') w') (mE:B.ds=[]:=by rfl):Calls P f args'.toArray w Q:=by
 refine calls_of_wp hf hb ?_;have mD:fD B ι (bC (jZ 0 args)) N { tmps:=args'.toArray++Array.replicate (fn.ntmps-args'.toArray.size) undef,defers:=[]}:=by
  refine⟨mE.symm,by simp[hN,dz.length],λt=>?_⟩;rcases Mv dz 0 t (List.replicate (fn.ntmps-args'.length) undef)with h|h
  ·simp only[kB,qx,Gl]at h;have e:(args'.toArray++Array.replicate (fn.ntmps-args'.toArray.size) undef).getD t undef=(args'++List.replicate (fn.ntmps-args'.length) undef).getD t undef:=by simp[pF,D7,<-Array.getElem?_toList]
   dsimp only;rw[e];exact h
  ·exact .inl h
 refine Yy (g none ι cc _ w _ mD hm ha hu λav bX a' w' hle wE bo gV oT gU _=>by
  obtain⟨v',hc,pC⟩:=Mu (fn:=fn) wE bo gV hv;have fin:=hQ av bX v' w' hle hc bo gV oT gU;cases hx:r.ex with
  |normal=>exact⟨wE.defers.trans mE,v',pC,fin⟩
  |ret=>exact⟨wE.defers.trans mE,v',pC,fin⟩
  |exit id=>rw[hx]at hex;cases hex)
def gD(fn:Func)(n:Nat)(args:ah)(M:aE)(next:Nat)(rs:bH P B N):Option (Value×jN P B N):=
 match fn.body with
 |some c=>match iR n c (jZ 0 args) M next rs with
  |some r=>match (match r.ex with|.exit _=>none|_=>Aq P fn r.fr r.M)with
   |some v=>some (v,r)
   |none=>none
  |none=>none
 |none=>none
def ou(o:Option (Value×jN P B N))(ms:aE):Bool×Option (Value×List (Option Obj)×List nN):=
 match o with
 |some r=>(true,some (r.1,ms.map λp=>ai r.2.M p.1,r.2.tr.map (·.1)))
 |none=>(true,none)
def ow(o:Option (Value×jN P B N))(v:i_)(ms:aE):Bool×Option (Value×List (Option Obj)×List nN):=
 match o with
 |some r=>(true,some (v,ms.map λp=>some p.2,r.2.tr.map (·.2)))
 |none=>(false,none)
theorem Mw:∀{tr:vg},tr.map (·.1)=tr.map (·.2)->rE tr
 |[],_=>λp hp=>by cases hp
 |q::l,h=>by
  simp only[qE]at h;injection h with h1 h2;intro p hp;rcases b9.1 hp with rfl|hp
  ·exact h1
  ·exact Mw h2 p hp
theorem Mx{M:aE}:∀{ms:aE},(ms.map λp=>ai M p.1)=(ms.map λp=>some p.2)->∀ p∈ms,ai M p.1=some p.2
 |[],_=>λp hp=>by cases hp
 |q::l,h=>by
  simp only[qE]at h;injection h with h1 h2;intro p hp;rcases b9.1 hp with rfl|hp
  ·exact h1
  ·exact Mx h2 p hp
theorem Rw{next:Nat}{rs:bH P B N}{v:i_}{cc:Nat->Option Obj}(iq:P.follows .mixedOrders=true)
  (hf:P.funcs[f]?=some fn) (hN:N=args.length+(fn.ntmps-args.length)) (n:Nat) (h:ou (gD (P:=P) fn n args M next rs) ms=ow (gD fn n args M next rs) v ms)
  (dz:bL (aH ι) args args') (hm:aJ B ι cc w) (ha:cX cc M) (hu:eH cc next)
  (hQ:∀ av bX v' w',Map.le ι av->aH av v v'->aJ B av bX w'->(∀ p∈ms,bX p.1=some p.2)->(∀ k,k<next->ai M k=none->bX k=cc k)->Q (.returned v') w') (mE:B.ds=[]:=by rfl):Calls P f args'.toArray w Q:=by
 cases ho:gD (P:=P) fn n args M next rs with
 |none=>rw[ho]at h;cases h
 |some r=>
  rw[ho]at h;unfold ou ow at h;dsimp only at h;injection h with _ h;injection h with h;injection h with h1 h;injection h with h2 h3;have hs:=Mw h3;have dG:=Mx h2;unfold gD at ho;split at ho
  ·rename_i c hb;split at ho
   ·rename_i r' hr;split at ho
    ·rename_i v' hv;injection ho with ho;subst ho;dsimp only at h1 hs dG;subst h1;have g:=((Rp (P:=P) (B:=B) (N:=N) iq n).1 c _ M next rs r' hr hs).1;have hex:(match r'.out.ex with|.exit _=>false|_=>true)=true:=by
      show(match r'.ex with|.exit _=>false|_=>true)=true;cases hx:r'.ex with
      |exit id=>rw[hx]at hv;cases hv
      |normal=>rfl
      |ret=>rfl
     have qy:Aq P fn r'.out.fr r'.out.M=some v':=by
      show Aq P fn r'.fr r'.M=some v';cases hx:r'.ex with
      |exit id=>rw[hx]at hv;cases hv
      |normal=>rw[hx]at hv;exact hv
      |ret=>rw[hx]at hv;exact hv
     exact aHa hf hb hN g hex qy dz hm ha hu (λav bX v2 w' hle hc bo gV oT gU=>hQ av bX v2 w' hle hc bo (λp hp=>gV _ _ (dG p hp)) gU) mE
    ·cases ho
   ·cases ho
  ·cases ho
theorem uc{next:Nat}{rs:bH P B N}{v:i_}{cc:Nat->Option Obj}(iq:P.follows .mixedOrders=true)
  (hf:P.funcs[f]?=some fn) (hN:N=args.length+(fn.ntmps-args.length)) (n:Nat) (h:ou (gD (P:=P) fn n args M next rs) ms=ow (gD fn n args M next rs) v ms)
  (dz:bL (aH ι) args args') (hm:aJ B ι cc w) (ha:cX cc M) (hu:eH cc next)
  (hQ:∀ av bX v' w',Map.le ι av->aH av v v'->aJ B av bX w'->(∀ p∈ms,bX p.1=some p.2)->Q (.returned v') w') (mE:B.ds=[]:=by rfl):Calls P f args'.toArray w Q:=
 Rw iq hf hN n h dz hm ha hu (λav bX v' w' h1 h2 h3 h4 _=>hQ av bX v' w' h1 h2 h3 h4) mE
def Ja(o:Option (jN P B N))(fr:aM)(M:aE):Bool×Option (Ex×ah×List (Option Obj)×Bool×List nN):=
 match o with
 |some r=>(true,some (r.ex,fr.map λp=>bC r.fr p.1,M.map λp=>ai r.M p.1,true,r.tr.map (·.1)))
 |none=>(true,none)
def Jb(o:Option (jN P B N))(ex:Ex)(fr:aM)(M:aE)(next:Nat):Bool×Option (Ex×ah×List (Option Obj)×Bool×List nN):=
 match o with
 |some r=>(true,some (ex,fr.map λp=>p.2,M.map λp=>some p.2,Nat.ble r.next next,r.tr.map (·.2)))
 |none=>(false,none)
theorem My{An:aM}:∀{fr:aM},(fr.map λp=>bC An p.1)=(fr.map λp=>p.2)->∀ p∈fr,bC An p.1=p.2
 |[],_=>λp hp=>by cases hp
 |q::l,h=>by
  simp only[qE]at h;injection h with h1 h2;intro p hp;rcases b9.1 hp with rfl|hp
  ·exact h1
  ·exact My h2 p hp
theorem fE(iq:P.follows .mixedOrders=true){c:Code}{next:Nat}(n:Nat)(rs:bH P B N){r:lv}
  (h:Ja (iR n c fr M next rs) r.fr r.M=Jb (iR n c fr M next rs) r.ex r.fr r.M r.next):af P B N c fr M next r:=by
 cases ho:iR n c fr M next rs with
 |none=>rw[ho]at h;cases h
 |some r1=>
  rw[ho]at h;unfold Ja Jb at h;dsimp only at h;injection h with _ h;injection h with h;injection h with h1 h;injection h with h2 h;injection h with h3 h;injection h with h4 h5;obtain⟨g,_⟩:=(Rp (P:=P) (B:=B) (N:=N) iq n).1 c fr M next rs r1 ho (Mw h5);exact g.to h1 (My h2) (Mx h3) (pB h4.symm)
theorem ue(iq:P.follows .mixedOrders=true){c:Code}{next:Nat}(n:Nat)(rs:bH P B N){r:lv}{fY:Nat}
  (h:Ja (iR n c fr M next rs) r.fr r.M=Jb (iR n c fr M next rs) r.ex r.fr r.M fY) (hn:r.next=next) (Mq:(r.fr.all λp=>nk next p.2)=true) (Rv:∀ p∈r.M,fH next p.2) (Mr:(r.M.all λp=>Nat.blt p.1 next)=true) :
  af P B N c fr M next r:=by
 cases ho:iR n c fr M next rs with
 |none=>rw[ho]at h;cases h
 |some r1=>
  rw[ho]at h;unfold Ja Jb at h;dsimp only at h;injection h with _ h;injection h with h;injection h with h1 h;injection h with h2 h;injection h with h3 h;injection h with h4 h5;obtain⟨g,_⟩:=(Rp (P:=P) (B:=B) (N:=N) iq n).1 c fr M next rs r1 ho (Mw h5);rw[aY]at Mq Mr;exact g.reset h1 (My h2) Mq (Mx h3) Rv (λp hp=>by simpa[yu]using Mr p hp) (u4 hn.symm)
def aD(P:j_)(f:FuncId)(args:ah)(res:i_):Prop:=
 ∀ w:World,Calls P f args.toArray w λe w'=>e=.returned res/\Below w.heap.size w w'
theorem sZ(w:h_):aJ (ae.at w) (λ_=>none) (λ_=>none) w:=
 ⟨Below.refl _ _,λ_ _=>rfl,λk x h=>(by cases h),λk x b o cap h=>(by cases h),λk j x y b o cap o' bj h=>(by cases h),λk j x F b o cap v h=>(by cases h),λk x b o cap h=>(by cases h),λj F h=>(by cases h),λj k F F' h=>(by cases h),λ_ _ h=>(by cases h)⟩
theorem fj{v:i_}(iq:P.follows .mixedOrders=true)(hf:P.funcs[f]?=some fn)(n:Nat)(rs:∀ w,bH P (ae.at w) (args.length+(fn.ntmps-args.length)))
  (h:∀ w,ou (gD (P:=P) fn n args [] 0 (rs w)) []=ow (gD fn n args [] 0 (rs w)) v []) (dz:args.all flat=true) (hv:flat v=true):aD P f args v:=by
 intro w;rw[aY]at dz;exact uc iq hf rfl n (h w) (ky dz) (sZ w) n_ (λ_ _=>rfl) λav bX v' w' _ hc hm _=>⟨by rw[hc.fh hv],hm.base⟩
def aD.at(h:aD P f args res)(key:Nat):aQ P B N:=.call key f args res λw _=>h w
end
def c8(w:h_)(v:i_)(n:Nat)(xs:ah):Prop:=
 (v=.slice none 0 0/\n=0/\xs=[])\/∃ b o c',v=.slice (some ⟨b,o,none⟩) n c'/\n<=c'/\b<w.heap.size/\∀ j u,xs[j]?=some u->w.cell? ⟨b,o+j,none⟩=some u
section
variable{P:j_}{B:ae}{N:Nat}
theorem c8.jw{v:i_}{n:Nat}(h:c8 w v n xs)(hb:Below w.heap.size w w'):c8 w' v n xs:=by
 rcases h with h|⟨b,o,c',h1,h2,h3,h4⟩
 ·exact .inl h
 ·exact .inr ⟨b,o,c',h1,h2,cC h3 hb.size,λj u hj=>by rw[hb.cell h3];exact h4 j u hj⟩
theorem c8.Yz{base:Nat}{v:i_}{n:Nat}(h:w.ownsRow base ty size v n xs):c8 w v n xs:=by
 rcases h.2 with ⟨h1,h2⟩|⟨g,cap,cur,h1,h2,h3,h4,h5,h6,h7⟩
 ·have:=h.1;rw[h2,lB]at this;exact .inl ⟨h1,h2,kA this⟩
 ·refine .inr ⟨g,0,cap,h1,h4,(wG.1 h3).1,λj u hj=>?_⟩;rw[<-h7,tV]at hj;split at hj
  ·have:cur[j]?=some u:=by simpa using hj
   simp[World.cell?,h3,this]
  ·cases hj
theorem ox(hm:aJ B ι c w){n:Nat}{x:Obj}{v:i_}(hk:c k=some x)(hx:x.reads=true)(cG:∀ u∈x.cells,flat u=true)
  (hlen:n=0->len=0) (hc:aH ι (.slice (some ⟨k,off,some 7⟩) n cc) v):c8 w v n ((x.cells.drop off).take len):=by
 rcases hc.gR rfl with ⟨hb,ki,pE,yo,he⟩|⟨b,oo,cap,c',hb,lq,mA,he⟩
 ·exact .inl ⟨he,ki,by rw[hlen ki];rfl⟩
 ·dsimp only at hb he;obtain⟨l,h1,h2⟩:=hm.born k x hk;rw[hb]at h1;injection h1 with h1;subst h1;obtain⟨bY,fo,kh⟩:=h2.at hx;have fo:=mZ fo cG;subst fo;refine .inr ⟨b,oo+off,c',he,lq,?_,λj u hj=>?_⟩
  ·by_cases ho:x.owns=true
   ·exact(hm.own k x b oo cap hk ho hb).1
   ·have hv:x.jv=true:=by unfold Obj.reads at hx;rw[rH]at hx;exact hx.resolve_left ho
    exact(hm.seen k x b oo cap hk hv hb).1
  ·rw[tV]at hj;split at hj
   ·rw[DZ]at hj;rw[tX];exact kh _ _ hj
   ·cases hj
theorem yx(hm:aJ B ι c w){n:Nat}{v:i_}(hk:c k=none)(h:c8 w v n xs)(cG:∀ u∈xs,flat u=true)
  (fJ:∀ b o c',v=.slice (some ⟨b,o,none⟩) n c'->∀ j y o' bj,c j=some y->y.owns=true->ι j≠some (.at b o' bj)) :
  ∃ av,Map.le ι av/\aJ B av (aV c k (.view xs)) w/\aH av (.slice (some ⟨k,0,some 7⟩) n 0) v:=by
 rcases h with ⟨h1,h2,h3⟩|⟨b,o,c',h1,h2,h3,h4⟩
 ·subst h1;subst h2;subst h3;exact⟨dD ι k .nil,gu (hm.dw k hk),hm.add hk (.inl ⟨rfl,rfl⟩) n_ n_ n_,.slcN (fC _ _ _)⟩
 ·subst h1;refine⟨dD ι k (.at b o c'),gu (hm.dw k hk),hm.add hk (.inr ⟨b,o,c',xs,rfl,ky cG,h4⟩) n_ n_ (λb1 o1 kS _ e=>?_),.slc (off:=0) (fC _ _ _) h2 o_⟩;injection e with e1 e2 e3;subst e1;exact⟨h3,λj y o' bj hj hy=>fJ b o c' rfl j y o' bj hj hy⟩
theorem En(hm:aJ B ι c w)(hb:Below w.heap.size w w'){n:Nat}{v:i_}(hk:c k=none)(h:w'.ownsRow w.heap.size ty size v n xs)(cG:∀ u∈xs,flat u=true):
  ∃ av,Map.le ι av/\aJ B av (aV c k (.row xs ty size)) w'/\aH av (.slice (some ⟨k,0,some 7⟩) n 0) v:=by
 have bo:=hm.call hb;rcases h.2 with ⟨h1,h2⟩|⟨g,cap,cur,h1,h2,h3,h4,h5,h6,h7⟩
 ·have hl:=h.1;rw[h2,lB]at hl;have hx:xs=[]:=kA hl;subst h1;subst h2;subst hx;exact⟨dD ι k .nil,gu (hm.dw k hk),bo.add hk (.inl ⟨rfl,rfl⟩) n_ n_ n_,.slcN (fC _ _ _)⟩
 ·subst h1;refine⟨dD ι k (.at g 0 cap),gu (hm.dw k hk),hm.new hb hk (.inr ⟨g,cap,cur,rfl,h3,h5,h6,?_⟩) (λb o cap _ e=>?_) n_ rfl,.slc (o:=0) (off:=0) (fC _ _ _) h4 o_⟩
  ·rw[h.1,h7];exact ky cG
  ·injection e with e1 e2 e3;subst e1;exact⟨h2,(wG.1 h3).1⟩
theorem YA(hm:aJ B ι c w)(hb:Below w.heap.size w w'){n:Nat}{v:i_}(hk:c k=none)(h:w'.ownsRow w.heap.size ty size v n xs)(cG:∀ u∈xs,flat u=true):
  ∃ av,Map.le ι av/\aJ B av (aV c k (.view xs)) w'/\aH av (.slice (some ⟨k,0,some 7⟩) n 0) v:=by
 refine yx (hm.call hb) hk (.Yz h) cG λb o c' e j y o' bj hj hy he=>?_;have h1:=(hm.own j y b o' bj hj hy he).1;rcases h.2 with ⟨h2,_⟩|⟨g,cap,cur,h2,h3,_⟩
 ·rw[h2]at e;cases e
 ·rw[h2]at e;injection e with e1 e2;injection e1 with e1;injection e1 with e1;omega
theorem vk(hm:aJ (ae.at w) ι c w'){n:Nat}{cells:ah}{v:i_}(hk:c k=some (.row cells ty size))(hv:aH ι (.slice (some ⟨k,0,some 7⟩) n 0) v)
  (hn:n*size<=cells.length) (cG:∀ u∈cells,flat u=true):w'.ownsRow w.heap.size ty size v n (cells.take (n*size)):=by
 have hl:(cells.take (n*size)).length=n*size:=by rw[jn];omega
 refine⟨hl,?_⟩;rcases hv.gR rfl with ⟨hb,ki,pE,yo,he⟩|⟨b,oo,cap,c',hb,lq,mA,he⟩
 ·exact .inl ⟨he,ki⟩
 ·dsimp only at hb he;have kj:c'=cap:=by omega
  subst kj;obtain⟨l,h1,h2⟩:=hm.born k _ hk;rw[hb]at h1;injection h1 with h1;subst h1;have eC:=hm.own k _ b oo c' hk rfl hb;rcases h2 with h2|⟨b',bj,cur,e1,lR,dF,fo,jb⟩
  ·cases h2.1
  ·injection e1 with e1 e2 e3;subst e1;subst e2;subst e3;refine .inr ⟨b,c',cur,by rw[he],?_,lR,lq,dF,fo,?_⟩
   ·rcases eU b w.heap.size with h|h
    ·exact absurd h eC.2
    ·exact h
   ·have:=mZ jb cG;have h3:=ch (List.take (n*size)) this;rw[L6,nh hn]at h3;exact h3
inductive cA where
 |plain (v:i_)
 |row (v:i_) (n:Nat) (xs:ah)
def cA.real:cA->Value
 |.plain v=>v
 |.row v _ _=>v
def cA.OK(w:h_):cA->Prop
 |.plain v=>flat v=true
 |.row v n xs=>c8 w v n xs/\∀ u∈xs,flat u=true
def rM:Nat->List cA->ah
 |_,[]=>[]
 |k,.plain v::l=>v::rM k l
 |k,.row _ n _::l=>.slice (some ⟨k,0,some 7⟩) n 0::rM (k+1) l
def uf:Nat->List cA->aE
 |_,[]=>[]
 |k,.plain _::l=>uf k l
 |k,.row _ _ xs::l=>(k,.view xs)::uf (k+1) l
def s7:Nat->List cA->Nat
 |k,[]=>k
 |k,.plain _::l=>s7 k l
 |k,.row _ _ _::l=>s7 (k+1) l
theorem Rx{w:h_}:∀(l:List cA) (k:Nat) (ι:Map) (c:Nat->Option Obj),aJ B ι c w->(∀ j x,c j=some x->x.owns=false)->eH c k->(∀ s∈l,cA.OK w s)->
  ∃ av c',Map.le ι av/\aJ B av c' w/\(∀ j x,c' j=some x->x.owns=false)/\eH c' (s7 k l)/\cX c' (uf k l)/\(∀ j,j<k->c' j=c j)/\bL (aH av) (rM k l) (l.map cA.real)/\k<=s7 k l
 |[],k,ι,c,hm,ho,hu,_=>⟨ι,c,Map.le.refl _,hm,ho,hu,λk x h=>(by cases h),λ_ _=>rfl,.nil,bh _⟩
 |.plain v::l,k,ι,c,hm,ho,hu,hl=>by obtain⟨av,c',h1,h2,h3,h4,h5,h6,h7,h8⟩:=Rx l k ι c hm ho hu λs hs=>hl s (bw _ hs);exact⟨av,c',h1,h2,h3,h4,h5,h6,.cons (.same (hl _ (aL ..))) h7,h8⟩
 |.row v n xs::l,k,ι,c,hm,ho,hu,hl=>by
  obtain⟨hr,cG⟩:=hl _ (aL ..);obtain⟨bJ,q1,q2,q3⟩:=yx hm (hu k (bh _)) hr cG λb o c' _ j y o' bj hj hy=>by rw[ho j y hj]at hy;cases hy
  obtain⟨av,c',h1,h2,h3,h4,h5,h6,h7,h8⟩:=Rx l (k+1) bJ _ q2 (λj x hj=>by
   unfold aV at hj;split at hj
   ·injection hj with hj;subst hj;rfl
   ·exact ho j x hj) (λj hj=>by
   unfold aV;rw[al o_];exact hu j o_) λs hs=>hl s (bw _ hs)
  refine⟨av,c',q1.trans h1,h2,h3,h4,λj x hj=>?_,λj hj=>?_,.cons (q3.mono h1) h7,by show k<=s7 (k+1) l;omega⟩
  ·unfold uf ai at hj;split at hj
   ·rename_i hb;injection hj with hj;subst hj;rw[<-jY hb,h6 k o_];unfold aV;rw[au rfl]
   ·exact h5 j x hj
  ·rw[h6 j o_];unfold aV;rw[al o_]
theorem lC{v:i_}(iq:P.follows .mixedOrders=true)(hf:P.funcs[f]?=some fn)(l:List cA)(hl:∀ s∈l,cA.OK w s)(n:Nat){N:Nat}(hN:N=(rM 0 l).length+(fn.ntmps-(rM 0 l).length))
  {rs:bH P (ae.at w) N}
  (h:ou (gD (P:=P) fn n (rM 0 l) (uf 0 l) (s7 0 l) rs) ms=ow (gD fn n (rM 0 l) (uf 0 l) (s7 0 l) rs) v ms)
  (hQ:∀ av bX v' w',aH av v v'->aJ (ae.at w) av bX w'->(∀ p∈ms,bX p.1=some p.2)->bL (aH av) (rM 0 l) (l.map cA.real)->Q (.returned v') w'):Calls P f (l.map cA.real).toArray w Q:=by
 obtain⟨ι,c,h1,h2,h3,h4,h5,h6,h7,h8⟩:=Rx (B:=ae.at w) l 0 _ _ (sZ w) n_ (λ_ _=>rfl) hl;exact uc iq hf hN n h h7 h2 h5 h4 λav bX v' w' hle hc hm dG=>hQ av bX v' w' hc hm dG (h7.imp λ_ _ _ h=>h.mono hle)
def di:Op->Option Operand
 |.call ⟨.value x,_,_⟩=>some x
 |_=>none
theorem jP{fi:ah}{val:i_}{cP:aE}(ho:di o.op=some x)(eK:fW P f=true)
  (h:∀ ι c w,aJ B ι c w->(∀ p∈need,c p.1=p.2)->∀ args',bL (aH ι) (fi++args++ca) args'->Calls P f args'.toArray w λe w'=>∃ av v',e=.returned v'/\Map.le ι av/\aH av val v'/\aJ B av (lp c cP) w') :
  cz P B o (.func (.func f) fi.toArray ca.toArray::args) need val cP:=by
 intro R ι c a w hv hm hn K Q hK;obtain⟨dst,op,ty,pos,after,guard⟩:=o;dsimp only at ho hv;unfold di at ho;split at ho
 ·rename_i x' kT wy;injection ho with ho;subst ho;have yk:(Op.operands (.call ⟨.value x',kT,wy⟩)).toList=x'::kT.toList:=by simp[Op.operands,Call.operands]
  rw[yk]at hv;cases hv with
  |cons hx rD=>
  obtain⟨jK,gC,he,h1,h2⟩:=hx.z7;have aU:=(h1.append rD).append h2;dsimp only at aU;have e3:execOp a.eval ⟨dst,.call ⟨.value x',kT,wy⟩,ty,pos,after,guard⟩=callFunc f (jK++kT.map a.eval++gC):=by have:execOp a.eval ⟨dst,.call ⟨.value x',kT,wy⟩,ty,pos,after,guard⟩=(do let d <-Deferred.ofValue (a.eval x') (kT.map a.eval);invoke d.target d.args):=rfl;rw[this,he];rfl
  have e4:(jK++kT.map a.eval++gC:p_)=(jK.toList++List.map a.eval kT.toList++gC.toList).toArray:=by apply D2;simp
  refine⟨λ_ _=>trivial,?_⟩;rw[LX _ _ _ n_,e3,e4,Md eK,Oper.uponIn_enter];refine⟨λe=>(by cases e),IW.2 ((h ι c w hm hn _ aU).mono ?_)⟩
  rintro e w' ⟨av,v',rfl,q1,q2,q3⟩
  exact hK av v' w' q1 q2 q3
 ·cases ho
end
def yy:Code->Nat->Option Oper
 |.region _ ops _,k=>ops.toList.find? λo=>Nat.beq (Mc o) k
 |.seq x y,k=>match yy x k with|some o=>some o|none=>yy y k
 |.cond _ x y,k=>match yy x k with|some o=>some o|none=>yy y k
 |.block _ b,k=>yy b k
 |.loop b,k=>yy b k
 |.scope b,k=>yy b k
 |.rangeFunc _ _ x y,k=>match yy x k with|some o=>some o|none=>yy y k
 |_,_=>none
def ay(fn:Func)(k:Nat):Oper:=match fn.body with|some c=>(match yy c k with|some o=>o|none=>default)|none=>default
def yz:Code->Nat->Option Code
 |.seq x y,k=>match yz x k with|some o=>some o|none=>yz y k
 |.cond _ x y,k=>match yz x k with|some o=>some o|none=>yz y k
 |.block id b,k=>if Nat.beq id k then some b else yz b k
 |.loop b,k=>yz b k
 |.scope b,k=>yz b k
 |.rangeFunc _ _ x y,k=>match yz x k with|some o=>some o|none=>yz y k
 |_,_=>none
def ag(fn:Func)(k:Nat):Code:=match fn.body with|some c=>(match yz c k with|some o=>o|none=>.skip)|none=>.skip
def aF(c:Code):Code:=match c with|.loop b=>b|_=>.skip
section
variable{P:j_}{B:ae}{N:Nat}
def vI(n:Nat):Value:=.int .i64 n
def aQ.sum(key i j s:Nat)(h:s=i+j)(hs:s<9223372036854775808):aQ P B N:=
 .rw key (.int .i64 (IntKind.i64.wrap ((i:Int)+(j:Int)))) (vI s) (by
  have e:IntKind.i64.wrap ((i:Int)+(j:Int))=(s:Int):=by rw[dU];omega
  rw[e];rfl)
def aQ.eW(key i j s:Nat)(h:i=s+j)(hs:i<9223372036854775808):aQ P B N:=
 .rw key (.int .i64 (IntKind.i64.wrap ((i:Int)-(j:Int)))) (vI s) (by
  have e:IntKind.i64.wrap ((i:Int)-(j:Int))=(s:Int):=by rw[dU];omega
  rw[e];rfl)
def aQ.lt(key i n:Nat)(b:Bool)(h:decide (i<n)=b):aQ P B N:=
 .rw key (.bool (decide ((i:Int)<(n:Int)))) (.bool b) (by rw[<-h];congr 1;rw[oW];omega)
def aQ.gt(key i n:Nat)(b:Bool)(h:decide (n<i)=b):aQ P B N:=
 .rw key (.bool (decide ((i:Int)>(n:Int)))) (.bool b) (by rw[<-h];congr 1;rw[oW];omega)
def aQ.ge(key i n:Nat)(b:Bool)(h:decide (n<=i)=b):aQ P B N:=
 .rw key (.bool (decide ((i:Int)>=(n:Int)))) (.bool b) (by rw[<-h];congr 1;rw[oW];omega)
def aQ.gm(key i n:Nat)(b:Bool)(h:decide (i=n)=b):aQ P B N:=
 .rw key (.bool ((i:Int)==(n:Int))) (.bool b) (by
  rw[<-h];congr 1
  by_cases hi:i=n
  ·subst hi;simp
  ·have:¬((i:Int)=(n:Int)):=by omega
   rw[aO hi];simpa using this)
def aQ.wr(key:Nat)(k:IntKind)(m m':Int)(h:k.wrap m=m'):aQ P B N:=.rw key (.int k (k.wrap m)) (.int k m') (by rw[h])
def aQ.quo(key:Nat)(k:IntKind)(m m':Int)(h:m=m'):aQ P B N:=.rw key (.int k m) (.int k m') (by rw[h])
def wH(P:j_)(o:Oper):Option Nat:=match o.op with
 |.indexAddr t _ _=>match P.underlying t with|some (.slice e)=>(match P.info? e with|some i=>some i.size|none=>none)|_=>none
 |_=>none
theorem Mz{s:Nat}(ho:wH P o=some s){n:Nat}{kd:IntKind}(hi:i<n):
  cz P B o [.slice (some ⟨k,off,some 7⟩) n cc,.int kd i] [] (.pointer (some ⟨k,off+i*s,some 7⟩)) []:=by
 unfold wH at ho;split at ho
 ·rename_i t x y bM;split at ho
  ·rename_i e ht;split at ho
   ·rename_i inf Ad;injection ho with ho;have:=XE (P:=P) (B:=B) bM ht Ad (kd:=kd) (n:=(i:Int)) (len:=n) (cc:=cc) o_ o_ k off;rw[Int.toNat_natCast,ho]at this;exact this.step
   ·cases ho
  ·cases ho
 ·cases ho
def aQ.ix(fn:Func)(key k n i:Nat)(hi:i<n)(ho:wH P (ay fn key)=some 1):aQ P B N:=
 .step key (ay fn key) [.slice (some ⟨k,0,some 7⟩) n 0,vI i] [] (.pointer (some ⟨k,i,some 7⟩)) [] (by have:=Mz (B:=B) ho (k:=k) (off:=0) (cc:=0) (kd:=.i64) hi;rw[jL,gn]at this;exact this)
def aQ.wI(fn:Func)(key k off n cc i:Nat)(hi:i<n)(ho:wH P (ay fn key)=some 1):aQ P B N:=
 .step key (ay fn key) [.slice (some ⟨k,off,some 7⟩) n cc,vI i] [] (.pointer (some ⟨k,off+i,some 7⟩)) [] (by have:=Mz (B:=B) ho (k:=k) (off:=off) (cc:=cc) (kd:=.i64) hi;rw[gn]at this;exact this)
def aQ.df(fn:Func)(key k n i s:Nat)(hi:i<n)(ho:wH P (ay fn key)=some s):aQ P B N:=
 .step key (ay fn key) [.slice (some ⟨k,0,some 7⟩) n 0,vI i] [] (.pointer (some ⟨k,i*s,some 7⟩)) [] (by have:=Mz (B:=B) ho (k:=k) (off:=0) (cc:=0) (kd:=.i64) hi;rw[jL]at this;exact this)
def Ry(o:Oper):Option TypeId:=match o.op with|.load t _=>some t|_=>none
theorem aHb{t:TypeId}(ho:Ry o=some t){x:Obj}{v:i_}(hx:x.reads=true)(hv:dE P t x.cells off=some v):cz P B o [.pointer (some ⟨k,off,some 7⟩)] [(k,some x)] v []:=by
 unfold Ry at ho;split at ho
 ·rename_i t' y bM;injection ho with ho;subst ho;exact(Xz bM hx hv).step
 ·cases ho
def aQ.ld(fn:Func)(key t k off:Nat)(x:Obj)(v:i_)(hx:x.reads=true)(hv:dE P t x.cells off=some v)(ho:Ry (ay fn key)=some t):aQ P B N:=
 .step key (ay fn key) [.pointer (some ⟨k,off,some 7⟩)] [(k,some x)] v [] (aHb ho hx hv)
def YB(o:Oper):Option TypeId:=match o.op with|.store t _ _=>some t|_=>none
def aQ.st(fn:Func)(key t k off:Nat)(x:Obj)(v:i_)(y:Obj)(hx:x.owns=true)(hv:eT P t x.cells off v=some y.cells)(hy:y=x.LW y.cells)(ho:YB (ay fn key)=some t):aQ P B N:=
 .step key (ay fn key) [.pointer (some ⟨k,off,some 7⟩),v] [(k,some x)] undef [(k,y)] (by
  unfold YB at ho;split at ho
  ·rename_i t' a b bM;injection ho with ho;subst ho;rw[hy];exact(XA bM hx hv).step
  ·cases ho)
def MA(P:j_)(o:Oper):Option (TypeId×Nat×Nat×Value):=match o.op with
 |.makeSlice t _ _=>match P.underlying t with
  |some (.slice e)=>(match P.info? e with|some i=>(match i.zero with|some z=>some (e,i.size,i.bytes,z)|none=>none)|none=>none)
  |_=>none
 |_=>none
def aQ.pI(fn:Func)(key k n e bytes:Nat)(z:i_)(cells:ah)(hc:List.replicate n z=cells)(hf:flat z=true)(hz:z.cells=#[z])(hb:bytes*n<=281474976710656)(hn:n<=maxLen)(ho:MA P (ay fn key)=some (e,1,bytes,z)):aQ P B N:=
 .step key (ay fn key) [vI n,vI n] [(k,none)] (.slice (some ⟨k,0,some 7⟩) n 0) [(k,.row cells e 1)] (by
  subst hc;unfold MA at ho;split at ho
  ·rename_i t a b bM;split at ho
   ·rename_i e' ht;split at ho
    ·rename_i i hi;split at ho
     ·rename_i z' lQ;injection ho with ho;injection ho with h1 ho;injection ho with h2 ho;injection ho with h3 h4;subst h1;subst h4;have:=XG (P:=P) (B:=B) bM ht hi lQ (kl:=.i64) (kc:=.i64) (l:=n) (cp:=n) (bh _) (by rw[h3];exact hb) hn (cells:=List.replicate n z') (by rw[h2,gn,hz,toList_madeCells_one,j0 s_]) (by rw[h2];simp) (λv hv=>by rw[List.eq_of_mem_replicate hv];exact hf) k
      rw[h2]at this;exact this.step
     ·cases ho
    ·cases ho
   ·cases ho
  ·cases ho)
def rN(P:j_)(o:Oper):Option (Bool×Bool×Nat):=match o.op with
 |.slice t _ lo hi none=>match P.underlying t with
  |some (.slice e)=>(match P.info? e with|some i=>some (lo.isSome,hi.isSome,i.size)|none=>none)
  |_=>none
 |_=>none
theorem Gm{lo hi:Bool}{s:Nat}(ho:rN P o=some (lo,hi,s)){n l h:Nat}(hl:lo=false->l=0)(hh:hi=false->h=n)(LZ:l<=h)(XF:h<=n)(hz:l<h\/l=0):
  cz P B o (.slice (some ⟨k,off,some 7⟩) n cc::((if lo then[vI l]else[])++(if hi then[vI h]else[]))) [] (.slice (some ⟨k,off+l*s,some 7⟩) (h-l) (cc+l)) []:=by
 unfold rN at ho;split at ho
 ·rename_i t x Cc il bM;split at ho
  ·rename_i e ht;split at ho
   ·rename_i i Rz;injection ho with ho;injection ho with h1 ho;injection ho with h2 h3;have:=aGF (P:=P) (B:=B) bM ht Rz (k:=k) (off:=off) (n:=n) (cc:=cc) (l:=l) (h:=h) (λe=>hl (by rw[<-h1,e];rfl)) (λe=>hh (by rw[<-h2,e];rfl)) LZ XF hz;rw[h3]at this;have e1:bound Cc l=if lo then[vI l]else[]:=by rw[<-h1];cases Cc<;>rfl
    have e2:bound il h=if hi then[vI h]else[]:=by rw[<-h2];cases il<;>rfl
    rw[e1,e2]at this;exact this.step
   ·cases ho
  ·cases ho
 ·cases ho
def aQ.upto(fn:Func)(key k n h s:Nat)(hh:h<=n)(ho:rN P (ay fn key)=some (false,true,s)):aQ P B N:=
 .step key (ay fn key) [.slice (some ⟨k,0,some 7⟩) n 0,vI h] [] (.slice (some ⟨k,0,some 7⟩) h 0) [] (by have:=Gm (B:=B) ho (k:=k) (off:=0) (n:=n) (cc:=0) (l:=0) (h:=h) (λ_=>rfl) n_ (kB _) hh (.inr rfl);simpa using this)
end
def aa(B n a:Nat):List Nat:=(List.range n).map λi=>a/B^i%B
def nd(B a:Nat):Nat:=if h:2<=B/\a≠0 then nd B (a/B)+1 else 0
termination_by a
decreasing_by exact YC (s8 h.2) h.1
section
variable{B:Nat}
theorem oy(n a:Nat):(aa B n a).length=n:=by simp[aa]
theorem ee{n:Nat}(h:i<n):(aa B n a)[i]?=some (a/B^i%B):=by simp[aa,h]
theorem Jc{n:Nat}(h:m<=n):(aa B n a).take m=aa B m a:=by unfold aa;rw[<-Cd,List.take_range,nh h]
theorem qF:nd B 0=0:=by unfold nd;simp
theorem RA(hB:2<=B)(ha:a≠0):nd B a=nd B (a/B)+1:=by rw[nd,dif_pos ⟨hB,ha⟩]
theorem dQ(hB:2<=B):∀ a,a<B^nd B a:=by
 intro a;induction a using Nat.strongRecOn with
 |_ a ih=>
  by_cases ha:a=0
  ·subst ha;rw[qF];simp
  ·rw[RA hB ha,dr];have:=ih (a/B) (YC (s8 ha) hB);exact(iv o_).1 this
theorem jd(hB:2<=B):∀{a n:Nat},a<B^n->nd B a<=n:=by
 intro a;induction a using Nat.strongRecOn with
 |_ a ih=>
  intro n h;by_cases ha:a=0
  ·subst ha;rw[qF];omega
  ·cases n with
   |zero=>simp at h;omega
   |succ n=>
    rw[RA hB ha];rw[dr]at h;have:=ih (a/B) (YC (s8 ha) hB) (n:=n) ((iv o_).2 h);omega
theorem YD(hB:2<=B){n:Nat}(h:n<nd B a):B^n<=a:=by
 rcases eU a (B^n)with h1|h1
 ·have:=jd hB h1;omega
 ·exact h1
theorem je(hB:2<=B)(h:a<=b):nd B a<=nd B b:=jd hB (eX h (dQ hB b))
theorem wJ(hB:2<=B)(h:a≠0):0<nd B a:=by rw[RA hB h];omega
theorem Eo{n:Nat}(h:a<B^(n+1)):a/B^n%B=a/B^n:=by
 refine dJ ?_;have hp:0<B^n:=by
  rcases nq B with hB|hB
  ·subst hB;simp at h
  ·exact cF hB
 rw[iv hp,cK,<-dr];exact h
theorem Gn(hB:2<=B){n:Nat}(h:a<B^(n+1)):a/B^n%B=0↔a<B^n:=by
 rw[Eo h,Nat.div_eq_zero_iff];have:B^n≠0:=by have:=cF (n:=n) (show 0<B by omega);omega
 exact⟨λh=>h.resolve_left this,.inr⟩
def eL(B a b i:Nat):Nat:=(a%B^i+b%B^i)/B^i
def eg(B n i a:Nat):List Nat:=(List.range n).map λj=>if j<i then a/B^j%B else 0
theorem MB(n i a:Nat):(eg B n i a).length=n:=by simp[eg]
theorem RB(n a:Nat):eg B n 0 a=List.replicate n 0:=by apply wK<;>simp[eg]
theorem Gp(n a:Nat):eg B n n a=aa B n a:=by unfold eg aa;exact wD λj hj=>by rw[au (kk.1 hj)]
theorem MC{n:Nat}(h:i<n)(hd:d=a/B^i%B):(eg B n i a).set i d=eg B n (i+1) a:=by
 subst hd;apply wK
 ·simp[eg]
 ·intro j h1 h2;simp only[eg,fk,Ar]at h2;rw[Gq];simp only[eg,Ce,Cf];by_cases hj:i=j
  ·subst hj;simp
  ·rw[al hj];by_cases h3:j<i
   ·rw[au h3,au o_]
   ·rw[al h3,al o_]
theorem oX(a i:Nat):a%B^(i+1)=a%B^i+a/B^i%B*B^i:=by rw[dr,MD];rw[cK]
theorem ME(a b:Nat):eL B a b 0=0:=by simp[eL,s9]
theorem Ep(hB:0<B)(a b i:Nat):(a/B^i%B+b/B^i%B+eL B a b i)/B=eL B a b (i+1):=by
 unfold eL;rw[oX a i,oX b i];have hp:0<B^i:=cF hB;have e:a%B^i+a/B^i%B*B^i+(b%B^i+b/B^i%B*B^i)=(a%B^i+b%B^i)+(a/B^i%B+b/B^i%B)*B^i:=by rw[fp];omega
 rw[e,dr,<-kE,oY _ _ hp,mF]
theorem Gr(hB:0<B)(a b i:Nat):(a/B^i%B+b/B^i%B+eL B a b i)%B=(a+b)/B^i%B:=by
 unfold eL;have hp:0<B^i:=cF hB;have e:(a+b)/B^i=a/B^i+b/B^i+(a%B^i+b%B^i)/B^i:=by
  have h1:=jf a (B^i);have h2:=jf b (B^i);have e2:a+b=(a%B^i+b%B^i)+(a/B^i+b/B^i)*B^i:=by rw[fp,cK (a/B^i),cK (b/B^i)];omega
  conv=>lhs;rw[e2]
  rw[oY _ _ hp];omega
 rw[e];rw[Nat.add_mod (a/B^i+b/B^i),Nat.add_mod (a/B^i%B+b/B^i%B),<-Nat.add_mod (a/B^i)]
theorem As(hB:0<B)(a b i:Nat):eL B a b i<=1:=by
 unfold eL;have hp:0<B^i:=cF hB;have h1:=cE a hp;have h2:=cE b hp;have:(a%B^i+b%B^i)/B^i<2:=by rw[iv hp];omega
 omega
theorem gO(hB:0<B)(a i:Nat):a/B^i%B<B:=cE _ hB
theorem qG(h:a<B^m)(hi:m<=i)(hB:0<B):a/B^i%B=0:=by rw[lV (cC h (c7 hB hi))];simp
theorem RC{n:Nat}(ha:a<B^n)(hb:b<B^n):eL B a b n=(a+b)/B^n:=by unfold eL;rw[dJ ha,dJ hb]
def kF(B a b i:Nat):Nat:=if a%B^i<b%B^i then 1 else 0
theorem RD(a b:Nat):kF B a b 0=0:=by simp[kF,s9]
theorem MF(a b i:Nat):kF B a b i<=1:=by unfold kF;split<;>omega
theorem RE(hB:0<B)(a b i:Nat):(if a/B^i%B<b/B^i%B+kF B a b i then 1 else 0)=kF B a b (i+1):=by
 unfold kF;rw[oX a i,oX b i];have hp:0<B^i:=cF hB;have h1:=cE a hp;have h2:=cE b hp;generalize a%B^i=r at *;generalize b%B^i=s at *;generalize a/B^i%B=x at *;generalize b/B^i%B=y at *;generalize B^i=p at *;have lt:∀ u v:Nat,u<v->u*p+p<=v*p:=λu v h=>by rw[<-ug];exact eZ _ h
 have le:∀ u v:Nat,u<=v->u*p<=v*p:=λu v h=>eZ _ h;by_cases Jd:r<s
 ·rw[au Jd];by_cases km:x<y+1
  ·have:=le x y o_;rw[au km,au o_]
  ·have:=lt y x o_;rw[al km,al o_]
 ·rw[al Jd];by_cases km:x<y+0
  ·have:=lt x y o_;rw[au km,au o_]
  ·have:=le y x o_;rw[al km,al o_]
theorem RF(hB:0<B)(bW:b<=a)(i:Nat):(a/B^i%B+2*B-b/B^i%B-kF B a b i)%B=(a-b)/B^i%B:=by
 unfold kF;have hp:0<B^i:=cF hB;have h1:=cE a hp;have h2:=cE b hp;have ea:=jf a (B^i);have eb:=jf b (B^i);generalize hA:a/B^i=A at *;generalize hA':b/B^i=A' at *;generalize a%B^i=r at *;generalize b%B^i=s at *;generalize B^i=p at *;have lt:∀ u v:Nat,u<v->p*u+p<=p*v:=λu v h=>by rw[<-MG];exact jq _ h
 have hx:=cE A hB;have hy:=cE A' hB;have dA:=jf A B;have dA':=jf A' B
 -- the quotient of the aT8
 have key:∀ br:Nat,br=(if r<s then 1 else 0)->A'+br<=A/\(a-b)/p=A-A'-br:=by
  intro br Je;by_cases Jd:r<s
  ·rw[au Jd]at Je;subst Je;have MH:A'<A:=by
    rcases eU A' A with h|h
    ·exact h
    ·have:=jq p h;omega
   refine⟨MH,?_⟩;have e:a-b=(p+r-s)+p*(A-A'-1):=by
    have:=lt A' A MH;have e2:p*A=p*A'+p+p*(A-A'-1):=by rw[<-MG,<-oz];congr 1;omega
    omega
   rw[e,Jf _ _ hp,lV o_,jL]
  ·rw[al Jd]at Je;subst Je;have MH:A'<=A:=by
    rcases eU A A' with h|h
    ·have:=lt A A' h;omega
    ·exact h
   refine⟨MH,?_⟩;have e:a-b=(r-s)+p*(A-A'):=by
    have e2:p*A=p*A'+p*(A-A'):=by rw[<-oz];congr 1;omega
    omega
   rw[e,Jf _ _ hp,lV o_,jL];rfl
 have Je:(if r<s then 1 else 0)<=1:=by split<;>omega
 obtain⟨k1,k2⟩:=key _ rfl;rw[k2];generalize (if r<s then 1 else 0)=br at *;have e:A%B+2*B-A'%B-br+B*(A/B)=(A-A'-br)+B*(A'/B+2):=by rw[oz];omega
 have:=ch (·%B) e;simpa only[Er]using this
theorem yA(p:Nat->Prop)[DecidablePred p]:∀ n,p n->∃ e,e<=n/\p e/\∀ j,j<e->¬p j
 |0,h=>⟨0,bh _,h,λj hj=>by omega⟩
 |n+1,h=>by
  by_cases h0:p 0
  ·exact⟨0,by omega,h0,λj hj=>by omega⟩
  ·obtain⟨e,h1,h2,h3⟩:=yA (λj=>p (j+1)) n h;refine⟨e+1,by omega,h2,λj hj=>?_⟩;cases j with
   |zero=>exact h0
   |succ j=>exact h3 j o_
def cW(B n i s p:Nat):List Nat:=(List.range n).map λj=>if j<i then s/B^j%B else p/B^j%B
theorem wL(n i s p:Nat):(cW B n i s p).length=n:=by simp[cW]
theorem Cg{n s p:Nat}(hj:j<n)(h:i<=j):(cW B n i s p)[j]?=some (p/B^j%B):=by simp[cW,hj];omega
theorem yB{n s p:Nat}(h:i<n)(hd:d=s/B^i%B):(cW B n i s p).set i d=cW B n (i+1) s p:=by
 subst hd;apply wK
 ·simp[cW]
 ·intro j h1 h2;simp only[cW,fk,Ar]at h2;rw[Gq];simp only[cW,Ce,Cf];by_cases hj:i=j
  ·subst hj;simp
  ·rw[al hj];by_cases h3:j<i
   ·rw[au h3,au o_]
   ·rw[al h3,al o_]
theorem aHc(hB:0<B)(p t i:Nat):(p+t)/B^i=p/B^i+t/B^i+eL B p t i:=by
 have hp:0<B^i:=cF hB;unfold eL;have h1:=jf p (B^i);have h2:=jf t (B^i);have e2:p+t=(p%B^i+t%B^i)+(p/B^i+t/B^i)*B^i:=by rw[fp,cK (p/B^i),cK (t/B^i)];omega
 conv=>lhs;rw[e2]
 rw[oY _ _ hp];omega
theorem YE(hB:0<B)(n at' p c:Nat):cW B n at' (p+c*B^at') p=aa B n p:=by
 unfold cW aa;refine wD λj _=>?_;by_cases h:j<at'
 ·rw[au h];have e:B^at'=B^j*(B*B^(at'-j-1)):=by rw[<-Nat.pow_succ',<-eh];congr 1;omega
  rw[e,show c*(B^j*(B*B^(at'-j-1)))=B^j*(B*(c*B^(at'-j-1)))by rw[mG,mG c B],Jf _ _ (cF hB),Er]
 ·rw[al h]
theorem aHd(hB:0<B)(at' p c:Nat):eL B p (c*B^at') at'=0:=by unfold eL;rw[YF,ja,lV (cE _ (cF hB))]
theorem aHe(hB:0<B){n p t:Nat}(ht:t<B^i)(hc:eL B p t i=0):cW B n i (p+t) p=aa B n (p+t):=by
 unfold cW aa;refine wD λj _=>?_;by_cases h:j<i
 ·rw[au h]
 ·rw[al h];have e:=aHc hB p t i;rw[hc,lV ht,ja]at e;have e2:B^j=B^i*B^(j-i):=by rw[<-eh];congr 1;omega
  rw[e2,<-kE,<-kE,e]
theorem aHf(hB:0<B)(at' c:Nat):c*B^at'/B^at'%B=c%B:=by rw[RG _ (cF hB)]
theorem aHg(hB:0<B){at' c:Nat}(h:c<B*B):c*B^at'/B^(at'+1)%B=c/B:=by rw[dr,<-kE,RG _ (cF hB)];exact dJ ((iv hB).2 h)
theorem aHh(hB:0<B){at' c:Nat}(h:c<B*B):c*B^at'<B^(at'+2):=by rw[dr,dr,fK,cK];exact YG h (cF hB)
def part(B a b i k:Nat):Nat:=(a%B^i)*b+a/B^i%B*(b%B^k)*B^i
theorem Ch(a b i:Nat):part B a b i 0=(a%B^i)*b:=by simp[part,s9]
theorem YH(a b i k:Nat):part B a b i (k+1)=part B a b i k+a/B^i%B*(b/B^k%B)*B^(i+k):=by
 unfold part;rw[oX b k,eh,oz,fp,tX]
 congr 2
 simp only[cK,mG]
theorem aHi(hb:b<B^m):part B a b i m=part B a b (i+1) 0:=by
 rw[Ch,oX a i];unfold part;rw[dJ hb,fp]
 congr 1
 simp only[cK,mG]
theorem YI(hB:0<B)(a b i k:Nat):part B a b i k<=a*b:=by
 have h1:a%B^(i+1)<=a:=Jg _ _;have h2:part B a b i k<=(a%B^(i+1))*b:=by
  rw[oX a i];unfold part;rw[fp];refine Nat.add_le_add_left ?_ _;have h3:b%B^k<=b:=Jg _ _;have:=jq (a/B^i%B) h3;have:=eZ (B^i) this
  calc _<=_:=this
   _=_:=by simp only[cK,mG]
 exact dc h2 (eZ _ h1)
theorem YJ{n:Nat}(hB:0<B)(ha:a<B^n)(hb:b<B^m):a*b<B^(n+m+1):=by
 have h1:a*b<B^(n+m):=by rw[eh];exact pJ ha hb
 exact cC h1 (c7 hB o_)
theorem YK(hB:0<B)(hd:0<d)(mH:d<=B)(a j:Nat):(a/B^(j+1)%d*B+a/B^j%B)/d=(a/d)/B^j%B/\(a/B^(j+1)%d*B+a/B^j%B)%d=a/B^j%d:=by
 have e1:a/B^(j+1)=a/B^j/B:=by rw[dr,kE]
 have e2:a/d/B^j=a/B^j/d:=by rw[kE,kE,cK]
 rw[e1,e2];generalize a/B^j=c;have h1:=jf c B;have h2:=jf (c/B) d;have h3:c/B%d<d:=cE _ hd;have h4:c%B<B:=cE _ hB;have h5:c=(c/B%d*B+c%B)+d*(B*(c/B/d)):=by
  have:B*(c/B)=B*(d*(c/B/d)+c/B%d):=by rw[h2]
  rw[oz,mG]at this;rw[cK (c/B%d)];omega
 have h6:(c/B%d*B+c%B)/d<B:=by rw[iv hd];have:=eZ B (show c/B%d+1<=d by omega);rw[fp,pK]at this;rw[cK B d];omega
 constructor
 ·conv=>rhs;rw[h5]
  rw[Jf _ _ hd,Er,dJ h6]
 ·conv=>rhs;rw[h5]
  rw[Er]
def gv(B n i a:Nat):List Nat:=(List.range n).map λj=>if j<i then 0 else a/B^j%B
theorem MI(n i a:Nat):(gv B n i a).length=n:=by simp[gv]
theorem MJ(n a:Nat):gv B n n a=List.replicate n 0:=by
 apply wK
 ·simp[gv]
 ·intro j h1 h2;simp only[gv,fk,Ar]at h1;simp[gv,h1]
theorem Jh(n a:Nat):gv B n 0 a=aa B n a:=by unfold gv aa;exact wD λj _=>by rw[al o_]
theorem MK{n:Nat}(h:j<n)(hd:d=a/B^j%B):(gv B n (j+1) a).set j d=gv B n j a:=by
 subst hd;apply wK
 ·simp[gv]
 ·intro i h1 h2;simp only[gv,fk,Ar]at h2;rw[Gq];simp only[gv,Ce,Cf];by_cases hi:j=i
  ·subst hi;simp
  ·rw[al hi];by_cases h3:i<j
   ·rw[au h3,au o_]
   ·rw[al h3,al o_]
theorem wM(a j:Nat):a/B^j=a/B^(j+1)*B+a/B^j%B:=by have:=jf (a/B^j) B;rw[kE,<-dr,cK]at this;exact this.symm
theorem YL{n:Nat}(ha:a<B^n)(hb:b<B^n)(t:Nat)(ht:t<=n)(h:∀ s,s<t->a/B^(n-1-s)%B=b/B^(n-1-s)%B):a/B^(n-t)=b/B^(n-t):=by
 induction t with
 |zero=>rw[Gl,lV ha,lV hb]
 |succ t ih=>
  have ih:=ih o_ λs hs=>h s o_;have e:n-t=(n-(t+1))+1:=by omega
  rw[e]at ih;have h1:=h t o_;rw[show n-1-t=n-(t+1)by omega]at h1;rw[wM (B:=B) a,wM (B:=B) b,ih,h1]
theorem ML(h:a/B^(j+1)=b/B^(j+1))(ao:a/B^j%B<b/B^j%B):a<b:=by
 have h1:a/B^j<b/B^j:=by rw[wM (B:=B) a,wM (B:=B) b,h];omega
 rcases eU a b with h2|h2
 ·exact h2
 ·have:=Nat.div_le_div_right (c:=B^j) h2;omega
end
theorem mixed:prog.follows .mixedOrders=true:=by kernel_rfl
def aR(x:Nat):Value:=.int .u32 (x:Int)
def aj(l:l_):ah:=l.map aR
theorem fq(l:l_):∀ u∈aj l,flat u=true:=λu hu=>by obtain⟨x,_,rfl⟩:=de.1 hu;rfl
theorem kG{l:l_}{x:Nat}(h:l[i]?=some x):(aj l)[i]?=some (aR x):=by simp[aj,h]
abbrev base:Nat:=4294967296
theorem fN(cells:ah)(i:Nat):dE prog 172 cells i=cells[i]?:=by kernel_rfl
theorem az{c:Code}{next:Nat}(rs:bH prog B N){r:lv}(h:Ja (iR 100 c fr M next rs) r.fr r.M=Jb (iR 100 c fr M next rs) r.ex r.fr r.M r.next:=by kernel_rfl):af prog B N c fr M next r:=fE mixed 100 rs h
theorem aHj{n:Nat}(hm:m+1<=n)(ha:a<base^m)(h63:n<=9223372036854775807):
  af prog Bs 21 (aF (ag f203 0)) [(0,.slice (some ⟨0,0,some 7⟩) (m+1) 0)] [(0,.view (aj (aa base n a)))] 1
   ⟨.normal,[(0,.slice (some ⟨0,0,some 7⟩) m 0)],[(0,.view (aj (aa base n a)))],1⟩:=by
 have hd:a/base^m%base=0:=(Gn d_ (cC ha (c7 d_ (yq m)))).2 ha;exact az [
  .gt 5 (m+1) 0 true s_,
  .eW 10 (m+1) 1 m rfl o_,
  .ix f203 11 0 (m+1) m o_ k_,
  .ld f203 12 172 0 m (.view (aj (aa base n a))) (aR (a/base^m%base)) rfl (by rw[fN];exact kG (ee o_)) k_,
  .gm 13 (a/base^m%base) 0 true (by simp[hd]),
  .eW 18 (m+1) 1 m rfl o_,
  .upto f203 19 0 (m+1) m 1 o_ k_]
theorem aHk{n:Nat}(hm:m<=n)(ha:a<base^m)(hl:m=nd base a)(h63:n<=9223372036854775807):
  af prog Bs 21 (aF (ag f203 0)) [(0,.slice (some ⟨0,0,some 7⟩) m 0)] [(0,.view (aj (aa base n a)))] 1
   ⟨.exit 0,[(0,.slice (some ⟨0,0,some 7⟩) m 0)],[(0,.view (aj (aa base n a)))],1⟩:=by
 cases m with
 |zero=>exact az [.gt 5 0 0 false s_]
 |succ m=>
  have hd:a/base^m%base≠0:=λe=>by have:=jd (B:=base) d_ ((Gn d_ ha).1 e);omega
  exact az [
   .gt 5 (m+1) 0 true s_,
   .eW 10 (m+1) 1 m rfl o_,
   .ix f203 11 0 (m+1) m o_ k_,
   .ld f203 12 172 0 m (.view (aj (aa base n a))) (aR (a/base^m%base)) rfl (by rw[fN];exact kG (ee o_)) k_,
   .gm 13 (a/base^m%base) 0 false (by simp[hd])]
theorem aHl{n:Nat}(ha:a<base^n)(h63:n<=9223372036854775807):
  af prog Bs 21 (.block 0 (ag f203 0)) [(0,.slice (some ⟨0,0,some 7⟩) n 0)] [(0,.view (aj (aa base n a)))] 1
   ⟨.normal,[(0,.slice (some ⟨0,0,some 7⟩) (nd base a) 0)],[(0,.view (aj (aa base n a)))],1⟩:=by
 have hle:=jd (B:=base) d_ ha;have ao:=dQ (B:=base) d_ a
 have:=ck (P:=prog) (B:=Bs) (N:=21) (b:=aF (ag f203 0)) (next:=1) (n-nd base a) (λi=>[(0,.slice (some ⟨0,0,some 7⟩) (n-i) 0)]) (λ_=>[(0,.view (aj (aa base n a)))])
  (r:=⟨.exit 0,[(0,.slice (some ⟨0,0,some 7⟩) (nd base a) 0)],[(0,.view (aj (aa base n a)))],1⟩) (λ_ _ _=>Iff.rfl)
  (λi hi=>by
   have e:n-i=(n-(i+1))+1:=by omega
   simp only[e];exact aHj o_ (cC ao (c7 d_ o_)) h63)
  (by
   have e:n-(n-nd base a)=nd base a:=by omega
   simp only[e];exact aHk hle ao rfl h63) n_
 exact bO this
def MM(v:i_)(m:Nat):Value:=match v with|.slice a _ c=>.slice a m c|v=>v
theorem YM{v:i_}{n:Nat}(hv:c8 w v n (aj (aa base n a)))(ha:a<base^n)(h63:n<=9223372036854775807):
  Calls prog 203 #[v] w λe w'=>e=.returned (MM v (nd base a))/\Below w.heap.size w w':=by
 refine lC (Q:=λe w'=>e=.returned (MM v (nd base a))/\Below w.heap.size w w') mixed func203 [.row v n (aj (aa base n a))] (λs hs=>by simp at hs;subst hs;exact⟨hv,fq _⟩) 100 (N:=21) k_
  (rs:=[.code 0 _ _ _ _ _ (aHl ha h63)]) (v:=.slice (some ⟨0,0,some 7⟩) (nd base a) 0) (ms:=[]) k_ λav bX v' w' hc hm _ dz=>⟨?_,hm.base⟩
 cases dz with
 |cons h1 _=>
 congr 1
 rcases hc.gR rfl with ⟨q1,q2,_,_,q5⟩|⟨b,o,cap,c',q1,q2,q3,q5⟩<;>rcases h1.gR rfl with ⟨p1,p2,_,_,p5⟩|⟨b2,o2,pA,c2,p1,p2,p3,p5⟩
 ·have p5:v=.slice none 0 0:=p5;rw[q5,p5,q2];rfl
 ·rw[q1]at p1;cases p1
 ·rw[q1]at p1;cases p1
 ·rw[q1]at p1;injection p1 with p1;injection p1 with e1 e2 e3;subst e1;subst e2;subst e3;have p5:v=_:=p5;rw[q5,p5,show c'=c2 by omega];rfl
theorem aZ{v:i_}(hf:prog.funcs[f]?=some fn)(rs:∀ w,bH prog (ae.at w) (args.length+(fn.ntmps-args.length)))(h:∀ w,ou (gD (P:=prog) fn 100 args [] 0 (rs w)) []=ow (gD fn 100 args [] 0 (rs w)) v []:=by intro _;kernel_rfl)(dz:args.all flat=true:=by kernel_rfl)(hv:flat v=true:=by kernel_rfl):aD prog f args v:=fj mixed hf 100 rs h dz hv
theorem Ji{x y c:Nat}(hx:x<base)(hy:y<base)(hc:c<base):
  aD prog 235 [aR x,aR y,aR c] (.tuple #[aR ((x+y+c)%base),aR ((x+y+c)/base)]):=
 aZ func235 (λ_=>[
  .wr 10 .u64 x x (by rw[jQ];unfold base at *;omega),.wr 12 .u64 y y (by rw[jQ];unfold base at *;omega),
  .wr 13 .u64 (x+y) ((x+y:Nat):Int) (by rw[jQ];unfold base at *;omega),.wr 15 .u64 c c (by rw[jQ];unfold base at *;omega),
  .wr 16 .u64 (((x+y:Nat):Int)+c) ((x+y+c:Nat):Int) (by rw[jQ];unfold base at *;omega),
  .wr 18 .u32 ((x+y+c:Nat):Int) (((x+y+c)%base:Nat):Int) (by rw[nr];unfold base at *;omega),
  .quo 20 .u64 (((x+y+c:Nat):Int).fdiv (2^32)) (((x+y+c)/base:Nat):Int) (by rw[rO _ d_];unfold base at *;omega),
  .wr 21 .u32 (((x+y+c)/base:Nat):Int) (((x+y+c)/base:Nat):Int) (by rw[nr];unfold base at *;omega)])
theorem Es(n:Nat):List.replicate n (aR 0)=aj (List.replicate n 0):=by simp[aj]
theorem yC(cells:ah)(i d:Nat)(h:i<cells.length):eT prog 172 cells i (aR d)=some (cells.set i (aR d)):=by
 have e:eT prog 172 cells i (aR d)=if(Nat.ble (i+1) cells.length&&true)then some (iN cells i [aR d])else none:=by kernel_rfl
 rw[e,Q5 h];rfl
theorem yD(l:l_)(i d:Nat):(aj l).set i (aR d)=aj (l.set i d):=by simp[aj,List.map_set]
theorem aHm{y:m_}(ho:di o.op=some y){n:Nat}{x:Obj}(hx:x.reads=true)(hc:x.cells=aj (aa base n a))(ha:a<base^n)(h63:n<=9223372036854775807):
  cz prog Bs o [.func (.func 203) #[] #[],.slice (some ⟨k,0,some 7⟩) n 0] [(k,some x)] (.slice (some ⟨k,0,some 7⟩) (nd base a) 0) []:=by
 refine jP (fi:=[]) (ca:=[]) ho k_ λι c w hm hn args' dz=>?_;obtain⟨v,rfl,h1⟩:=mz dz;have hk:c k=some x:=hn _ (aL ..);have hr:=ox (len:=n) hm hk hx (by rw[hc];exact fq _) (λh=>h) h1;rw[hc,lW,j0 (by simp[aj,oy])]at hr;refine(YM hr ha h63).mono ?_
 rintro e w' ⟨rfl,hb⟩
 refine⟨ι,_,rfl,Map.le.refl _,?_,hm.call hb⟩;have jR:=jd (B:=base) d_ ha;rcases h1.gR rfl with ⟨q1,q2,_,_,q5⟩|⟨b,oo,cap,c',q1,q2,q3,q5⟩
 ·rw[q5];have:nd base a=0:=by omega
  rw[this];exact .slcN q1
 ·rw[q5];exact .slc q1 o_ q3
def aQ.trim(fn:Func)(key k n a:Nat)(x:Obj)(hx:x.reads=true)(hc:x.cells=aj (aa base n a))(ha:a<base^n)(h63:n<=9223372036854775807){y:m_}(ho:di (ay fn key).op=some y):aQ prog Bs N:=
 .step key (ay fn key) [.func (.func 203) #[] #[],.slice (some ⟨k,0,some 7⟩) n 0] [(k,some x)] (.slice (some ⟨k,0,some 7⟩) (nd base a) 0) [] (aHm ho hx hc ha h63)
section
variable{Bs:ae}{ka kb n m a b:Nat}
def sl(k n:Nat):Value:=.slice (some ⟨k,0,some 7⟩) n 0
def Ci(ka kb n m a b i:Nat):aM:=[(23,vI i),(22,vI n),(21,sl ka n),(0,sl ka n),(1,sl kb m),(5,sl 2 (n+1)),(6,aR (eL base a b i))]
def yE(ka kb n m a b i:Nat):aE:=[(ka,.view (aj (aa base n a))),(kb,.view (aj (aa base m b))),(2,.row (aj (eg base (n+1) i (a+b))) 172 1)]
theorem aHn(hk:(ka=0/\kb=1)\/(ka=1/\kb=0))(hi:i<n)(hb:b<base^m)(hm:m<=n)(h63:n<9223372036854775807):
  af prog Bs 54 (aF (ag f219 0)) (Ci ka kb n m a b i) (yE ka kb n m a b i) 3 ⟨.normal,Ci ka kb n m a b (i+1),yE ka kb n m a b (i+1),3⟩:=by
 have hx:=gO (B:=base) d_ a i;have hy:=gO (B:=base) d_ b i;have hc:=As (B:=base) d_ a b i;have yF:=Ji (c:=eL base a b i) hx hy (eX hc d_);rw[Gr d_,Ep d_]at yF;have bK:eT prog 172 (aj (eg base (n+1) i (a+b))) i (aR ((a+b)/base^i%base))=some (aj (eg base (n+1) (i+1) (a+b))):=by rw[yC _ i _ (by simp[aj,MB];omega),yD,MC o_ rfl]
 by_cases jA:i<m
 ·let S:Nat->Nat->bH prog Bs 54:=λka kb=>[.lt 24 i n true (by simp[hi]),.ix f219 26 ka n i hi k_,.ld f219 27 172 ka i (.view (aj (aa base n a))) (aR (a/base^i%base)) rfl (by rw[fN];exact kG (ee hi)) k_,.lt 31 i m true (by simp[jA]),.ix f219 34 kb m i jA k_,.ld f219 35 172 kb i (.view (aj (aa base m b))) (aR (b/base^i%base)) rfl (by rw[fN];exact kG (ee jA)) k_,yF.at 42,.ix f219 45 2 (n+1) i o_ k_,.st f219 100045 172 2 i (.row (aj (eg base (n+1) i (a+b))) 172 1) (aR ((a+b)/base^i%base)) (.row (aj (eg base (n+1) (i+1) (a+b))) 172 1) rfl bK rfl k_,.sum 46 i 1 (i+1) rfl o_]
  rcases hk with ⟨rfl,rfl⟩|⟨rfl,rfl⟩
  ·exact az (S 0 1)
  ·exact az (S 1 0)
 ·have wO:b/base^i%base=0:=qG hb o_ d_;rw[wO]at yF
  let S:Nat->Nat->bH prog Bs 54:=λka kb=>[.lt 24 i n true (by simp[hi]),.ix f219 26 ka n i hi k_,.ld f219 27 172 ka i (.view (aj (aa base n a))) (aR (a/base^i%base)) rfl (by rw[fN];exact kG (ee hi)) k_,.lt 31 i m false (by simp[jA]),yF.at 42,.ix f219 45 2 (n+1) i o_ k_,.st f219 100045 172 2 i (.row (aj (eg base (n+1) i (a+b))) 172 1) (aR ((a+b)/base^i%base)) (.row (aj (eg base (n+1) (i+1) (a+b))) 172 1) rfl bK rfl k_,.sum 46 i 1 (i+1) rfl o_]
  rcases hk with ⟨rfl,rfl⟩|⟨rfl,rfl⟩
  ·exact az (S 0 1)
  ·exact az (S 1 0)
theorem aHo(hk:(ka=0/\kb=1)\/(ka=1/\kb=0)):
  af prog Bs 54 (aF (ag f219 0)) (Ci ka kb n m a b n) (yE ka kb n m a b n) 3 ⟨.exit 0,Ci ka kb n m a b n,yE ka kb n m a b n,3⟩:=by
 rcases hk with ⟨rfl,rfl⟩|⟨rfl,rfl⟩
 all_goals exact az [.lt 24 n n false s_]
theorem aHp(hk:(ka=0/\kb=1)\/(ka=1/\kb=0))(hb:b<base^m)(hm:m<=n)(h63:n<9223372036854775807):
  af prog Bs 54 (.block 0 (ag f219 0)) (Ci ka kb n m a b 0) (yE ka kb n m a b 0) 3 ⟨.normal,Ci ka kb n m a b n,yE ka kb n m a b n,3⟩:=
 bO (ck (b:=aF (ag f219 0)) (r:=⟨.exit 0,Ci ka kb n m a b n,yE ka kb n m a b n,3⟩) n (Ci ka kb n m a b) (yE ka kb n m a b) (λi k _=>jO (l:=yE ka kb n m a b i) (m:=yE ka kb n m a b 0) rfl k) (λi hi=>aHn hk hi hb hm h63) (aHo hk) n_)
noncomputable def YN(hk:(ka=0/\kb=1)\/(ka=1/\kb=0))(ha:a<base^n)(hb:b<base^m)(hm:m<=n)(h63:n<35184372088832)(hs:a+b<base^(n+1))
  (bK:eT prog 172 (aj (eg base (n+1) n (a+b))) n (aR (eL base a b n))=some (aj (aa base (n+1) (a+b)))):bH prog Bs 54:=
 [.sum 19 n 1 (n+1) rfl o_,.pI f219 20 2 (n+1) 172 4 (aR 0) (aj (eg base (n+1) 0 (a+b))) (by rw[RB,Es]) rfl rfl o_ (by simp[maxLen];omega) k_,.rw 6 (.int .u32 0) (aR (eL base a b 0)) (by rw[ME];rfl),.code 0 _ _ _ _ _ (aHp (ka:=ka) (kb:=kb) (a:=a) hk hb hm o_),.ix f219 51 2 (n+1) n o_ k_,.st f219 100051 172 2 n (.row (aj (eg base (n+1) n (a+b))) 172 1) (aR (eL base a b n)) (.row (aj (aa base (n+1) (a+b))) 172 1) rfl bK rfl k_,.trim f219 53 2 (n+1) (a+b) (.row (aj (aa base (n+1) (a+b))) 172 1) rfl rfl hs o_ (y:=.func 203) k_]
end
def jB(w w':h_)(v:i_)(a:Nat):Prop:=w'.ownsRow w.heap.size 172 1 v (nd base a) (aj (aa base (nd base a) a))
def iw(w:h_)(v:i_)(a:Nat):Prop:=c8 w v (nd base a) (aj (aa base (nd base a) a))
theorem wP(hm:aJ (ae.at w) ι c w'){n:Nat}{v:i_}(hk:c k=some (.row (aj (aa base n a)) 172 1))(ha:a<base^n)(hv:aH ι (.slice (some ⟨k,0,some 7⟩) (nd base a) 0) v):jB w w' v a:=by
 have hle:=jd (B:=base) d_ ha;have:=vk hm hk hv (by simp[aj,oy];exact hle) (fq _);have e:(aj (aa base n a)).take (nd base a*1)=aj (aa base (nd base a) a):=by rw[gn];unfold aj;rw[<-Cd,Jc hle]
 rw[e]at this;exact this
theorem Jj{n:Nat}(ha:a<base^n)(hb:b<base^n):eT prog 172 (aj (eg base (n+1) n (a+b))) n (aR (eL base a b n))=some (aj (aa base (n+1) (a+b))):=by have h1:=As (B:=base) d_ a b n;have h2:=RC ha hb;rw[yC _ n _ (by simp[aj,MB]),yD,MC o_ (by rw[<-h2];exact(dJ (eX h1 d_)).symm),Gp]
theorem Jk{n:Nat}(ha:a<base^n)(hb:b<base^n):a+b<base^(n+1):=by have h1:base^n*2<=base^n*base:=jq _ d_;rw[dr];omega
theorem aHq{vb:i_}(fZ:iw w va a)(kW:iw w vb b)(h1:nd base a<35184372088832)(h2:nd base b<35184372088832):
  Calls prog 219 #[va,vb] w λe w'=>∃ v,e=.returned v/\jB w w' v (a+b)/\Below w.heap.size w w':=by
 have ha:=dQ (B:=base) d_ a;have hb:=dQ (B:=base) d_ b;have hl:∀ s∈[cA.row va (nd base a) (aj (aa base (nd base a) a)),cA.row vb (nd base b) (aj (aa base (nd base b) b))],s.OK w:=by
  intro s hs;simp at hs;rcases hs with rfl|rfl
  ·exact⟨fZ,fq _⟩
  ·exact⟨kW,fq _⟩
 unfold iw at fZ kW;generalize nd base a=n at *;generalize nd base b=m at *;by_cases lA:n<m
 ·have hs:=Jk hb (cC ha (c7 d_ o_))
  refine lC (Q:=λe w'=>∃ v,e=.returned v/\jB w w' v (a+b)/\Below w.heap.size w w') mixed func219 [cA.row va n (aj (aa base n a)),cA.row vb m (aj (aa base m b))] hl 100 (N:=54) k_
   (rs:=(aQ.lt 14 n m true (by simp[lA]):aQ prog (ae.at w) 54)::YN (ka:=1) (kb:=0) (a:=b) (b:=a) (.inr ⟨rfl,rfl⟩) hb ha o_ o_ hs (Jj hb (cC ha (c7 d_ o_))))
   (v:=.slice (some ⟨2,0,some 7⟩) (nd base (b+a)) 0) (ms:=[(2,.row (aj (aa base (m+1) (b+a))) 172 1)]) k_ λav bX v' w' hc bo dG _=>⟨v',rfl,?_,bo.base⟩
  rw[mF a b];exact wP bo (dG _ (aL ..)) hs hc
 ·have hs:=Jk ha (cC hb (c7 d_ (show m<=n by omega)))
  refine lC (Q:=λe w'=>∃ v,e=.returned v/\jB w w' v (a+b)/\Below w.heap.size w w') mixed func219 [cA.row va n (aj (aa base n a)),cA.row vb m (aj (aa base m b))] hl 100 (N:=54) k_
   (rs:=(aQ.lt 14 n m false (by simp[lA]):aQ prog (ae.at w) 54)::YN (ka:=0) (kb:=1) (a:=a) (b:=b) (.inl ⟨rfl,rfl⟩) ha hb o_ o_ hs (Jj ha (cC hb (c7 d_ o_))))
   (v:=.slice (some ⟨2,0,some 7⟩) (nd base (a+b)) 0) (ms:=[(2,.row (aj (aa base (n+1) (a+b))) 172 1)]) k_ λav bX v' w' hc bo dG _=>⟨v',rfl,?_,bo.base⟩
  exact wP bo (dG _ (aL ..)) hs hc
theorem Cj{x:Nat}(h:x<base):x.testBit 31=decide (2147483648<=x):=by rw[Nat.testBit_eq_decide_div_mod_eq,oW];unfold base at h;omega
theorem aHr{x:Nat}(h:x<base):x/2147483648=if x.testBit 31 then 1 else 0:=by
 rw[Cj h];unfold base at h;by_cases h1:2147483648<=x
 ·rw[aC h1,au rfl];omega
 ·rw[aO h1,al d_];omega
theorem aHs{x y:Nat}(hx:x<base)(hy:y<base)(hb:b<=1):
  (((base-1-x)&&& y)||| ((base-1-(x ^^^ y))&&& ((x+2*base-y-b)%base)))/2147483648=if x<y+b then 1 else 0:=by
 have km:x ^^^ y<base:=YO (n:=32) hx hy;have hd:(x+2*base-y-b)%base<base:=cE _ d_;have h1:base-1-x<base:=by unfold base at *;omega
 have h2:base-1-(x ^^^ y)<base:=by unfold base at *;omega
 rw[aHr (YP (n:=32) (MN _ hy) (MN _ hd))];rw[X1,Nat.testBit_and,Nat.testBit_and,Cj h1,Cj h2,Cj hy,Cj hd];have h3:(decide (2147483648<=x ^^^ y))=((decide (2147483648<=x))!=(decide (2147483648<=y))):=by rw[<-Cj km,Nat.testBit_xor,Cj hx,Cj hy]
 have h4:decide (2147483648<=base-1-(x ^^^ y))=!(decide (2147483648<=x ^^^ y)):=by
  unfold base at *;by_cases h:2147483648<=x ^^^ y
  ·rw[aC h,aO o_];rfl
  ·rw[aO h,aC o_];rfl
 rw[h4,h3];unfold base at *;have e1:decide (2147483648<=4294967296-1-x)=!decide (2147483648<=x):=by
  by_cases h:2147483648<=x
  ·rw[aC h,aO o_];rfl
  ·rw[aO h,aC o_];rfl
 rw[e1];have fin:∀ p:Prop,[Decidable p]->(p↔x<y+b)->(if decide p=true then 1 else 0)=(if x<y+b then 1 else 0):=by
  intro p _ h;by_cases hp:p
  ·rw[au (aC hp),au (h.1 hp)]
  ·rw[al (by simpa using hp),al λh'=>hp (h.2 h')]
 by_cases c1:2147483648<=x<;>by_cases c2:2147483648<=y
 ·rw[aC c1,aC c2];simp only[Jl,yG,wQ,bne_self_eq_false,MO,kX];exact fin _ o_
 ·rw[aC c1,aO c2,al (show ¬x<y+b by omega)];rfl
 ·rw[aO c1,aC c2,au (show x<y+b by omega)];rfl
 ·rw[aO c1,aO c2];simp only[MO,kX,MP,wQ,bne_self_eq_false];exact fin _ o_
theorem Gs{x:Nat}(h:x<base):(BitVec.ofInt 32 (x:Int))=BitVec.ofNat 32 x:=by simp
theorem Et{x:Nat}(h:x<base):(BitVec.ofNat 32 x).toNat=x:=by rw[BitVec.toNat_ofNat];exact dJ h
theorem YQ{x y:Nat}(hx:x<base)(hy:y<base):IntKind.u32.wrap (((BitVec.ofInt IntKind.u32.bits (x:Int))&&& (BitVec.ofInt IntKind.u32.bits (y:Int))).toNat:Int)=((x&&& y:Nat):Int):=by show IntKind.u32.wrap (((BitVec.ofInt 32 (x:Int))&&& (BitVec.ofInt 32 (y:Int))).toNat:Int)=_;rw[Gs hx,Gs hy,BitVec.toNat_and,Et hx,Et hy,nr];have:x&&& y<base:=MN (n:=32) _ hy;unfold base at this;omega
theorem RH{x y:Nat}(hx:x<base)(hy:y<base):IntKind.u32.wrap (((BitVec.ofInt IntKind.u32.bits (x:Int))||| (BitVec.ofInt IntKind.u32.bits (y:Int))).toNat:Int)=((x||| y:Nat):Int):=by
 show IntKind.u32.wrap (((BitVec.ofInt 32 (x:Int))||| (BitVec.ofInt 32 (y:Int))).toNat:Int)=_;rw[Gs hx,Gs hy,BitVec.toNat_or,Et hx,Et hy,nr];have:x||| y<base:=YP (n:=32) hx hy
 unfold base at this;omega
theorem YR{x y:Nat}(hx:x<base)(hy:y<base):IntKind.u32.wrap (((BitVec.ofInt IntKind.u32.bits (x:Int)) ^^^ (BitVec.ofInt IntKind.u32.bits (y:Int))).toNat:Int)=((x ^^^ y:Nat):Int):=by show IntKind.u32.wrap (((BitVec.ofInt 32 (x:Int)) ^^^ (BitVec.ofInt 32 (y:Int))).toNat:Int)=_;rw[Gs hx,Gs hy,BitVec.toNat_xor,Et hx,Et hy,nr];have:x ^^^ y<base:=YO (n:=32) hx hy;unfold base at this;omega
theorem YS{x:Nat}(hx:x<base):IntKind.u32.wrap (((BitVec.ofInt IntKind.u32.bits (if IntKind.u32.signed then -1 else IntKind.u32.max)) ^^^ (BitVec.ofInt IntKind.u32.bits (x:Int))).toNat:Int)=((base-1-x:Nat):Int):=by
 have h0:(if IntKind.u32.signed then -1 else IntKind.u32.max)=((base-1:Nat):Int):=by decide
 rw[h0,YR d_ hx]
 congr 1
 have h1:=BitVec.toNat_not (x:=BitVec.ofNat 32 x);rw[show ~~~(BitVec.ofNat 32 x)=BitVec.allOnes 32 ^^^ BitVec.ofNat 32 x from rfl,BitVec.toNat_xor,Et hx]at h1;have h2:(BitVec.allOnes 32).toNat=base-1:=by decide
 rw[h2]at h1;exact h1
theorem YT{x y:Nat}(hx:x<base)(hy:y<base)(hb:b<=1):
  aD prog 236 [aR x,aR y,aR b] (.tuple #[aR ((x+2*base-y-b)%base),aR (if x<y+b then 1 else 0)]):=by
 have hd:(x+2*base-y-b)%base<base:=cE _ d_;have km:x ^^^ y<base:=YO (n:=32) hx hy;have h1:base-1-x<base:=by unfold base at *;omega
 have h2:base-1-(x ^^^ y)<base:=by unfold base at *;omega
 have h3:(base-1-x)&&& y<base:=MN (n:=32) _ hy;have h4:(base-1-(x ^^^ y))&&& ((x+2*base-y-b)%base)<base:=MN (n:=32) _ hd;exact aZ func236 (λ_=>[
  .wr 10 .u32 ((x:Int)-y) (((x+base-y)%base:Nat):Int) (by rw[nr];unfold base at *;omega),
  .wr 12 .u32 ((((x+base-y)%base:Nat):Int)-b) (((x+2*base-y-b)%base:Nat):Int) (by rw[nr];unfold base at *;omega),
  .quo 14 .u32 _ ((base-1-x:Nat):Int) (YS hx),
  .quo 16 .u32 _ (((base-1-x)&&& y:Nat):Int) (YQ h1 hy),
  .quo 19 .u32 _ ((x ^^^ y:Nat):Int) (YR hx hy),
  .quo 20 .u32 _ ((base-1-(x ^^^ y):Nat):Int) (YS km),
  .quo 22 .u32 _ (((base-1-(x ^^^ y))&&& ((x+2*base-y-b)%base):Nat):Int) (YQ h2 hd),
  .quo 23 .u32 _ ((((base-1-x)&&& y)||| ((base-1-(x ^^^ y))&&& ((x+2*base-y-b)%base)):Nat):Int) (RH h3 h4),
  .quo 24 .u32 (((((base-1-x)&&& y)||| ((base-1-(x ^^^ y))&&& ((x+2*base-y-b)%base)):Nat):Int).fdiv (2^31)) ((if x<y+b then 1 else 0:Nat):Int) (by rw[<-aHs hx hy hb,rO _ d_];rfl)])
section
variable{Bs:ae}{n m a b:Nat}
def Gt(n m a b i:Nat):aM:=[(15,vI i),(14,vI n),(13,sl 0 n),(1,sl 1 m),(5,sl 2 n),(6,aR (kF base a b i))]
def Ck(n m a b i:Nat):aE:=[(0,.view (aj (aa base n a))),(1,.view (aj (aa base m b))),(2,.row (aj (eg base n i (a-b))) 172 1)]
theorem aHt(hi:i<n)(hb:b<base^m)(bW:b<=a)(h63:n<9223372036854775807):
  af prog Bs 41 (aF (ag f221 0)) (Gt n m a b i) (Ck n m a b i) 3 ⟨.normal,Gt n m a b (i+1),Ck n m a b (i+1),3⟩:=by
 have hx:=gO (B:=base) d_ a i;have hy:=gO (B:=base) d_ b i;have hc:=MF (B:=base) a b i;have wR:=YT hx hy hc;rw[show a/base^i%base+2*base-b/base^i%base-kF base a b i=a/base^i%base+2*base-b/base^i%base-kF base a b i from rfl,RF d_ bW,RE d_]at wR;have bK:eT prog 172 (aj (eg base n i (a-b))) i (aR ((a-b)/base^i%base))=some (aj (eg base n (i+1) (a-b))):=by rw[yC _ i _ (by simp[aj,MB];omega),yD,MC hi rfl]
 by_cases jA:i<m
 ·exact az [.lt 16 i n true (by simp[hi]),.ix f221 18 0 n i hi k_,.ld f221 19 172 0 i (.view (aj (aa base n a))) (aR (a/base^i%base)) rfl (by rw[fN];exact kG (ee hi)) k_,.lt 23 i m true (by simp[jA]),.ix f221 26 1 m i jA k_,.ld f221 27 172 1 i (.view (aj (aa base m b))) (aR (b/base^i%base)) rfl (by rw[fN];exact kG (ee jA)) k_,wR.at 34,.ix f221 37 2 n i hi k_,.st f221 100037 172 2 i (.row (aj (eg base n i (a-b))) 172 1) (aR ((a-b)/base^i%base)) (.row (aj (eg base n (i+1) (a-b))) 172 1) rfl bK rfl k_,.sum 38 i 1 (i+1) rfl o_]
 ·have wO:b/base^i%base=0:=qG hb o_ d_;rw[wO]at wR;exact az [.lt 16 i n true (by simp[hi]),.ix f221 18 0 n i hi k_,.ld f221 19 172 0 i (.view (aj (aa base n a))) (aR (a/base^i%base)) rfl (by rw[fN];exact kG (ee hi)) k_,.lt 23 i m false (by simp[jA]),wR.at 34,.ix f221 37 2 n i hi k_,.st f221 100037 172 2 i (.row (aj (eg base n i (a-b))) 172 1) (aR ((a-b)/base^i%base)) (.row (aj (eg base n (i+1) (a-b))) 172 1) rfl bK rfl k_,.sum 38 i 1 (i+1) rfl o_]
theorem aHu(hb:b<base^m)(bW:b<=a)(h63:n<9223372036854775807):
  af prog Bs 41 (.block 0 (ag f221 0)) (Gt n m a b 0) (Ck n m a b 0) 3 ⟨.normal,Gt n m a b n,Ck n m a b n,3⟩:=
 bO (ck (b:=aF (ag f221 0)) (r:=⟨.exit 0,Gt n m a b n,Ck n m a b n,3⟩) n (Gt n m a b) (Ck n m a b)
  (λi k _=>jO (l:=Ck n m a b i) (m:=Ck n m a b 0) rfl k) (λi hi=>aHt hi hb bW h63) (az [.lt 16 n n false s_]) n_)
end
theorem aHv{vb:i_}(fZ:iw w va a)(kW:iw w vb b)(bW:b<=a)(h1:nd base a<35184372088832):
  Calls prog 221 #[va,vb] w λe w'=>∃ v,e=.returned v/\jB w w' v (a-b)/\Below w.heap.size w w':=by
 have ha:=dQ (B:=base) d_ a;have hb:=dQ (B:=base) d_ b;have hl:∀ s∈[cA.row va (nd base a) (aj (aa base (nd base a) a)),cA.row vb (nd base b) (aj (aa base (nd base b) b))],s.OK w:=by
  intro s hs;simp at hs;rcases hs with rfl|rfl
  ·exact⟨fZ,fq _⟩
  ·exact⟨kW,fq _⟩
 unfold iw at fZ kW;generalize nd base a=n at *;generalize nd base b=m at *;have hs:a-b<base^n:=by omega
 refine lC (Q:=λe w'=>∃ v,e=.returned v/\jB w w' v (a-b)/\Below w.heap.size w w') mixed func221 [cA.row va n (aj (aa base n a)),cA.row vb m (aj (aa base m b))] hl 100 (N:=41) k_
  (rs:=[(aQ.pI f221 12 2 n 172 4 (aR 0) (aj (eg base n 0 (a-b))) (by rw[RB,Es]) rfl rfl o_ (by simp[maxLen];omega) k_:aQ prog (ae.at w) 41),.rw 6 (.int .u32 0) (aR (kF base a b 0)) (by rw[RD];rfl),.code 0 _ _ _ _ _ (aHu (n:=n) hb bW o_),.trim f221 40 2 n (a-b) (.row (aj (eg base n n (a-b))) 172 1) rfl (by rw[<-Gp];rfl) hs o_ (y:=.func 203) k_])
  (v:=.slice (some ⟨2,0,some 7⟩) (nd base (a-b)) 0) (ms:=[(2,.row (aj (eg base n n (a-b))) 172 1)]) k_ λav bX v' w' hc bo dG _=>⟨v',rfl,?_,bo.base⟩
 have hk:=dG _ (aL ..);rw[Gp]at hk;exact wP bo hk hs hc
structure Au(g:Nat)(w w':h_):Prop where
 os:sS w w'
 tape:w'.tape=w.tape
 output:w'.output=w.output
 size:w.heap.size<=w'.heap.size
 block:∀ k,k<w.heap.size->k≠g->w'.heap[k]?=w.heap[k]?
def ae.vl(w0:h_)(g:Nat):ae where
 G w:=Au g w0 w
 cM k:=k<w0.heap.size/\k≠g
 lt w k h hk:=cC hk.1 h.size
 dep w w' h h1 h2 h3 h4 h5:=⟨h1.trans h.os,h2.trans h.tape,h3.trans h.output,dc h.size h4,λk hk hg=>(h5 k ⟨hk,hg⟩).trans (h.block k hk hg)⟩
section
variable{P:j_}{B:ae}{N:Nat}
theorem RJ{g:Nat}{cells:ah}(hg:w.heap[g]?=some (.cells cur ty (0,0)))(jx:cap<=maxLen)(bE:cur.size=cap*size)(hc:cur.toList.take cells.length=cells)(cG:∀ v∈cells,flat v=true):
  aJ (ae.vl w g) (dD (λ_=>none) 0 (.at g 0 cap)) (aV (λ_=>none) 0 (.row cells ty size)) w:=by
 have h0:aJ (ae.vl w g) (λ_=>none) (λ_=>none) w:=
  ⟨⟨.refl w,rfl,rfl,bh _,λ_ _ _=>rfl⟩,λ_ _=>rfl,λk x h=>(by cases h),λk x b o cap h=>(by cases h),λk j x y b o cap o' bj h=>(by cases h),λk j x F b o cap v h=>(by cases h),λk x b o cap h=>(by cases h),λj F h=>(by cases h),λj k F F' h=>(by cases h),λ_ _ h=>(by cases h)⟩
 refine h0.add rfl (.inr ⟨g,cap,cur,rfl,hg,jx,bE,by rw[hc];exact ky cG⟩) (λb o cp _ e=>?_) n_ n_;injection e with e1 e2 e3;subst e1;exact⟨(wG.1 hg).1,λh=>h.2 rfl,λj y o' bj h=>(by cases h),λj F v h=>(by cases h),λj y o' bj h=>(by cases h)⟩
theorem RK{g:Nat}{cells:ah}(hm:aJ (ae.vl w g) ι c w')(tT:ι 0=some (.at g 0 cap))(hk:c 0=some (.row cells ty size))(cG:∀ v∈cells,flat v=true):
  Au g w w'/\∃ cur,w'.heap[g]?=some (.cells cur ty (0,0))/\cur.size=cap*size/\cur.toList.take cells.length=cells:=by
 refine⟨hm.base,?_⟩;obtain⟨l,h1,h2⟩:=hm.born 0 _ hk;rw[tT]at h1;injection h1 with h1;subst h1;rcases h2 with h2|⟨b,bj,cur,e1,e2,e3,e4,e5⟩
 ·cases h2.1
 ·injection e1 with e1 Cm Cn;subst e1;subst Cn;exact⟨cur,e2,e4,mZ e5 cG⟩
theorem YU(c:Nat->Option Obj)(k:Nat)(x:Obj):cX (aV c k x) [(k,x)]:=by
 intro j y hj;by_cases h:k=j
 ·subst h;have:ai [(k,x)] k=some x:=by simp[ai]
  rw[this]at hj;rw[<-hj];unfold aV;rw[au rfl]
 ·have:ai [(k,x)] j=none:=by show(if Nat.beq k j then _ else _)=_;rw[om h];rfl
  rw[this]at hj;cases hj
theorem aHw{v:i_}(h1:∀ u∈pre,flat u=true)(h2:∀ u∈post,flat u=true):∀{l:ah},bL (aH ι) (pre++v::post) l->∃ v',aH ι v v'/\l=pre++v'::post:=by
 induction pre with
 |nil=>
  intro l h;cases h with
  |cons hv t=>exact⟨_,hv,by rw[mZ t h2];rfl⟩
 |cons u pre ih=>
  intro l h;cases h with
  |cons hu t=>
   obtain⟨v',q1,q2⟩:=ih (λx hx=>h1 x (bw _ hx)) t;exact⟨v',q1,by rw[q2,hu.fh (h1 _ (aL ..))];rfl⟩
theorem aHx{fi:ah}{n:Nat}{cells:ah}{val:i_}(ho:di o.op=some x)(eK:fW P f=true)
  (dz:fi++args++ca=pre++.slice (some ⟨k,0,some 7⟩) n 0::post) (L5:∀ u∈pre,flat u=true) (RL:∀ u∈post,flat u=true) (hn:0<n) (cG:∀ v∈cells,flat v=true) (Av:∀ v∈cells',flat v=true) (mI:flat val=true)
  (h:∀ w g cap cur,w.heap[g]?=some (.cells cur ty (0,0))->n<=cap->cap<=maxLen->cur.size=cap*size->cur.toList.take cells.length=cells->Calls P f (pre++.slice (some ⟨g,0,none⟩) n cap::post).toArray w λe w'=>e=.returned val/\Au g w w'/\∃ fP,w'.heap[g]?=some (.cells fP ty (0,0))/\fP.size=cap*size/\fP.toList.take cells'.length=cells') :
  cz P B o (.func (.func f) fi.toArray ca.toArray::args) [(k,some (.row cells ty size))] val [(k,.row cells' ty size)]:=by
 refine jP ho eK λι c w hm jR args' aU=>?_;rw[dz]at aU;have hk:c k=some (.row cells ty size):=jR _ (aL ..);obtain⟨v,hv,rfl⟩:=aHw L5 RL aU;rcases hv.gR rfl with ⟨_,h0,_⟩|⟨g,oo,cap,c',hb,lq,mA,he⟩
 ·omega
 ·dsimp only at hb he;have kj:c'=cap:=by omega
  subst kj;obtain⟨l,q1,q2⟩:=hm.born k _ hk;rw[hb]at q1;injection q1 with q1;subst q1;rcases q2 with q2|⟨b,bj,cur,e1,lR,dF,fo,jb⟩
  ·cases q2.1
  ·injection e1 with e1 e2 e3;subst e1;subst e2;subst e3;rw[he];refine(h w g c' cur lR lq dF fo (mZ jb cG)).mono ?_
   rintro e w' ⟨rfl,pL,fP,p1,p2,p3⟩
   refine⟨ι,val,rfl,Map.le.refl _,.same mI,hm.write hk rfl hb pL.os pL.tape pL.output pL.size (λj hj Eu=>pL.block j hj Eu) (.inr ⟨g,c',fP,rfl,p1,dF,p2,?_⟩) n_ rfl⟩;rw[p3];exact ky Av
end
theorem aHy{x y:Nat}(hx:x<base)(hy:y<base):aD prog 246 [aR x,aR y] (.tuple #[aR (x*y/base),aR (x*y%base)]):=by
 have h:x*y<base*base:=pJ hx hy;exact aZ func246 (λ_=>[
  .wr 8 .u64 x x (by rw[jQ];unfold base at *;omega),.wr 10 .u64 y y (by rw[jQ];unfold base at *;omega),
  .wr 11 .u64 ((x:Int)*y) ((x*y:Nat):Int) (by rw[jQ,<-nM];unfold base at *;omega),
  .quo 13 .u64 (((x*y:Nat):Int).fdiv (2^32)) ((x*y/base:Nat):Int) (by rw[rO _ d_];rfl),
  .wr 14 .u32 ((x*y/base:Nat):Int) ((x*y/base:Nat):Int) (by rw[nr];have:x*y/base<base:=(iv d_).2 h;unfold base at *;omega),
  .wr 16 .u32 ((x*y:Nat):Int) ((x*y%base:Nat):Int) (by rw[nr];unfold base at *;omega)])
section
variable{Bs:ae}{n p t:Nat}
def yH(n i p t:Nat):aE:=[(0,.row (aj (cW base n i (p+t) p)) 172 1)]
def Jm(n i p t:Nat):aM:=[(0,sl 0 n),(11,vI i),(10,aR (eL base p t i))]
theorem RM(hi:i<n):eT prog 172 (aj (cW base n i (p+t) p)) i (aR ((p+t)/base^i%base))=some (aj (cW base n (i+1) (p+t) p)):=by rw[yC _ i _ (by simp[aj,wL];omega),yD,yB hi rfl]
theorem aHz(hi:i<n)(ht:t<base^i)(hc:eL base p t i≠0)(h63:n<9223372036854775807):
  af prog Bs 63 (aF (ag f239 0)) (Jm n i p t) (yH n i p t) 1 ⟨.normal,Jm n (i+1) p t,yH n (i+1) p t,1⟩:=by
 have gj:=As (B:=base) d_ p t i;have yF:=Ji (x:=p/base^i%base) (y:=t/base^i%base) (c:=eL base p t i) (gO d_ _ _) (gO d_ _ _) (eX gj d_);rw[Gr d_,Ep d_,qG ht (bh _) d_]at yF;exact az [.rw 48 (.bool (((eL base p t i:Nat):Int)!=0)) b_ (by congr 1;rw[qH];omega),.ix f239 56 0 n i hi k_,.ld f239 57 172 0 i (.row (aj (cW base n i (p+t) p)) 172 1) (aR (p/base^i%base)) rfl (by rw[fN];exact kG (Cg hi (bh _))) k_,yF.at 59,.ix f239 62 0 n i hi k_,.st f239 100062 172 0 i (.row (aj (cW base n i (p+t) p)) 172 1) (aR ((p+t)/base^i%base)) (.row (aj (cW base n (i+1) (p+t) p)) 172 1) rfl (RM hi) rfl k_,.sum 50 i 1 (i+1) rfl o_]
theorem aHA(hc:eL base p t i=0):af prog Bs 63 (aF (ag f239 0)) (Jm n i p t) (yH n i p t) 1 ⟨.exit 0,[],yH n i p t,1⟩:=
 az [.rw 48 (.bool (((eL base p t i:Nat):Int)!=0)) a_ (by rw[hc];rfl)]
theorem aHB(hi:i<=n)(ht:t<base^i)(hp:p<base^n)(hs:p+t<base^n)(h63:n<9223372036854775807):
  af prog Bs 63 (.block 0 (ag f239 0)) (Jm n i p t) (yH n i p t) 1 ⟨.normal,[],[(0,.row (aj (aa base n (p+t))) 172 1)],1⟩:=by
 have h0:eL base p t (i+(n-i))=0:=by rw[show i+(n-i)=n by omega,RC hp o_,lV hs]
 obtain⟨e,h1,h2,h3⟩:=yA (λj=>eL base p t (i+j)=0) (n-i) h0;have MQ:t<base^(i+e):=cC ht (c7 d_ o_)
 have:=ck (P:=prog) (B:=Bs) (N:=63) (b:=aF (ag f239 0)) (next:=1) (r:=⟨.exit 0,[],yH n (i+e) p t,1⟩) e (λj=>Jm n (i+j) p t) (λj=>yH n (i+j) p t)
  (λj k _=>jO (l:=yH n (i+j) p t) (m:=yH n (i+0) p t) rfl k)
  (λj hj=>aHz o_ (cC ht (c7 d_ o_)) (h3 j hj) h63) (aHA h2) n_
 have:=bO (id:=0) this;unfold yH at this;rw[aHe d_ MQ h2]at this;exact this
end
theorem aHC{g n at' p x y:Nat}(hg:w.heap[g]?=some (.cells cur 172 (0,0)))(lq:n<=cap)(jx:cap<=maxLen)(bE:cur.size=cap*1)(hc:cur.toList.take (aj (aa base n p)).length=aj (aa base n p))
  (hx:x<base) (hy:y<base) (mC:at'+1<n) (hp:p<base^n) (hs:p+x*y*base^at'<base^n) (h63:n<35184372088832) :
  Calls prog 239 #[.slice (some ⟨g,0,none⟩) n cap,vI at',aR x,aR y] w λe w'=>e=.returned (.tuple #[])/\Au g w w'/\∃ fP,w'.heap[g]?=some (.cells fP 172 (0,0))/\fP.size=cap*1/\
   fP.toList.take (aj (aa base n (p+x*y*base^at'))).length=aj (aa base n (p+x*y*base^at')):=by
 have hm:=RJ hg jx bE hc (fq _);have km:x*y<base*base:=pJ hx hy;have ht:=aHh (B:=base) d_ (at':=at') km;have d0:=aHf (B:=base) d_ at' (x*y);have d1:=aHg (B:=base) d_ (at':=at') km;have c0:=aHd (B:=base) d_ at' p (x*y);have m0:=YE (B:=base) d_ n at' p (x*y);have s1:eT prog 172 (aj (cW base n at' (p+x*y*base^at') p)) at' (aR ((p+x*y*base^at')/base^at'%base))=some (aj (cW base n (at'+1) (p+x*y*base^at') p)):=RM o_;have s2:eT prog 172 (aj (cW base n (at'+1) (p+x*y*base^at') p)) (at'+1) (aR ((p+x*y*base^at')/base^(at'+1)%base))=some (aj (cW base n (at'+2) (p+x*y*base^at') p)):=RM mC;have lo:=aHB (Bs:=ae.vl w g) (i:=at'+2) o_ ht hp hs o_;generalize x*y*base^at'=t at *;have YV:=Ji (x:=p/base^at'%base) (y:=t/base^at'%base) (c:=eL base p t at') (gO d_ _ _) (gO d_ _ _) (by rw[c0];decide);rw[Gr d_,Ep d_,d0,c0]at YV;have gj:=As (B:=base) d_ p t (at'+1);have YW:=Ji (x:=p/base^(at'+1)%base) (y:=t/base^(at'+1)%base) (c:=eL base p t (at'+1)) (gO d_ _ _) (gO d_ _ _) (eX gj d_);rw[Gr d_,Ep d_,d1]at YW
 refine uc (M:=[(0,.row (aj (aa base n p)) 172 1)]) (next:=1) (args:=[sl 0 n,vI at',aR x,aR y]) (args':=[.slice (some ⟨g,0,none⟩) n cap,vI at',aR x,aR y]) (v:=.tuple #[])
  (ms:=[(0,.row (aj (aa base n (p+t))) 172 1)]) (N:=63) mixed func239 k_ 100
  (rs:=[((aHy hx hy).at 15:aQ prog (ae.vl w g) 63),.ix f239 23 0 n at' o_ k_,.ld f239 24 172 0 at' (.row (aj (aa base n p)) 172 1) (aR (p/base^at'%base)) rfl (by rw[fN];exact kG (ee o_)) k_,YV.at 26,.ix f239 29 0 n at' o_ k_,.st f239 100029 172 0 at' (.row (aj (aa base n p)) 172 1) (aR ((p+t)/base^at'%base)) (.row (aj (cW base n (at'+1) (p+t) p)) 172 1) rfl (by rw[<-m0];exact s1) rfl k_,.sum 33 at' 1 (at'+1) rfl o_,.sum 36 at' 1 (at'+1) rfl o_,.ix f239 37 0 n (at'+1) mC k_,.ld f239 38 172 0 (at'+1) (.row (aj (cW base n (at'+1) (p+t) p)) 172 1) (aR (p/base^(at'+1)%base)) rfl (by rw[fN];exact kG (Cg mC (bh _))) k_,YW.at 41,.ix f239 44 0 n (at'+1) mC k_,.st f239 100044 172 0 (at'+1) (.row (aj (cW base n (at'+1) (p+t) p)) 172 1) (aR ((p+t)/base^(at'+1)%base)) (.row (aj (cW base n (at'+2) (p+t) p)) 172 1) rfl s2 rfl k_,.sum 46 at' 2 (at'+2) rfl o_,.code 0 _ _ _ _ _ lo]) k_ ?_ hm ?_ ?_ ?_
 ·exact .cons (.slc (off:=0) (fC _ _ _) lq o_) (.cons (.same rfl) (.cons (.same rfl) (.cons (.same rfl) .nil)))
 ·exact YU _ _ _
 ·intro k hk;unfold aV;rw[al o_]
 ·intro av bX v' w' hle sT bo dG;obtain⟨q1,q2⟩:=RK bo (hle 0 _ (fC _ _ _)) (dG _ (aL ..)) (fq _);exact⟨by rw[sT.fh rfl],q1,q2⟩
section
variable{Bs:ae}{n m a b:Nat}
def yI(n m a b i k:Nat):Obj:=.row (aj (aa base (n+m+1) (part base a b i k))) 172 1
def RO(N:Nat):Value:=.func (.func 239) #[sl 2 N] #[]
theorem aHD(ho:di o.op=some x)(hi:i<n)(hk:k<m)(ha:a<base^n)(hb:b<base^m)(h63:n+m+1<35184372088832):
  cz prog Bs o [RO (n+m+1),vI (i+k),aR (a/base^i%base),aR (b/base^k%base)] [(2,some (yI n m a b i k))] (.tuple #[]) [(2,yI n m a b i (k+1))]:=by
 refine aHx (fi:=[sl 2 (n+m+1)]) (args:=[vI (i+k),aR (a/base^i%base),aR (b/base^k%base)]) (ca:=[]) (pre:=[]) (post:=[vI (i+k),aR (a/base^i%base),aR (b/base^k%base)]) ho k_ rfl n_
  (λu hu=>by simp at hu;rcases hu with rfl|rfl|rfl<;>rfl) o_ (fq _) (fq _) rfl λw g cap cur h1 h2 h3 h4 h5=>?_
 have ao:=YJ (B:=base) d_ ha hb;rw[YH]
 exact aHC h1 h2 h3 h4 h5 (gO d_ _ _) (gO d_ _ _) o_ (eX (YI d_ _ _ _ _) ao)
  (by rw[<-YH];exact eX (YI d_ _ _ _ _) ao) h63
def Gu(n m a b i k:Nat):aM:=[(29,vI k),(28,vI m),(27,sl 1 m),(6,RO (n+m+1)),(7,vI i),(8,aR (a/base^i%base))]
def Co(n m a b i k:Nat):aE:=[(1,.view (aj (aa base m b))),(2,yI n m a b i k)]
theorem aHE(hi:i<n)(hk:k<m)(ha:a<base^n)(hb:b<base^m)(h63:n+m+1<35184372088832):
  af prog Bs 45 (aF (ag f226 2)) (Gu n m a b i k) (Co n m a b i k) 3 ⟨.normal,Gu n m a b i (k+1),Co n m a b i (k+1),3⟩:=
 az [.lt 30 k m true (by simp[hk]),.ix f226 32 1 m k hk k_,.ld f226 33 172 1 k (.view (aj (aa base m b))) (aR (b/base^k%base)) rfl (by rw[fN];exact kG (ee hk)) k_,.sum 37 i k (i+k) rfl o_,.step 40 (ay f226 40) _ _ _ _ (aHD (x:=.tmp 34) k_ hi hk ha hb h63),.sum 41 k 1 (k+1) rfl o_]
theorem aHF(hi:i<n)(ha:a<base^n)(hb:b<base^m)(h63:n+m+1<35184372088832):
  af prog Bs 45 (.block 2 (ag f226 2)) (Gu n m a b i 0) (Co n m a b i 0) 3 ⟨.normal,Gu n m a b i m,[(1,.view (aj (aa base m b))),(2,yI n m a b (i+1) 0)],3⟩:=by
 have:=ck (P:=prog) (B:=Bs) (N:=45) (b:=aF (ag f226 2)) (r:=⟨.exit 2,Gu n m a b i m,Co n m a b i m,3⟩) m (Gu n m a b i) (Co n m a b i)
  (λk j _=>jO (l:=Co n m a b i k) (m:=Co n m a b i 0) rfl j) (λk hk=>aHE hi hk ha hb h63) (az [.lt 30 m m false s_]) n_
 have:=bO (id:=2) this;unfold Co yI at this;rw[aHi hb]at this;exact this
def Gv(n m i:Nat):aM:=[(22,vI i),(21,vI n),(20,sl 0 n),(1,sl 1 m),(5,sl 2 (n+m+1)),(6,RO (n+m+1))]
def Cp(n m a b i:Nat):aE:=[(0,.view (aj (aa base n a))),(1,.view (aj (aa base m b))),(2,yI n m a b i 0)]
theorem aHG(hi:i<n)(ha:a<base^n)(hb:b<base^m)(h63:n+m+1<35184372088832):
  af prog Bs 45 (aF (ag f226 0)) (Gv n m i) (Cp n m a b i) 3 ⟨.normal,Gv n m (i+1),Cp n m a b (i+1),3⟩:=
 az [.lt 23 i n true (by simp[hi]),.ix f226 25 0 n i hi k_,.ld f226 26 172 0 i (.view (aj (aa base n a))) (aR (a/base^i%base)) rfl (by rw[fN];exact kG (ee hi)) k_,.code 2 _ _ _ _ _ (aHF hi ha hb h63),.sum 42 i 1 (i+1) rfl o_]
theorem aHH(ha:a<base^n)(hb:b<base^m)(h63:n+m+1<35184372088832):
  af prog Bs 45 (.block 0 (ag f226 0)) (Gv n m 0) (Cp n m a b 0) 3 ⟨.normal,Gv n m n,Cp n m a b n,3⟩:=
 bO (ck (b:=aF (ag f226 0)) (r:=⟨.exit 0,Gv n m n,Cp n m a b n,3⟩) n (Gv n m) (Cp n m a b)
  (λi k _=>jO (l:=Cp n m a b i) (m:=Cp n m a b 0) rfl k) (λi hi=>aHG hi ha hb h63) (az [.lt 23 n n false s_]) n_)
end
theorem RQ(B n:Nat):aa B n 0=List.replicate n 0:=by apply wK<;>simp[aa]
theorem aHI{vb:i_}(fZ:iw w va a)(kW:iw w vb b)(h63:nd base a+nd base b+1<35184372088832):
  Calls prog 226 #[va,vb] w λe w'=>∃ v,e=.returned v/\jB w w' v (a*b)/\Below w.heap.size w w':=by
 have ha:=dQ (B:=base) d_ a;have hb:=dQ (B:=base) d_ b;have hl:∀ s∈[cA.row va (nd base a) (aj (aa base (nd base a) a)),cA.row vb (nd base b) (aj (aa base (nd base b) b))],s.OK w:=by
  intro s hs;simp at hs;rcases hs with rfl|rfl
  ·exact⟨fZ,fq _⟩
  ·exact⟨kW,fq _⟩
 unfold iw at fZ kW;generalize nd base a=n at *;generalize nd base b=m at *;have hs:=YJ (B:=base) d_ ha hb;have aU:part base a b n 0=a*b:=by rw[Ch,dJ ha]
 refine lC (Q:=λe w'=>∃ v,e=.returned v/\jB w w' v (a*b)/\Below w.heap.size w w') mixed func226 [cA.row va n (aj (aa base n a)),cA.row vb m (aj (aa base m b))] hl 100 (N:=45) k_
  (rs:=[(aQ.sum 15 n m (n+m) rfl o_:aQ prog (ae.at w) 45),.sum 16 (n+m) 1 (n+m+1) rfl o_,.pI f226 17 2 (n+m+1) 172 4 (aR 0) (yI n m a b 0 0).cells (by show _=aj (aa base (n+m+1) (part base a b 0 0));rw[Ch,rP,s9,lB,RQ,Es]) rfl rfl o_ (by simp[maxLen];omega) k_,.code 0 _ _ _ _ _ (aHH (n:=n) (m:=m) ha hb h63),.trim f226 44 2 (n+m+1) (a*b) (yI n m a b n 0) rfl (by rw[<-aU];rfl) hs o_ (y:=.func 203) k_])
  (v:=.slice (some ⟨2,0,some 7⟩) (nd base (a*b)) 0) (ms:=[(2,yI n m a b n 0)]) k_ λav bX v' w' hc bo dG _=>⟨v',rfl,?_,bo.base⟩
 have hk:=dG _ (aL ..);unfold yI at hk;rw[aU]at hk;exact wP bo hk hs hc
section
variable{P:j_}{B:ae}{N:Nat}
def Gw(o:Oper):Option BinOp:=match o.op with|.binOp b _ _ _ _=>some b|_=>none
theorem MR{b:BinOp}(ho:Gw o=some b)(hb:b≠.eql/\b≠.neq){x y v:i_}(hx:flat x=true)(hy:flat y=true)(hv:flat v=true)(h:∀ t w,(binOp b t x y).run P w=.ok v w):
  cz P B o [x,y] [] v []:=by
 unfold Gw at ho;split at ho
 ·rename_i b' t p q t2 bM;injection ho with ho;subst ho;refine(Ac (λu hu=>by simp at hu;rcases hu with rfl|rfl<;>assumption) hv λρ e6 w _=>?_).step;rw[bM]at e6;simp[Op.operands]at e6;have hg:(eqGuard b' t p q (ρ p) (ρ q)).run P w=.ok () w:=by unfold eqGuard;cases b'<;>first|rfl|exact absurd rfl hb.1|exact absurd rfl hb.2
  simp only[execOp,bM,e6.1,e6.2];rw[e6.1,e6.2]at hg;simp[hg,h]
 ·cases ho
def aQ.shl(fn:Func)(key:Nat)(k:IntKind)(x r:Int)(n:Nat)(hr:k.wrap (x*2^(min n k.bits))=r)(ho:Gw (ay fn key)=some .shl):aQ P B N:=
 .step key (ay fn key) [.int k x,vI n] [] (.int k r) [] (MR ho ⟨λe=>(by cases e),λe=>(by cases e)⟩ rfl rfl rfl λt w=>by
  have h0:¬((n:Int)<0):=by omega
  simp[binOp,Op.shift,vI,h0,hr])
def aQ.shr(fn:Func)(key:Nat)(k:IntKind)(x r:Int)(n:Nat)(hr:x.fdiv (2^(min n k.bits))=r)(ho:Gw (ay fn key)=some .shr):aQ P B N:=
 .step key (ay fn key) [.int k x,vI n] [] (.int k r) [] (MR ho ⟨λe=>(by cases e),λe=>(by cases e)⟩ rfl rfl rfl λt w=>by
  have h0:¬((n:Int)<0):=by omega
  simp[binOp,Op.shift,vI,h0,hr])
def aQ.vm(fn:Func)(key:Nat)(k:IntKind)(x y r:Int)(hy:y≠0)(hr:k.wrap (x.tdiv y)=r)(ho:Gw (ay fn key)=some .quo):aQ P B N:=
 .step key (ay fn key) [.int k x,.int k y] [] (.int k r) [] (MR ho ⟨λe=>(by cases e),λe=>(by cases e)⟩ rfl rfl rfl λt w=>by simp[binOp,Op.intDiv,hy,hr])
def aQ.Aw(fn:Func)(key:Nat)(k:IntKind)(x y r:Int)(hy:y≠0)(hr:x.tmod y=r)(ho:Gw (ay fn key)=some .rem):aQ P B N:=
 .step key (ay fn key) [.int k x,.int k y] [] (.int k r) [] (MR ho ⟨λe=>(by cases e),λe=>(by cases e)⟩ rfl rfl rfl λt w=>by simp[binOp,Op.intDiv,hy,hr])
def Gx(P:j_)(o:Oper):Bool:=match o.op with
 |.index t _ _=>match P.underlying t with|some .string=>true|_=>false
 |_=>false
theorem aHJ(ho:Gx P o=true){s:ByteArray}{c:UInt8}(hc:s[i]?=some c):cz P B o [.string s,vI i] [] (.int .u8 (c.toNat:Int)) []:=by
 unfold Gx at ho;split at ho
 ·rename_i t p q bM;split at ho
  ·rename_i ht;refine(Ac (λu hu=>by simp at hu;rcases hu with rfl|rfl<;>rfl) rfl λρ e6 w _=>?_).step;rw[bM]at e6;simp[Op.operands]at e6;have h0:(0:Int)<=(i:Int):=by omega
   simp[execOp,bM,e6.1,e6.2,Instr.index,vI,asIntOf,iZ ht,h0,hc]
  ·cases ho
 ·cases ho
def aQ.sx(fn:Func)(key:Nat)(s:ByteArray)(i:Nat)(c:UInt8)(hc:s[i]?=some c)(ho:Gx P (ay fn key)=true):aQ P B N:=
 .step key (ay fn key) [.string s,vI i] [] (.int .u8 (c.toNat:Int)) [] (aHJ ho hc)
def RR(P:j_)(o:Oper):Bool:=match o.op with
 |.slice t _ (some _) none none=>match P.underlying t with|some .string=>true|_=>false
 |_=>false
theorem aHK(ho:RR P o=true){s:ByteArray}(hi:i<=s.size):cz P B o [.string s,vI i] [] (.string (s.extract i s.size)) []:=by
 unfold RR at ho;split at ho
 ·rename_i t p q bM;split at ho
  ·rename_i ht;refine(Ac (λu hu=>by simp at hu;rcases hu with rfl|rfl<;>rfl) rfl λρ e6 w _=>?_).step;rw[bM]at e6;simp[Op.operands]at e6;have h0:(0:Int)<=(i:Int):=by omega
   have h1:(i:Int)<=(s.size:Int):=by omega
   simp[execOp,bM,e6.1,e6.2,Instr.sliceAt,Instr.slice,Instr.sliceBounds,Instr.sliceBound,vI,asIntOf,iZ ht,h0,hi]
  ·cases ho
 ·cases ho
def aQ.sf(fn:Func)(key:Nat)(s:ByteArray)(i:Nat)(hi:i<=s.size)(ho:RR P (ay fn key)=true):aQ P B N:=
 .step key (ay fn key) [.string s,vI i] [] (.string (s.extract i s.size)) [] (aHK ho hi)
end
def fQ(l:List UInt8):Nat:=l.foldl (λa c=>a*256+c.toNat) 0
theorem RS:∀(l:List UInt8) (a:Nat),l.foldl (λa c=>a*256+c.toNat) a=a*256^l.length+fQ l
 |[],a=>by simp[fQ]
 |c::l,a=>by have e:fQ (c::l)=(0*256+c.toNat)*256^l.length+fQ l:=RS l (0*256+c.toNat);rw[vi,RS l,e,nL,dr,fp,lB,jL,fK,cK 256];omega
theorem Jn(c:UInt8)(l:List UInt8):fQ (c::l)=c.toNat*256^l.length+fQ l:=by have:=RS l (0*256+c.toNat);have e:fQ (c::l)=List.foldl (λa c=>a*256+c.toNat) (0*256+c.toNat) l:=rfl;rw[e,this,lB,jL]
theorem Ax:∀(l:List UInt8),fQ l<256^l.length
 |[]=>by simp[fQ]
 |c::l=>by
  have h1:=Ax l;have h2:c.toNat<256:=c.toNat_lt;rw[Jn,nL,dr];have:c.toNat*256^l.length+256^l.length<=256^l.length*256:=by rw[<-ug,cK];exact jq _ o_
  omega
theorem YX:∀(l:List UInt8) (i:Nat),i<l.length->∃ c,l[l.length-1-i]?=some c/\c.toNat=fQ l/256^i%256
 |[],i,h=>by simp at h
 |c::l,i,h=>by
  rw[nL]at h;rw[Jn];rcases eU i l.length with hi|hi
  ·obtain⟨d,h1,h2⟩:=YX l i hi;refine⟨d,?_,?_⟩
   ·rw[nL,show l.length+1-1-i=(l.length-1-i)+1 by omega,List.getElem?_cons_succ];exact h1
   ·rw[h2];have e:256^l.length=256^i*(256*256^(l.length-i-1)):=by rw[<-Nat.pow_succ',<-eh];congr 1;omega
    rw[e,show c.toNat*(256^i*(256*256^(l.length-i-1)))=256^i*(256*(c.toNat*256^(l.length-i-1)))by rw[mG,mG c.toNat],mF,Jf _ _ (cF d_),Er]
  ·have e:i=l.length:=by omega
   subst e;refine⟨c,by simp,?_⟩;have h1:=Ax l;have h2:c.toNat<256:=c.toNat_lt;rw[cK,mF,Jf _ _ (cF d_),lV h1,jL,dJ h2]
def ko(s:ByteArray):Nat:=fQ s.data.toList
theorem YY(s:ByteArray)(i:Nat):s[i]?=s.data.toList[i]?:=by
 by_cases h:i<s.size
 ·rw[getElem?_pos s i h,aW (by simpa using h)];rfl
 ·rw[getElem?_neg s i h,yj (by simpa using h)]
theorem YZ(s:ByteArray):ko s<256^s.size:=Ax _
theorem RT(s:ByteArray)(h:i<s.size):∃ c,s[s.size-1-i]?=some c/\c.toNat=ko s/256^i%256:=by rw[YY];exact YX s.data.toList i (by simpa using h)
theorem aHL:(a%256^i/4294967296^(i/4)%4294967296)||| (a/256^i%256*2^(8*(i%4)))=a%256^(i+1)/4294967296^(i/4)%4294967296:=by
 have hB:(4294967296:Nat)=256^4:=by decide
 have e1:(4294967296:Nat)^(i/4)=256^(4*(i/4)):=by rw[hB,<-rQ]
 have e2:(2:Nat)^(8*(i%4))=256^(i%4):=by rw[rQ]
 have e3:256^i=256^(4*(i/4))*256^(i%4):=by rw[<-eh];congr 1;omega
 have hq:0<256^(4*(i/4)):=cF d_;have hr:256^(i%4)*256<=4294967296:=by rw[hB,<-dr];exact c7 d_ o_
 rw[e1,e2];have m1:a%256^i/256^(4*(i/4))=a/256^(4*(i/4))%256^(i%4):=by rw[e3,Ay]
 have m2:a%256^(i+1)/256^(4*(i/4))=a/256^(4*(i/4))%(256^(i%4)*256):=by rw[dr,e3,fK,Ay]
 have m3:a/256^i%256=a/256^(4*(i/4))/256^(i%4)%256:=by rw[e3,kE]
 rw[m1,m2,m3];generalize a/256^(4*(i/4))=c;have hp:0<256^(i%4):=cF d_;have h1:=cE c hp;have h2:c/256^(i%4)%256<256:=cE _ d_;have h3:c%(256^(i%4)*256)=c%256^(i%4)+256^(i%4)*(c/256^(i%4)%256):=MD;have h4:c%(256^(i%4)*256)<256^(i%4)*256:=cE _ o_;rw[dJ (show c%256^(i%4)<4294967296 by omega),dJ (show c%(256^(i%4)*256)<4294967296 by omega),h3];have e4:(256:Nat)^(i%4)=2^(8*(i%4)):=by rw[rQ]
 rw[e4]at h1 ⊢;rw[Nat.or_comm,cK,<-MS h1,mF]
theorem aHM(h:j≠i/4):a%256^i/4294967296^j%4294967296=a%256^(i+1)/4294967296^j%4294967296:=by
 have hB:(4294967296:Nat)=256^4:=by decide
 have e1:(4294967296:Nat)^j=256^(4*j):=by rw[hB,<-rQ]
 rw[e1];rcases Eb h with h1|h1
 ·-- lower digits
  have k:∀ i,4*j+4<=i->a%256^i/256^(4*j)%4294967296=a/256^(4*j)%4294967296:=by
   intro i hi;have e3:256^i=256^(4*j)*(4294967296*256^(i-4*j-4)):=by rw[hB,<-eh,<-eh];congr 1;omega
   rw[e3,Ay,Jo]
  rw[k i o_,k (i+1) o_]
 ·have hp:∀ i,i<=4*j->a%256^i/256^(4*j)=0:=by intro i hi;exact lV (cC (cE _ (cF d_)) (c7 d_ hi))
  rw[hp i o_,hp (i+1) o_]
theorem aHN{n:Nat}(hi:i/4<n):(aa 4294967296 n (a%256^i)).set (i/4) (a%256^(i+1)/4294967296^(i/4)%4294967296)=aa 4294967296 n (a%256^(i+1)):=by
 apply wK
 ·simp[aa]
 ·intro j h1 h2;simp only[aa,fk,Ar]at h2;rw[Gq];simp only[aa,Ce,Cf];by_cases hj:i/4=j
  ·rw[au hj,hj]
  ·rw[al hj];exact aHM (mB hj)
def BA(l:List UInt8):ByteArray:=⟨l.toArray⟩
theorem oA(l:List UInt8):(BA l).size=l.length:=rfl
theorem Jp(l:List UInt8)(i:Nat):(BA l)[i]?=l[i]?:=by rw[YY];rfl
theorem aHO(l:List UInt8)(i:Nat):(BA l).extract i (BA l).size=BA (l.drop i):=by apply ByteArray.ext;rw[ByteArray.data_extract];show(l.toArray).extract i l.length=(l.drop i).toArray;apply D2;simp[j0]
def jC:List UInt8->Nat
 |[]=>0
 |c::l=>if c=0 then jC l+1 else 0
theorem Y0:∀ l:List UInt8,jC l<=l.length
 |[]=>bh _
 |c::l=>by unfold jC;have:=Y0 l;split<;>simp<;>omega
theorem Y1:∀(l:List UInt8) (i:Nat),i<jC l->l[i]?=some 0
 |[],i,h=>by simp[jC]at h
 |c::l,i,h=>by
  unfold jC at h;split at h
  ·rename_i hc;cases i with
   |zero=>rw[hc];rfl
   |succ i=>exact Y1 l i o_
  ·omega
theorem Y2:∀(l:List UInt8),jC l<l.length->∃ c,l[jC l]?=some c/\c≠0
 |[],h=>by simp at h
 |c::l,h=>by
  unfold jC at h ⊢;split at h
  ·rename_i hc;rw[au hc];obtain⟨d,h1,h2⟩:=Y2 l (by simpa using h);exact⟨d,h1,h2⟩
  ·rename_i hc;rw[al hc];exact⟨c,rfl,hc⟩
def Jq(l:List UInt8):List UInt8:=l.drop (jC l)
theorem aHP{x n:Nat}(hn:n<=32)(h:x*2^n<base):IntKind.u32.wrap ((x:Int)*2^(min n IntKind.u32.bits))=((x*2^n:Nat):Int):=by
 have e:(x:Int)*2^n=((x*2^n:Nat):Int):=by simp
 rw[show min n IntKind.u32.bits=n from nh hn,nr,e];unfold base at h;omega
section
variable{Bs:ae}{n N a:Nat}{s:ByteArray}
def Gy(s:ByteArray)(n N i:Nat):aM:=[(13,vI i),(12,vI n),(0,.string s),(3,sl 0 N)]
def Cq(N a i:Nat):aE:=[(0,.row (aj (aa base N (a%256^i))) 172 1)]
theorem aHQ(hn:n=s.size)(hN:N=(n+3)/4)(ha:a=ko s)(hi:i<n)(h63:n<35184372088832):
  af prog Bs 39 (aF (ag f214 0)) (Gy s n N i) (Cq N a i) 1 ⟨.normal,Gy s n N (i+1),Cq N a (i+1),1⟩:=by
 obtain⟨c,gj,c9⟩:=RT s (show i<s.size by omega);rw[<-hn]at gj;rw[<-ha]at c9;have wS:i/4<N:=by omega
 have hb:=aHL (a:=a) (i:=i);have h1:a%256^i/base^(i/4)%base<base:=gO d_ _ _;have h2:c.toNat*2^(8*(i%4))<base:=by have:c.toNat<256:=c.toNat_lt;have h3:2^(8*(i%4))<=2^24:=c7 d_ o_;have:=Cr (show c.toNat<=255 by omega) h3;unfold base;omega
 have bK:eT prog 172 (aj (aa base N (a%256^i))) (i/4) (aR (a%256^(i+1)/base^(i/4)%base))=some (aj (aa base N (a%256^(i+1)))):=by rw[yC _ _ _ (by simp[aj,oy];exact wS),yD,aHN wS]
 have kU:((a%256^i/base^(i/4)%base||| c.toNat*2^(8*(i%4)):Nat):Int)=((a%256^(i+1)/base^(i/4)%base:Nat):Int):=by rw[c9];exact ch _ hb
 have hlen:(s.size:Int)=((n:Nat):Int):=by rw[hn]
 exact az [.lt 14 i n true (by simp[hi]),.rw 17 (.int .i64 (s.size:Int)) (vI n) (by rw[hlen];rfl),.eW 18 n 1 (n-1) o_ o_,.eW 20 (n-1) i (n-1-i) o_ o_,.wr 23 .i64 (Int.tdiv (i:Int) 4) ((i/4:Nat):Int) (by rw[dU,Az o_];omega),.ix f214 24 0 N (i/4) wS k_,.ld f214 25 172 0 (i/4) (.row (aj (aa base N (a%256^i))) 172 1) (aR (a%256^i/base^(i/4)%base)) rfl (by rw[fN];exact kG (ee wS)) k_,.sx f214 28 s (n-1-i) c gj k_,.wr 29 .u32 (c.toNat:Int) (c.toNat:Int) (by rw[nr];have:=c.toNat_lt;omega),.quo 31 .i64 (Int.tmod (i:Int) 4) ((i%4:Nat):Int) (by rw[yJ o_];omega),.wr 32 .i64 (8*((i%4:Nat):Int)) ((8*(i%4):Nat):Int) (by rw[dU];omega),.shl f214 33 .u32 (c.toNat:Int) ((c.toNat*2^(8*(i%4)):Nat):Int) (8*(i%4)) (aHP o_ h2) k_,.quo 34 .u32 _ _ ((RH h1 h2).trans kU),.ix f214 35 0 N (i/4) wS k_,.st f214 100035 172 0 (i/4) (.row (aj (aa base N (a%256^i))) 172 1) (aR (a%256^(i+1)/base^(i/4)%base)) (.row (aj (aa base N (a%256^(i+1)))) 172 1) rfl bK rfl k_,.sum 36 i 1 (i+1) rfl o_]
theorem aHR(hn:n=s.size)(hN:N=(n+3)/4)(ha:a=ko s)(h63:n<35184372088832):
  af prog Bs 39 (.block 0 (ag f214 0)) (Gy s n N 0) (Cq N a 0) 1 ⟨.normal,Gy s n N n,Cq N a n,1⟩:=
 bO (ck (b:=aF (ag f214 0)) (r:=⟨.exit 0,Gy s n N n,Cq N a n,1⟩) n (Gy s n N) (Cq N a)
  (λi k _=>jO (l:=Cq N a i) (m:=Cq N a 0) rfl k) (λi hi=>aHQ hn hN ha hi h63) (az [.lt 14 n n false s_]) n_)
end
theorem aHS{s:ByteArray}(h63:s.size<35184372088832):
  Calls prog 214 #[.string s] w λe w'=>∃ v,e=.returned v/\jB w w' v (ko s)/\Below w.heap.size w w':=by
 have ao:=YZ s;have hs:ko s<base^((s.size+3)/4):=by
  have:(base:Nat)=256^4:=by decide
  rw[this,<-rQ];exact cC ao (c7 d_ o_)
 have aU:ko s%256^s.size=ko s:=dJ ao
 refine lC (Q:=λe w'=>∃ v,e=.returned v/\jB w w' v (ko s)/\Below w.heap.size w w') mixed func214 [cA.plain (.string s)] (λx hx=>by simp at hx;subst hx;rfl) 100 (N:=39) k_
  (rs:=[(aQ.sum 8 s.size 3 (s.size+3) rfl o_:aQ prog (ae.at w) 39),.wr 9 .i64 (Int.tdiv ((s.size+3:Nat):Int) 4) (((s.size+3)/4:Nat):Int) (by rw[dU,Az o_];omega),.pI f214 10 0 ((s.size+3)/4) 172 4 (aR 0) (aj (aa base ((s.size+3)/4) (ko s%256^0))) (by rw[rP,s9,RQ,Es]) rfl rfl o_ (by simp[maxLen];omega) k_,.code 0 _ _ _ _ _ (aHR (n:=s.size) (N:=(s.size+3)/4) (a:=ko s) rfl rfl rfl h63),.trim f214 38 0 ((s.size+3)/4) (ko s) (.row (aj (aa base ((s.size+3)/4) (ko s%256^s.size))) 172 1) rfl (by rw[aU];rfl) hs o_ (y:=.func 203) k_])
  (v:=.slice (some ⟨0,0,some 7⟩) (nd base (ko s)) 0) (ms:=[(0,.row (aj (aa base ((s.size+3)/4) (ko s%256^s.size))) 172 1)]) k_ λav bX v' w' hc bo dG _=>⟨v',rfl,?_,bo.base⟩
 have hk:=dG _ (aL ..);rw[aU]at hk;exact wP bo hk hs hc
section
variable{Bs:ae}{l:List UInt8}
def Cs(l:List UInt8)(i:Nat):aM:=[(0,.string (BA (l.drop i))),(1,.int .u8 0)]
theorem RU:(((BA (l.drop i)).size:Nat):Int)=((l.length-i:Nat):Int):=by rw[oA,u7]
theorem aHT(hi:i<jC l):af prog Bs 17 (aF (ag f240 0)) (Cs l i) [] 0 ⟨.normal,Cs l (i+1),[],0⟩:=by
 have hz:=Y1 l i hi;have hle:=Y0 l;have e:(BA (l.drop i)).extract 1 (BA (l.drop i)).size=BA (l.drop (i+1)):=by rw[aHO,MT]
 have h1:1<=(BA (l.drop i)).size:=by rw[oA,u7];omega
 exact az [.rw 6 (.int .i64 (((BA (l.drop i)).size:Nat):Int)) (vI (l.length-i)) (by rw[RU];rfl),.gt 7 (l.length-i) 0 true (by simp;omega),.sx f240 10 (BA (l.drop i)) 0 0 (by rw[Jp,DZ];exact hz) k_,.sf f240 15 (BA (l.drop i)) 1 h1 k_,.rw 0 (.string ((BA (l.drop i)).extract 1 (BA (l.drop i)).size)) (.string (BA (l.drop (i+1)))) (by rw[e])]
theorem aHU:af prog Bs 17 (aF (ag f240 0)) (Cs l (jC l)) [] 0 ⟨.exit 0,Cs l (jC l),[],0⟩:=by
 by_cases h:jC l<l.length
 ·obtain⟨c,h1,h2⟩:=Y2 l h;have h3:c.toNat≠0:=λe=>h2 (MU.1 (by rw[e];rfl));exact az [.rw 6 (.int .i64 (((BA (l.drop (jC l))).size:Nat):Int)) (vI (l.length-jC l)) (by rw[RU];rfl),.gt 7 (l.length-jC l) 0 true (by simp;omega),.sx f240 10 (BA (l.drop (jC l))) 0 c (by rw[Jp,DZ];exact h1) k_,.gm 12 c.toNat 0 false (by simp[h3])]
 ·exact az [.rw 6 (.int .i64 (((BA (l.drop (jC l))).size:Nat):Int)) (vI (l.length-jC l)) (by rw[RU];rfl),.gt 7 (l.length-jC l) 0 false (by simp;omega)]
theorem aHV:af prog Bs 17 (.block 0 (ag f240 0)) (Cs l 0) [] 0 ⟨.normal,Cs l (jC l),[],0⟩:=
 bO (ck (b:=aF (ag f240 0)) (r:=⟨.exit 0,Cs l (jC l),[],0⟩) (jC l) (Cs l) (λ_=>[]) (λi k _=>Iff.rfl) (λi hi=>aHT hi) aHU n_)
end
theorem aHW(l:List UInt8):aD prog 240 [.string (BA l),.int .u8 0] (.string (BA (Jq l))):=
 aZ func240 (λ_=>[.code 0 _ _ _ _ _ (aHV (l:=l))])
theorem Y3(l:List UInt8):(BA l).toList=l:=by rw[ByteArray.toList_eq];rfl
theorem Ev(l:List UInt8):((BA l).toList==(ByteArray.mk #[]).toList)=decide (l=[]):=by rw[Y3,show(ByteArray.mk #[]).toList=[]from Y3 []];cases l<;>rfl
theorem aHX(l:List UInt8):aD prog 228 [.string (BA l),.string ⟨#[0]⟩] (.string (BA (Jq l))):=by
 by_cases h:l=[]
 ·subst h;exact aZ func228 (λ_=>[.rw 8 (.bool ((BA []).toList==(ByteArray.mk #[]).toList)) b_ (by rw[Ev];rfl)])
 ·exact aZ func228 (λ_=>[.rw 8 (.bool ((BA l).toList==(ByteArray.mk #[]).toList)) a_ (by rw[Ev,aO h]),(aHW l).at 25])
theorem RW{x y:Nat}(hx:x<18446744073709551616)(hy:y<18446744073709551616):IntKind.u64.wrap (((BitVec.ofInt IntKind.u64.bits (x:Int))||| (BitVec.ofInt IntKind.u64.bits (y:Int))).toNat:Int)=((x||| y:Nat):Int):=by
 show IntKind.u64.wrap (((BitVec.ofInt 64 (x:Int))||| (BitVec.ofInt 64 (y:Int))).toNat:Int)=_;have e:∀ x:Nat,(BitVec.ofInt 64 (x:Int))=BitVec.ofNat 64 x:=λx=>by simp
 have t:∀ x:Nat,x<18446744073709551616->(BitVec.ofNat 64 x).toNat=x:=λx h=>by rw[BitVec.toNat_ofNat];exact dJ h
 rw[e,e,BitVec.toNat_or,t x hx,t y hy,jQ];have:x||| y<18446744073709551616:=YP (n:=64) hx hy
 omega
theorem aHY{hi lo y:Nat}(hh:hi<y)(hl:lo<base)(hy:y<base):
  aD prog 245 [aR hi,aR lo,aR y] (.tuple #[aR ((hi*base+lo)/y),aR ((hi*base+lo)%y)]):=by
 have kU:hi*base||| lo=hi*base+lo:=by have:=MS (i:=32) hl hi;rw[cK];exact this.symm
 have hs:hi*base+lo<18446744073709551616:=by clear kU;unfold base at *;omega
 have hq:(hi*base+lo)/y<base:=by rw[iv o_];have:=eZ base (show hi+1<=y by omega);rw[cK base y];clear kU;unfold base at *;omega
 have hr:(hi*base+lo)%y<base:=lD (cE _ o_) hy;have wO:(y:Int)≠0:=by omega
 have h64:base=4294967296:=rfl;have hA:hi*base<18446744073709551616:=eX (Jr _ _) hs;have Gz:IntKind.u64.wrap ((hi:Int)*2^32)=((hi*base:Nat):Int):=by
  have e:(hi:Int)*2^32=((hi*base:Nat):Int):=by rw[nM];rfl
  rw[e,jQ];generalize hi*base=H at hA ⊢;omega
 have hB:lo<18446744073709551616:=lD hl d_;have key:∀ H:Nat,H=hi*base->IntKind.u64.wrap (((BitVec.ofInt IntKind.u64.bits (H:Int))||| (BitVec.ofInt IntKind.u64.bits (lo:Int))).toNat:Int)=((hi*base+lo:Nat):Int):=by intro H hH;rw[RW (by rw[hH];exact hA) hB,hH,kU]
 obtain⟨H,hH⟩:∃ H,H=hi*base:=⟨_,rfl⟩;have Y4:=key H hH;rw[<-hH]at Gz;generalize hi*base+lo=S at *;have u64:∀{z:Nat},z<base->IntKind.u64.wrap (z:Int)=z:=λ{z} h=>by rw[jQ];unfold base at h;omega
 have u32:∀{z:Nat},z<base->IntKind.u32.wrap (z:Int)=z:=λ{z} h=>by rw[nr];unfold base at h;omega
 have pH:IntKind.u64.wrap (Int.tdiv (S:Int) y)=((S/y:Nat):Int):=by rw[Az o_,<-te];exact u64 hq
 have nt:Int.tmod (S:Int) y=((S%y:Nat):Int):=by rw[yJ o_];rfl
 exact aZ func245 (λ_=>[
  .rw 10 (.bool ((y:Int)!=0)) b_ (by congr 1;rw[qH];exact wO),
  .rw 14 (.bool (decide ((y:Int)<=(hi:Int)))) a_ (by congr 1;rw[Y5];omega),
  .wr 18 .u64 hi hi (u64 o_),.wr 19 .u64 ((hi:Int)*2^32) (H:Int) Gz,.wr 21 .u64 lo lo (u64 hl),
  .quo 22 .u64 _ (S:Int) Y4,.wr 25 .u64 y y (u64 hy),
  .vm f245 26 .u64 (S:Int) y ((S/y:Nat):Int) wO pH k_,.wr 27 .u32 ((S/y:Nat):Int) ((S/y:Nat):Int) (u32 hq),
  .wr 30 .u64 y y (u64 hy),
  .Aw f245 31 .u64 (S:Int) y ((S%y:Nat):Int) wO nt k_,.wr 32 .u32 ((S%y:Nat):Int) ((S%y:Nat):Int) (u32 hr)])
def da(i:Nat):Value:=.int .i64 ((i:Int)-1)
theorem dV(j:Nat):da (j+1)=vI j:=by
 unfold da vI;have e:((j+1:Nat):Int)-1=(j:Int):=by omega
 rw[e]
theorem oB(h:j<9223372036854775807):IntKind.i64.wrap ((j:Int)-1)=(j:Int)-1:=by rw[dU];omega
section
variable{Bs:ae}{n a d:Nat}
def rR(n a d i:Nat):aM:=[(8,da i),(6,sl 1 n),(7,aR (a/base^i%d)),(0,sl 0 n),(1,aR d)]
def Ct(n a d i:Nat):aE:=[(0,.view (aj (aa base n a))),(1,.row (aj (gv base n i (a/d))) 172 1)]
theorem MV(hj:j<n)(hd:0<d)(mH:d<base)(h63:n<35184372088832):
  af prog Bs 35 (aF (ag f231 0)) (rR n a d (j+1)) (Ct n a d (j+1)) 2 ⟨.normal,rR n a d j,Ct n a d j,2⟩:=by
 have bK:eT prog 172 (aj (gv base n (j+1) (a/d))) j (aR (a/d/base^j%base))=some (aj (gv base n j (a/d))):=by rw[yC _ _ _ (by simp[aj,MI];exact hj),yD,MK hj rfl]
 have hdiv:=aHY (hi:=a/base^(j+1)%d) (lo:=a/base^j%base) (y:=d) (cE _ hd) (gO d_ _ _) mH;obtain⟨q1,q2⟩:=YK (B:=base) d_ hd (jD mH) a j;rw[q1,q2]at hdiv;exact az [.rw 15 (da (j+1)) (vI j) (dV j),.ge 16 j 0 true s_,.rw 21 (da (j+1)) (vI j) (dV j),.rw 24 (da (j+1)) (vI j) (dV j),.ix f231 25 0 n j hj k_,.ld f231 26 172 0 j (.view (aj (aa base n a))) (aR (a/base^j%base)) rfl (by rw[fN];exact kG (ee hj)) k_,hdiv.at 28,.ix f231 31 1 n j hj k_,.st f231 100031 172 1 j (.row (aj (gv base n (j+1) (a/d))) 172 1) (aR (a/d/base^j%base)) (.row (aj (gv base n j (a/d))) 172 1) rfl bK rfl k_,.rw 17 (da (j+1)) (vI j) (dV j),.wr 18 .i64 ((j:Int)-1) ((j:Int)-1) (oB o_)]
theorem aHZ(hd:0<d)(mH:d<base)(h63:n<35184372088832):
  af prog Bs 35 (.block 0 (ag f231 0)) (rR n a d n) (Ct n a d n) 2 ⟨.normal,rR n a d 0,Ct n a d 0,2⟩:=by
 have:=ck (P:=prog) (B:=Bs) (N:=35) (b:=aF (ag f231 0)) (next:=2) (r:=⟨.exit 0,rR n a d 0,Ct n a d 0,2⟩) n (λi=>rR n a d (n-i)) (λi=>Ct n a d (n-i))
  (λi k _=>jO (l:=Ct n a d (n-i)) (m:=Ct n a d (n-0)) rfl k)
  (λi hi=>by
   have e:n-i=(n-(i+1))+1:=by omega
   simp only[e];exact MV o_ hd mH h63)
  (by
   have e:n-n=0:=by omega
   simp only[e];exact az [.rw 16 (.bool (decide (((0:Nat):Int)-1>=0))) a_ rfl]) n_
 exact bO this
end
theorem aH0(fZ:iw w va a)(hd:0<d)(mH:d<base)(h1:nd base a<35184372088832):
  Calls prog 231 #[va,aR d] w λe w'=>∃ v,e=.returned (.tuple #[v,aR (a%d)])/\jB w w' v (a/d)/\Below w.heap.size w w':=by
 have ha:=dQ (B:=base) d_ a;have hl:∀ s∈[cA.row va (nd base a) (aj (aa base (nd base a) a)),cA.plain (aR d)],s.OK w:=by
  intro s hs;simp at hs;rcases hs with rfl|rfl
  ·exact⟨fZ,fq _⟩
  ·rfl
 unfold iw at fZ;generalize nd base a=n at *;have hs:a/d<base^n:=eX (tf _ _) ha;have e0:a/base^n%d=0:=by rw[lV ha];exact Nat.zero_mod _
 have e1:a/base^0%d=a%d:=by simp
 refine lC (Q:=λe w'=>∃ v,e=.returned (.tuple #[v,aR (a%d)])/\jB w w' v (a/d)/\Below w.heap.size w w') mixed func231 [cA.row va n (aj (aa base n a)),cA.plain (aR d)] hl 100 (N:=35) k_
  (rs:=[(aQ.pI f231 11 1 n 172 4 (aR 0) (aj (gv base n n (a/d))) (by rw[MJ,Es]) rfl rfl o_ (by simp[maxLen];omega) k_:aQ prog (ae.at w) 35),.rw 7 (.int .u32 0) (aR (a/base^n%d)) (by rw[e0];rfl),.wr 14 .i64 ((n:Int)-1) ((n:Int)-1) (oB o_),.code 0 _ _ _ _ _ (aHZ (n:=n) (a:=a) hd mH h1),.trim f231 33 1 n (a/d) (.row (aj (gv base n 0 (a/d))) 172 1) rfl (by rw[<-Jh];rfl) hs o_ (y:=.func 203) k_])
  (v:=.tuple #[.slice (some ⟨1,0,some 7⟩) (nd base (a/d)) 0,aR (a/base^0%d)]) (ms:=[(1,.row (aj (gv base n 0 (a/d))) 172 1)]) k_ λav bX v' w' hc bo dG _=>?_
 obtain⟨vs,he,aU⟩:=hc.tS;obtain⟨v1,v2,aN,c1,c2⟩:=iY aU;have hk:=dG _ (aL ..);rw[Jh]at hk;refine⟨v1,?_,wP bo hk hs c1,bo.base⟩;rw[he,show vs=#[v1,v2]from vf.1 aN,c2.fh rfl,e1]
def gP(a b:Nat):Int:=if a<b then -1 else if b<a then 1 else 0
section
variable{Bs:ae}{n a b:Nat}
def AA(n i:Nat):aM:=[(5,da i),(0,sl 0 n),(1,sl 1 n)]
def rS(n a b:Nat):aE:=[(0,.view (aj (aa base n a))),(1,.view (aj (aa base n b)))]
noncomputable def RX(n a b j:Nat)(hj:j<n)(t1 t2:Bool)(h1:decide (a/base^j%base<b/base^j%base)=t1)(h2:decide (b/base^j%base<a/base^j%base)=t2)(more:bH prog Bs 43):bH prog Bs 43:=
 .rw 19 (da (j+1)) (vI j) (dV j)::.ge 20 j 0 true s_::.rw 25 (da (j+1)) (vI j) (dV j)::.ix f220 26 0 n j hj k_::
  .ld f220 27 172 0 j (.view (aj (aa base n a))) (aR (a/base^j%base)) rfl (by rw[fN];exact kG (ee hj)) k_::
  .rw 29 (da (j+1)) (vI j) (dV j)::.ix f220 30 1 n j hj k_::
  .ld f220 31 172 1 j (.view (aj (aa base n b))) (aR (b/base^j%base)) rfl (by rw[fN];exact kG (ee hj)) k_::
  .lt 32 (a/base^j%base) (b/base^j%base) t1 h1::(if t1 then[]else
  .rw 35 (da (j+1)) (vI j) (dV j)::.ix f220 36 0 n j hj k_::
  .ld f220 37 172 0 j (.view (aj (aa base n a))) (aR (a/base^j%base)) rfl (by rw[fN];exact kG (ee hj)) k_::
  .rw 39 (da (j+1)) (vI j) (dV j)::.ix f220 40 1 n j hj k_::
  .ld f220 41 172 1 j (.view (aj (aa base n b))) (aR (b/base^j%base)) rfl (by rw[fN];exact kG (ee hj)) k_::
  .gt 42 (a/base^j%base) (b/base^j%base) t2 h2::more)
theorem aH1(hj:j<n)(he:a/base^j%base=b/base^j%base)(h63:n<35184372088832):
  af prog Bs 43 (aF (ag f220 0)) (AA n (j+1)) (rS n a b) 2 ⟨.normal,AA n j,rS n a b,2⟩:=
 az (RX n a b j hj false false (by simp[he]) (by simp[he]) [.rw 21 (da (j+1)) (vI j) (dV j),.wr 22 .i64 ((j:Int)-1) ((j:Int)-1) (oB o_)])
theorem aH2(hj:j<n)(ao:a/base^j%base<b/base^j%base):
  af prog Bs 43 (aF (ag f220 0)) (AA n (j+1)) (rS n a b) 2 ⟨.ret,[(4,.int .i64 (-1))],rS n a b,2⟩:=
 az (RX n a b j hj true false (by simp[ao]) (by simp;omega) [])
theorem aH3(hj:j<n)(ao:b/base^j%base<a/base^j%base):
  af prog Bs 43 (aF (ag f220 0)) (AA n (j+1)) (rS n a b) 2 ⟨.ret,[(4,.int .i64 1)],rS n a b,2⟩:=
 az (RX n a b j hj false true (by simp;omega) (by simp[ao]) [])
theorem aH4:af prog Bs 43 (aF (ag f220 0)) (AA n 0) (rS n a b) 2 ⟨.exit 0,[],rS n a b,2⟩:=
 az [.rw 20 (.bool (decide (((0:Nat):Int)-1>=0))) a_ rfl]
theorem aH5(ha:a<base^n)(hb:b<base^n)(h63:n<35184372088832):
  af prog Bs 43 (.block 0 (ag f220 0)) (AA n n) (rS n a b) 2 (if a=b then⟨.normal,[],rS n a b,2⟩else⟨.ret,[(4,.int .i64 (gP a b))],rS n a b,2⟩):=by
 obtain⟨e,h1,h2,h3⟩:=yA (λt=>¬(t<n/\a/base^(n-1-t)%base=b/base^(n-1-t)%base)) n o_;have wT:=YL ha hb e h1 λs hs=>(Ew.1 (h3 s hs)).2;have go:∀(r:lv),r.ex≠.normal->af prog Bs 43 (aF (ag f220 0)) (AA n (n-e)) (rS n a b) 2 r->af prog Bs 43 (.loop (aF (ag f220 0))) (AA n n) (rS n a b) 2 r:=by
  intro r hr vn
  exact ck (P:=prog) (B:=Bs) (N:=43) (b:=aF (ag f220 0)) (next:=2) (r:=r) e (λi=>AA n (n-i)) (λ_=>rS n a b) (λi k _=>Iff.rfl)
   (λi hi=>by
    have q:=Ew.1 (h3 i hi);have e1:n-i=(n-(i+1))+1:=by omega
    have e2:n-1-i=n-(i+1):=by omega
    simp only[e1];exact aH1 o_ (by rw[<-e2];exact q.2) h63) vn hr
 by_cases Cu:e=n
 ·have bW:a=b:=by rw[Cu,vo,rP,Ey,Ey]at wT;exact wT
  rw[au bW];have:=go ⟨.exit 0,[],rS n a b,2⟩ n_ (by rw[Cu,vo];exact aH4);exact bO (id:=0) this
 ·have hj:n-e=(n-1-e)+1:=by omega
  have bd:a/base^(n-1-e)%base≠b/base^(n-1-e)%base:=λh=>h2 ⟨by omega,h⟩;rw[hj]at wT go;have bW:a≠b:=λh=>bd (by rw[h]);rw[al bW];rcases Eb bd with ao|sY
  ·have hl:=ML wT ao;have e1:gP a b=-1:=by unfold gP;rw[au hl]
   rw[e1];exact bO (id:=0) (go _ n_ (aH2 o_ ao))
  ·have hl:=ML wT.symm sY;have e1:gP a b=1:=by unfold gP;rw[al o_,au hl]
   rw[e1];exact bO (id:=0) (go _ n_ (aH3 o_ sY))
end
def pM(a b:Nat):Int:=if nd base a=nd base b then gP a b else(nd base a:Int)-nd base b
theorem MW{a b:Nat}:0<=pM a b↔b<=a:=by
 unfold pM;by_cases h:nd base a=nd base b
 ·rw[au h];unfold gP;by_cases h1:a<b
  ·rw[au h1];omega
  ·rw[al h1];by_cases h2:b<a
   ·rw[au h2];omega
   ·rw[al h2];omega
 ·rw[al h];rcases eU a b with h1|h1
  ·have:=je (B:=base) d_ (jD h1);omega
  ·have:=je (B:=base) d_ h1;omega
theorem MX{vb:i_}(fZ:iw w va a)(kW:iw w vb b)(h1:nd base a<35184372088832)(h2:nd base b<35184372088832):
  Calls prog 220 #[va,vb] w λe w'=>e=.returned (.int .i64 (pM a b))/\Below w.heap.size w w':=by
 have ha:=dQ (B:=base) d_ a;have hb:=dQ (B:=base) d_ b;have hl:∀ s∈[cA.row va (nd base a) (aj (aa base (nd base a) a)),cA.row vb (nd base b) (aj (aa base (nd base b) b))],s.OK w:=by
  intro s hs;simp at hs;rcases hs with rfl|rfl
  ·exact⟨fZ,fq _⟩
  ·exact⟨kW,fq _⟩
 unfold iw at fZ kW;unfold pM;generalize nd base a=n at *;generalize nd base b=m at *;have fin:∀{av:Map} {bX:Nat->Option Obj} {v':i_} {w':h_} {z:Int},aH av (.int .i64 z) v'->aJ (ae.at w) av bX w'->Ending.returned v'=.returned (.int .i64 z)/\Below w.heap.size w w':=λhc hm=>⟨by rw[hc.fh rfl],hm.base⟩;have bd:∀ t:Bool,decide (n=m)=!t->(Value.bool (((n:Nat):Int)!=((m:Nat):Int)))=.bool t:=by
  intro t h
  congr 1
  by_cases lA:n=m
  ·subst lA;simp at h;subst h;simp
  ·rw[aO lA]at h;have:t=true:=by cases t<;>simp at h ⊢
   subst this;rw[qH];omega
 by_cases lA:n=m
 ·subst lA;rw[au rfl];have lo:=aH5 (Bs:=ae.at w) ha hb h1;by_cases bW:a=b
  ·rw[au bW]at lo;have ho:gP a b=0:=by unfold gP;rw[al o_,al o_]
   rw[ho]
   exact lC (Q:=λe w'=>e=.returned (.int .i64 0)/\Below w.heap.size w w') mixed func220 [cA.row va n (aj (aa base n a)),cA.row vb n (aj (aa base n b))] hl 100 (N:=43) k_
    (rs:=[(aQ.rw 10 (.bool (((n:Nat):Int)!=((n:Nat):Int))) a_ (bd false s_):aQ prog (ae.at w) 43),.wr 18 .i64 ((n:Int)-1) ((n:Int)-1) (oB o_),.code 0 _ _ _ _ _ lo])
    (v:=.int .i64 0) (ms:=[]) k_ λav bX v' w' hc bo _ _=>fin hc bo
  ·rw[al bW]at lo
   exact lC (Q:=λe w'=>e=.returned (.int .i64 (gP a b))/\Below w.heap.size w w') mixed func220 [cA.row va n (aj (aa base n a)),cA.row vb n (aj (aa base n b))] hl 100 (N:=43) k_
    (rs:=[(aQ.rw 10 (.bool (((n:Nat):Int)!=((n:Nat):Int))) a_ (bd false s_):aQ prog (ae.at w) 43),.wr 18 .i64 ((n:Int)-1) ((n:Int)-1) (oB o_),.code 0 _ _ _ _ _ lo])
    (v:=.int .i64 (gP a b)) (ms:=[]) k_ λav bX v' w' hc bo _ _=>fin hc bo
 ·rw[al lA]
  exact lC (Q:=λe w'=>e=.returned (.int .i64 ((n:Int)-m))/\Below w.heap.size w w') mixed func220 [cA.row va n (aj (aa base n a)),cA.row vb m (aj (aa base m b))] hl 100 (N:=43) k_
   (rs:=[(aQ.rw 10 (.bool (((n:Nat):Int)!=((m:Nat):Int))) b_ (bd true (by simp[lA])):aQ prog (ae.at w) 43),.wr 15 .i64 ((n:Int)-(m:Int)) ((n:Int)-m) (by rw[dU];omega)])
   (v:=.int .i64 ((n:Int)-m)) (ms:=[]) k_ λav bX v' w' hc bo _ _=>fin hc bo
section
variable{P:j_}{B:ae}{N:Nat}
def AB(P:j_)(o:Oper):Option (Nat×List Nat×TypeId×Nat×Value):=match o.op with
 |.buildSlice t len parts=>match P.underlying t with
  |some (.slice e)=>(match P.info? e with|some i=>(match i.zero with|some z=>some (len,parts.toList.map (·.1),e,i.size,z)|none=>none)|none=>none)
  |_=>none
 |_=>none
def Js(size len:Nat)(z:i_)(ps:aM):Option (Array Value):=
 Instr.fill (λi=>some (i*size,size)) ((Array.range (len*size)).map (z.cells[·%z.cells.size]!)) ps
theorem MY{ρ:Operand->Value}:∀(l:List (Nat×Operand)) {vs:ah},(l.map (·.2)).map ρ=vs->(l.map λp=>(p.1,ρ p.2))=(l.map (·.1)).zip vs
 |[],vs,h=>by subst h;rfl
 |p::l,vs,h=>by subst h;simp only[qE,List.zip_cons_cons];rw[MY l rfl]
theorem aH6{idx:l_}{z:i_}(ho:AB P o=some (len,idx,e,size,z)){cells:p_}(cG:∀ v∈vs,flat v=true)(RY:∀ v∈cells.toList,flat v=true)
  (Cv:Js size len z (idx.zip vs)=some cells) (bE:cells.size=len*size) (yK:0<len*size) (hle:len*size<=16777216) (k:Nat) :
  cz P B o vs [(k,none)] (.slice (some ⟨k,0,some 7⟩) len 0) [(k,.row cells.toList e size)]:=by
 unfold AB at ho;split at ho
 ·rename_i t lE parts bM;split at ho
  ·rename_i e' ht;split at ho
   ·rename_i i hi;split at ho
    ·rename_i z' hz;injection ho with ho;injection ho with h1 ho;injection ho with h2 ho;injection ho with h3 ho;injection ho with h4 h5;subst h1;subst h2;subst h3;subst h4;subst h5;refine gT.step λι c ρ w aN hm hn=>?_;have hk:c k=none:=hn _ (aL ..);rw[bM]at aN;have aN:=mZ aN cG;have bP:List.map (λx=>(x.fst,ρ x.snd)) parts.toList=(parts.toList.map (·.1)).zip vs:=
      MY parts.toList (by simpa[Op.operands]using aN)
     have MZ:lE<=maxLen:=by have:lE<=lE*i.size:=Ez _ (Nat.pos_of_mul_pos_left yK);simp[maxLen];omega
     have tW:Map.le ι _:=gu (l:=.at w.heap.size 0 lE) (hm.dw k hk);have iP:=Ge (ty:=e') (size:=i.size) (cap:=lE) (rest:=#[]) hm hk (ky RY:bL (aH ι) cells.toList cells.toList) MZ (by simpa using bE);refine⟨_,.slice (some ⟨w.heap.size,0,none⟩) lE lE,_,tW,.slc (o:=0) (off:=0) (fC _ _ _) (bh _) o_,iP,.inl ?_⟩;have h0:¬(lE*i.size=0):=by omega
     have h1:¬(16777216<lE*i.size):=by omega
     unfold Js at Cv;simp only[execOp,bM];simp[Instr.buildSlice,iZ ht,sizeOf,typeInfo,hi,zeroValue,hz,h0,h1,newRow];rw[bP,Cv];simp[newObj,Sem.run]
    ·cases ho
   ·cases ho
  ·cases ho
 ·cases ho
def EA(P:j_)(o:Oper):Option (TypeId×Nat×Nat×Nat×Bool):=match o.op with
 |.call c=>match c.callee,c.args.toList,c.argTypes.toList with
  |.builtin .append,[_,_],[t,t']=>if Nat.beq t t' then(match P.underlying t with
   |some (.slice e)=>(match P.info? e with|some i=>(match i.zero with|some z=>some (e,i.size,i.bytes,z.cells.size,true)|none=>none)|none=>none)
   |_=>none)else none
  |_,_,_=>none
 |_=>none
theorem Y6(ho:EA P o=some (e,size,A,U,true)):∃ s x t i z,o.op=.call { callee:=.builtin .append,args:=#[s,x],argTypes:=#[t,t]}/\P.underlying t=some (.slice e)/\P.info? e=some i/\i.zero=some z/\i.size=size/\i.bytes=A/\z.cells.size=U:=by
 unfold EA at ho;split at ho
 ·rename_i c bM;split at ho
  ·rename_i s x t t' hc ha mC;split at ho
   ·rename_i htt;split at ho
    ·rename_i e' ht;split at ho
     ·rename_i i hi;split at ho
      ·rename_i z hz;injection ho with ho;injection ho with h1 ho;injection ho with h2 ho;injection ho with h3 ho;injection ho with h4 h5;subst h1;have:=jY htt;subst this;refine⟨s,x,t,i,z,?_,ht,hi,hz,h2,h3,h4⟩;rw[bM];obtain⟨c1,c2,c3⟩:=c;dsimp only at hc ha mC;subst hc
       congr 2
       ·exact vf.1 ha
       ·exact vf.1 mC
      ·cases ho
     ·cases ho
    ·cases ho
   ·cases ho
  ·cases ho
 ·cases ho
theorem Y7(ho:EA P o=some (e,size,A,size,true))(bE:0<size){sv:i_}(yp:BW B sv m ew need)(hl:ew.length=m*size)(QW:∀ v∈ew,v.oneCell'=true)
  {j n:Nat} {cells:ah} (oj:n*size<=cells.length) (h63:n+m<=maxLen) (BV:(n+m)*A<=140737488355328) (k:Nat) :
  cz P B o [.slice (some ⟨j,0,some 7⟩) n 0,sv] ((k,none)::(j,some (.row cells e size))::need) (.slice (some ⟨k,0,some 7⟩) (n+m) 0) [(k,.row (cells.take (n*size)++ew) e size),(j,.dead)]:=by
 obtain⟨s,x,t,i,z,bM,ht,hi,hz,h1,h2,h3⟩:=Y6 ho;subst h1;subst h2;exact(aGI bM ht hi hz h3 bE yp hl QW oj h63 BV k).step
theorem aH7(ho:EA P o=some (e,size,A,size,true))(bE:0<size){sv:i_}(yp:BW B sv m ew need)(hl:ew.length=m*size)
  (h63:m<=maxLen) (BV:m*A<=140737488355328) (k:Nat) :
  cz P B o [.slice none 0 0,sv] ((k,none)::need) (.slice (some ⟨k,0,some 7⟩) m 0) [(k,.row ew e size)]:=by
 obtain⟨s,x,t,i,z,bM,ht,hi,hz,h1,h2,h3⟩:=Y6 ho;subst h1;subst h2;exact(aGH bM ht hi hz h3 bE yp hl h63 BV k).step
def aQ.bs(fn:Func)(key k len e size:Nat)(idx:l_)(z:i_)(vs:ah)(cells:p_)(x:Obj)(hx:Obj.row cells.toList e size=x)(cG:∀ v∈vs,flat v=true)(RY:∀ v∈cells.toList,flat v=true)
  (Cv:Js size len z (idx.zip vs)=some cells) (bE:cells.size=len*size) (yK:0<len*size) (hle:len*size<=16777216) (ho:AB P (ay fn key)=some (len,idx,e,size,z)):aQ P B N:=
 .step key (ay fn key) vs [(k,none)] (.slice (some ⟨k,0,some 7⟩) len 0) [(k,x)] (by subst hx;exact aH6 ho cG RY Cv bE yK hle k)
end
theorem RZ{n:Nat}(hn:n<18446744073709551616):
  Calls prog 155 #[.int .u64 n] w λe w'=>∃ v,e=.returned v/\jB w w' v n/\Below w.heap.size w w':=by
 have hs:n<base^2:=by unfold base;omega
 have e0:n/base^0%base=n%base:=by simp
 have e1:n/base^1%base=n/base:=by rw[Cw];exact dJ (by rw[iv d_];unfold base;omega)
 refine lC (Q:=λe w'=>∃ v,e=.returned v/\jB w w' v n/\Below w.heap.size w w') mixed func155 [cA.plain (.int .u64 n)] (λx hx=>by simp at hx;subst hx;rfl) 100 (N:=10) k_
  (rs:=[(aQ.wr 4 .u32 (n:Int) ((n/base^0%base:Nat):Int) (by rw[nr,e0];unfold base;omega):aQ prog (ae.at w) 10),.quo 6 .u64 ((n:Int).fdiv (2^32)) ((n/base:Nat):Int) (by rw[rO _ d_];unfold base;omega),.wr 7 .u32 ((n/base:Nat):Int) ((n/base^1%base:Nat):Int) (by rw[nr,e1];unfold base;omega),.bs f155 8 0 2 172 1 [0,1] (aR 0) [aR (n/base^0%base),aR (n/base^1%base)] #[aR (n/base^0%base),aR (n/base^1%base)] (.row (aj (aa base 2 n)) 172 1) rfl
    (λv hv=>by simp at hv;rcases hv with rfl|rfl<;>rfl) (λv hv=>by simp at hv;rcases hv with rfl|rfl<;>rfl) k_ rfl o_ o_ k_,
   .trim f155 9 0 2 n (.row (aj (aa base 2 n)) 172 1) rfl rfl hs d_ (y:=.func 203) k_])
  (v:=.slice (some ⟨0,0,some 7⟩) (nd base n) 0) (ms:=[(0,.row (aj (aa base 2 n)) 172 1)]) k_ λav bX v' w' hc bo dG _=>⟨v',rfl,?_,bo.base⟩
 exact wP bo (dG _ (aL ..)) hs hc
section
variable{Bs:ae}{n a:Nat}
def AD(n a i:Nat):aM:=[(4,da i),(0,sl 0 n),(3,.int .u64 ((a/base^i:Nat):Int))]
def Cx(n a:Nat):aE:=[(0,.view (aj (aa base n a)))]
theorem aH8(hj:j<n)(ha:a<18446744073709551616)(h63:n<35184372088832):
  af prog Bs 21 (aF (ag f216 0)) (AD n a (j+1)) (Cx n a) 1 ⟨.normal,AD n a j,Cx n a,1⟩:=by
 have hd:=gO (B:=base) d_ a j;have he:=wM (B:=base) a j;have hle:a/base^j<18446744073709551616:=eX (tf _ _) ha;generalize hA:a/base^(j+1)=A at *;generalize hx:a/base^j%base=x at *;have Y8:A*base<18446744073709551616:=by omega
 have kU:A*base||| x=a/base^j:=by have:=MS (i:=32) hd A;rw[he,cK];exact this.symm
 have R0:IntKind.u64.wrap ((A:Int)*2^32)=((A*base:Nat):Int):=by
  have e:(A:Int)*2^32=((A*base:Nat):Int):=by rw[nM];rfl
  rw[e,jQ];generalize A*base=H at Y8 ⊢;omega
 have Gz:∀ H:Nat,H=A*base->IntKind.u64.wrap (((BitVec.ofInt IntKind.u64.bits (H:Int))||| (BitVec.ofInt IntKind.u64.bits (x:Int))).toNat:Int)=((a/base^j:Nat):Int):=by intro H hH;rw[RW (by rw[hH];exact Y8) (lD hd d_),hH,kU]
 obtain⟨H,hH⟩:∃ H,H=A*base:=⟨_,rfl⟩;have Gz:=Gz H hH;rw[<-hH]at R0
 have:=fE (P:=prog) (B:=Bs) (N:=21) mixed (c:=aF (ag f216 0)) (fr:=[(4,da (j+1)),(0,sl 0 n),(3,.int .u64 (A:Int))]) (M:=Cx n a) (next:=1) (r:=⟨.normal,AD n a j,Cx n a,1⟩) 100
  [.rw 8 (da (j+1)) (vI j) (dV j),.ge 9 j 0 true s_,.wr 13 .u64 ((A:Int)*2^32) (H:Int) R0,.rw 15 (da (j+1)) (vI j) (dV j),.ix f216 16 0 n j hj k_,.ld f216 17 172 0 j (.view (aj (aa base n a))) (aR x) rfl (by rw[fN,<-hx];exact kG (ee hj)) k_,.wr 18 .u64 (x:Int) (x:Int) (by rw[jQ];unfold base at hd;omega),.quo 19 .u64 _ ((a/base^j:Nat):Int) Gz,.rw 10 (da (j+1)) (vI j) (dV j),.wr 11 .i64 ((j:Int)-1) ((j:Int)-1) (oB o_)] k_
 have e:AD n a (j+1)=[(4,da (j+1)),(0,sl 0 n),(3,.int .u64 (A:Int))]:=by unfold AD;rw[hA]
 rw[e];exact this
theorem aH9(ha:a<18446744073709551616)(h63:n<35184372088832):
  af prog Bs 21 (.block 0 (ag f216 0)) (AD n a n) (Cx n a) 1 ⟨.normal,AD n a 0,Cx n a,1⟩:=by
 have:=ck (P:=prog) (B:=Bs) (N:=21) (b:=aF (ag f216 0)) (next:=1) (r:=⟨.exit 0,AD n a 0,Cx n a,1⟩) n (λi=>AD n a (n-i)) (λ_=>Cx n a) (λi k _=>Iff.rfl)
  (λi hi=>by
   have e:n-i=(n-(i+1))+1:=by omega
   simp only[e];exact aH8 o_ ha h63)
  (by
   have e:n-n=0:=by omega
   simp only[e];exact az [.rw 9 (.bool (decide (((0:Nat):Int)-1>=0))) a_ rfl]) n_
 exact bO this
end
theorem Y9(fZ:iw w va a)(ha:a<18446744073709551616)(h1:nd base a<35184372088832):
  Calls prog 216 #[va] w λe w'=>e=.returned (.int .u64 (a:Int))/\Below w.heap.size w w':=by
 have ao:=dQ (B:=base) d_ a;have hl:∀ s∈[cA.row va (nd base a) (aj (aa base (nd base a) a))],s.OK w:=by intro s hs;simp at hs;subst hs;exact⟨fZ,fq _⟩
 unfold iw at fZ;generalize nd base a=n at *;have e0:a/base^n=0:=lV ao;have e1:a/base^0=a:=by simp
 refine lC (Q:=λe w'=>e=.returned (.int .u64 (a:Int))/\Below w.heap.size w w') mixed func216 [cA.row va n (aj (aa base n a))] hl 100 (N:=21) k_
  (rs:=[(aQ.rw 3 (.int .u64 0) (.int .u64 ((a/base^n:Nat):Int)) (by rw[e0];rfl):aQ prog (ae.at w) 21),.wr 7 .i64 ((n:Int)-1) ((n:Int)-1) (oB o_),.code 0 _ _ _ _ _ (aH9 (n:=n) (a:=a) ha h1)])
  (v:=.int .u64 ((a/base^0:Nat):Int)) (ms:=[]) k_ λav bX v' w' hc bo _ _=>⟨?_,bo.base⟩
 rw[hc.fh rfl,e1]
end Go.Proofs.YthccllenbnhogaaGreatDoor
