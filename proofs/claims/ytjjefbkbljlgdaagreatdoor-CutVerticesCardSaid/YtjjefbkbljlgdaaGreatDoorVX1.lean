/- Vertices after a cut: the proof of CutVerticesCardSaid (the law's function answers true at every record and plane it can be given; theorem cutVertices_card, last part), part 1 of 7; no condition. -/
import Derived.WalkKit
import Derived.Orders
import Derived.KernelRfl
import Derived.Deep.MidRow
import Derived.Below
import Derived.OwnWalk
import Derived.OwnWalkIn
import Derived.OrdersIn
import Derived.LoopNIn
import Derived.TacticsIn
import Derived.LoopN
import Derived.DeepKeys
import Derived.RangeFuncLeaves
import Derived.RangeFuncSeq
import Derived.Lib.SliceRun
import Derived.Shelf.SlSortCmp.WholeK
import Derived.OpenShut
import Derived.ProofKit
import Derived.Carry
import Derived.ChangeOld
import Derived.Deep.DeepHandedRow
import Derived.Test.YtjjefbkbljlgdaaGreatDoorProg
namespace Go.Proofs.YtjjefbkbljlgdaaGreatDoor
open Go Go.RowKit Tryz
theorem k_{p:Prop}(h:p:=by kernel_rfl):p:=h
theorem o_{p:Prop}(h:p:=by omega):p:=h
theorem d_{p:Prop}(h:p:=by decide):p:=h
theorem n_{p:Prop}(h:p:=by nofun):p:=h
theorem s_{p:Prop}(h:p:=by simp):p:=h
abbrev AQ:=@Go.Addr.add_mid
abbrev GQ:=@Array.ext'
abbrev aBv:=@Array.foldl_toList
abbrev qc:=@Array.getD_eq_getD_getElem?
abbrev aC3:=@Array.getElem?_append_left
abbrev yJ:=@Array.getElem?_eq_getElem
abbrev YM:=@Array.getElem?_eq_none
abbrev yO:=@Array.getElem?_eq_some_iff
abbrev Yh:=@Array.getElem?_modify
abbrev R1:=@Array.getElem?_setIfInBounds_ne
abbrev yE:=@Array.length_toList
abbrev MJ:=@Array.mem_toList_iff
abbrev zC:=@Array.toArray_toList
abbrev H8:=@Array.toList_eq_nil_iff
abbrev vu:=@Array.toList_inj
abbrev aHE:=@Array.toList_setIfInBounds
abbrev de:=@Bool.and_eq_true
abbrev Nt:=@Bool.and_false
abbrev wh:=@Bool.and_self
abbrev jq:=@Bool.and_true
abbrev yZ:=@Bool.false_and
abbrev N3:=@Bool.false_bne
abbrev uI:=@Bool.false_eq_true
abbrev vD:=@Bool.false_or
abbrev Pv:=@Bool.not_eq_true
abbrev AZ:=@Bool.not_eq_true'
abbrev Ns:=@Bool.not_false
abbrev J2:=@Bool.not_true
abbrev MP:=@Bool.or_eq_false_iff
abbrev uC:=@Bool.or_eq_true
abbrev lP:=@Bool.true_and
abbrev N4:=@Bool.true_bne
abbrev GW:=@Bool.true_or
abbrev gP:=@Classical.byContradiction
abbrev E3:=@Classical.not_not
abbrev aGB:=@Go.DataW.trod_struct
abbrev RJ:=@Go.RowKit.Below.heap_alloc
abbrev Vu:=@Go.Sort.size_flatK
abbrev aAL:=@Int.add_mul_ediv_right
abbrev aOM:=@Int.add_mul_emod_self_left
abbrev Ol:=@Int.ediv_mul_cancel
abbrev T1:=@Int.eq_of_mul_eq_mul_right
abbrev r6:=@Int.fdiv_eq_ediv_of_nonneg
abbrev Oe:=@Int.lt_trichotomy
abbrev TF:=@Int.mul_comm
abbrev Dh:=@Int.mul_ne_zero
abbrev HB:=@Int.mul_neg
abbrev Ua:=@Int.mul_pos
abbrev aA7:=@Int.natAbs_add_le
abbrev aKs:=@Int.natAbs_ediv_le_natAbs
abbrev uQ:=@Int.natAbs_mul
abbrev Df:=@Int.natAbs_natCast
abbrev Km:=@Int.natAbs_neg
abbrev vJ:=@Int.natCast_add
abbrev tC:=@Int.natCast_ediv
abbrev VL:=@Int.natCast_emod
abbrev om:=@Int.natCast_mul
abbrev Hn:=@Int.natCast_pow
abbrev HA:=@Int.neg_mul
abbrev Kn:=@Int.neg_neg
abbrev N5:=@Int.one_mul
abbrev Hm:=@Int.pow_nonneg
abbrev aKl:=@Int.sign_eq_neg_one_iff_neg
abbrev Fl:=@Int.sign_eq_neg_one_of_neg
abbrev Bz:=@Int.sign_eq_one_of_pos
abbrev aKm:=@Int.sign_eq_zero_iff_zero
abbrev y9:=@Int.tdiv_eq_ediv_of_nonneg
abbrev zf:=@Int.tmod_eq_emod_of_nonneg
abbrev RS:=@Int.toNat_natCast
abbrev db:=@Go.IntKind.wrap_i64
abbrev nP:=@Go.IntKind.wrap_u32
abbrev j5:=@Go.IntKind.wrap_u64
abbrev aAe:=@Go.IntKind.wrap_u8
abbrev aCr:=@List.Pairwise.nil
abbrev dM:=@List.all_cons
abbrev Jb:=@List.all_eq_false
abbrev bh:=@List.all_eq_true
abbrev fH:=@List.all_nil
abbrev JJ:=@List.any_eq_false
abbrev qM:=@List.any_eq_true
abbrev EL:=@List.append_assoc
abbrev jn:=@List.append_nil
abbrev E9:=@List.cons_append
abbrev aG0:=@List.countP_append
abbrev R7:=@List.countP_cons
abbrev Nx:=@List.drop_drop
abbrev Pq:=@List.drop_eq_getElem_cons
abbrev RL:=@List.drop_left'
abbrev mB:=@List.drop_zero
abbrev lK:=@List.eq_nil_of_length_eq_zero
abbrev xa:=@List.ext_getElem
abbrev NO:=@List.ext_getElem?
abbrev aEU:=@List.filter_append
abbrev MU:=@List.filter_cons
abbrev aTd:=@List.findIdx_lt_length_of_exists
abbrev Vb:=@List.flatMap_append
abbrev aCL:=@List.foldl_append
abbrev vA:=@List.foldl_cons
abbrev aCi:=@List.foldl_nil
abbrev TM:=@List.foldr_cons
abbrev TL:=@List.foldr_nil
abbrev EC:=@List.getD_eq_getElem?_getD
abbrev JI:=@List.getElem?_append_left
abbrev ED:=@List.getElem?_append_right
abbrev Et:=@List.getElem?_drop
abbrev bd:=@List.getElem?_eq_getElem
abbrev wP:=@List.getElem?_eq_none
abbrev Z0:=@List.getElem?_eq_none_iff
abbrev eh:=@List.getElem?_eq_some_iff
abbrev AW:=@List.getElem?_map
abbrev Yo:=@List.getElem?_of_mem
abbrev Iq:=@List.getElem?_range
abbrev ur:=@List.getElem?_take
abbrev CE:=@List.getElem_map
abbrev dz:=@List.getElem_mem
abbrev kH:=@List.getElem_of_mem
abbrev CF:=@List.getElem_range
abbrev G3:=@List.getElem_set
abbrev QI:=@List.getElem_take
abbrev O6:=@List.getLast?_cons_cons
abbrev jx:=@List.length_append
abbrev oM:=@List.length_cons
abbrev vt:=@List.length_drop
abbrev aEW:=@List.length_filter_le
abbrev eO:=@List.length_map
abbrev xb:=@List.length_range
abbrev ID:=@List.length_replicate
abbrev Gu:=@List.length_reverse
abbrev VT:=@List.length_set
abbrev BV:=@List.length_singleton
abbrev ji:=@List.length_take
abbrev JR:=@List.mapM_cons
abbrev Ub:=@List.mapM_nil
abbrev rO:=@List.map_append
abbrev yM:=@List.map_congr_left
abbrev qO:=@List.map_cons
abbrev S6:=@List.map_map
abbrev NI:=@List.map_nil
abbrev CD:=@List.map_take
abbrev dX:=@List.mem_append
abbrev pS:=@List.mem_append_left
abbrev yv:=@List.mem_append_right
abbrev ch:=@List.mem_cons
abbrev bE:=@List.mem_cons_of_mem
abbrev aU:=@List.mem_cons_self
abbrev aEV:=@List.mem_filter
abbrev YF:=@List.mem_filterMap
abbrev zR:=@List.mem_flatMap
abbrev di:=@List.mem_map
abbrev cJ:=@List.mem_of_getElem?
abbrev WV:=@List.mem_of_mem_drop
abbrev Ir:=@List.mem_of_mem_take
abbrev kA:=@List.mem_range
abbrev KY:=@List.mem_reverse
abbrev O9:=@List.mem_singleton
abbrev jw:=@List.nil_append
abbrev aF0:=@List.nodup_cons
abbrev iu:=@List.not_mem_nil
abbrev sL:=@List.pairwise_cons
abbrev Qw:=@List.pairwise_iff_getElem
abbrev aB7:=@List.pairwise_reverse
abbrev aB5:=@List.pairwise_singleton
abbrev H0:=@List.range_succ
abbrev vV:=@List.reverse_cons
abbrev aB6:=@List.reverse_eq_nil_iff
abbrev Ve:=@List.set_append_right
abbrev MG:=@List.size_toArray
abbrev sQ:=@List.take_add_one
abbrev aCx:=@List.take_append
abbrev Iz:=@List.take_append_drop
abbrev RQ:=@List.take_left
abbrev RK:=@List.take_left'
abbrev lY:=@List.take_length
abbrev kB:=@List.take_of_length_le
abbrev ME:=@List.take_take
abbrev Z8:=@List.take_zero
abbrev ux:=@Nat.add_assoc
abbrev mW:=@Nat.add_comm
abbrev KL:=@Nat.add_le_add
abbrev LU:=@Nat.add_le_add_right
abbrev Kg:=@Nat.add_mod_right
abbrev fE:=@Nat.add_mul
abbrev JW:=@Nat.add_mul_div_left
abbrev pA:=@Nat.add_mul_div_right
abbrev EY:=@Nat.add_mul_mod_self_left
abbrev C0:=@Nat.add_mul_mod_self_right
abbrev NK:=@Nat.add_sub_cancel
abbrev E8:=@Nat.add_sub_cancel_left
abbrev jv:=@Nat.add_zero
abbrev Nr:=@Nat.and_lt_two_pow
abbrev EN:=@Nat.beq_refl
abbrev MO:=@Nat.ble_eq_true_of_le
abbrev A1:=@Nat.blt_eq
abbrev jm:=@Nat.div_add_mod
abbrev kQ:=@Nat.div_div_eq_div_mul
abbrev mA:=@Nat.div_eq_of_lt
abbrev tD:=@Nat.div_le_self
abbrev iK:=@Nat.div_lt_iff_lt_mul
abbrev Zp:=@Nat.div_lt_self
abbrev C5:=@Nat.div_mul_le_self
abbrev E4:=@Nat.div_one
abbrev NP:=@Nat.div_pos
abbrev HY:=@Nat.dvd_gcd
abbrev KF:=@Nat.dvd_of_mod_eq_zero
abbrev De:=@Nat.dvd_trans
abbrev RB:=@Nat.eq_of_beq_eq_true
abbrev aKr:=@Nat.eq_of_mul_eq_mul_right
abbrev oy:=@Nat.eq_zero_or_pos
abbrev HC:=@Nat.gcd_comm
abbrev BF:=@Nat.gcd_dvd_left
abbrev T0:=@Nat.gcd_dvd_right
abbrev aBf:=@Nat.gcd_le_left
abbrev Ue:=@Nat.gcd_zero_left
abbrev TD:=@Nat.gcd_zero_right
abbrev J8:=@Nat.le_add_right
abbrev Z7:=@Nat.le_antisymm
abbrev C4:=@Nat.le_div_iff_mul_le
abbrev Vn:=@Nat.le_mul_of_pos_left
abbrev E5:=@Nat.le_mul_of_pos_right
abbrev rN:=@Nat.le_of_ble_eq_true
abbrev vn:=@Nat.le_of_eq
abbrev je:=@Nat.le_of_lt
abbrev OS:=@Nat.le_of_not_lt
abbrev bt:=@Nat.le_refl
abbrev yI:=@Nat.le_succ
abbrev NZ:=@Nat.le_total
abbrev dh:=@Nat.le_trans
abbrev aAy:=@Nat.log2_self_le
abbrev e8:=@Nat.lt_of_le_of_lt
abbrev cC:=@Nat.lt_of_lt_of_le
abbrev aJl:=@Nat.lt_of_mul_lt_mul_right
abbrev eL:=@Nat.lt_or_ge
abbrev EG:=@Nat.lt_or_gt_of_ne
abbrev aBw:=@Nat.lt_succ_of_lt
abbrev Bo:=@Nat.lt_succ_self
abbrev mC:=@Nat.lt_trans
abbrev tf:=@Nat.lt_trichotomy
abbrev aDU:=@Nat.max_eq_left
abbrev aDT:=@Nat.max_eq_right
abbrev oq:=@Nat.min_eq_left
abbrev VO:=@Nat.min_eq_right
abbrev dK:=@Nat.mod_eq_of_lt
abbrev JX:=@Nat.mod_le
abbrev cL:=@Nat.mod_lt
abbrev Ng:=@Nat.mod_mul
abbrev Bd:=@Nat.mod_mul_right_div_self
abbrev J5:=@Nat.mod_mul_right_mod
abbrev tB:=@Nat.mod_one
abbrev TY:=@Nat.mod_two_eq_zero_or_one
abbrev oS:=@Nat.mul_add
abbrev fO:=@Nat.mul_assoc
abbrev cS:=@Nat.mul_comm
abbrev SH:=@Nat.mul_div_cancel
abbrev aAv:=@Nat.mul_div_mul_right
abbrev y8:=@Nat.mul_le_mul
abbrev jz:=@Nat.mul_le_mul_left
abbrev fo:=@Nat.mul_le_mul_right
abbrev mX:=@Nat.mul_left_comm
abbrev qe:=@Nat.mul_lt_mul''
abbrev aAw:=@Nat.mul_lt_mul_of_lt_of_le
abbrev Zt:=@Nat.mul_lt_mul_of_pos_left
abbrev Bn:=@Nat.mul_lt_mul_of_pos_right
abbrev KE:=@Nat.mul_mod
abbrev Zs:=@Nat.mul_mod_left
abbrev aAu:=@Nat.mul_mod_mul_right
abbrev fX:=@Nat.mul_one
abbrev qS:=@Nat.mul_pos
abbrev Bq:=@Nat.mul_right_comm
abbrev Nj:=@Nat.mul_succ
abbrev Kf:=@Nat.not_lt
abbrev qf:=@Nat.one_mul
abbrev ZC:=@Nat.or_lt_two_pow
abbrev tA:=@Nat.pos_of_ne_zero
abbrev eD:=@Nat.pow_add
abbrev aAG:=@Nat.pow_le_pow_left
abbrev c9:=@Nat.pow_le_pow_right
abbrev r8:=@Nat.pow_mul
abbrev CV:=@Nat.pow_one
abbrev cK:=@Nat.pow_pos
abbrev dy:=@Nat.pow_succ
abbrev r7:=@Nat.pow_zero
abbrev BB:=@Nat.sub_le
abbrev vG:=@Nat.sub_self
abbrev GY:=@Nat.sub_zero
abbrev yS:=@Nat.succ_mul
abbrev Tq:=@Nat.succ_pos
abbrev YO:=@Nat.testBit_or
abbrev Nw:=@Nat.two_pow_add_eq_or_of_lt
abbrev ZB:=@Nat.xor_lt_two_pow
abbrev kh:=@Nat.zero_add
abbrev lh:=@Nat.zero_le
abbrev lN:=@Nat.zero_mul
abbrev mP:=@Ne.symm
abbrev Mx:=@Go.Oper.semAt_eq
abbrev aGF:=@Option.bind_eq_some_iff
abbrev YH:=@Option.bind_some
abbrev aBC:=@Option.map_none
abbrev RF:=@Option.map_some
abbrev T4:=@Rat.divInt_add_divInt
abbrev BG:=@Rat.divInt_eq_div
abbrev Fx:=@Rat.div_def
abbrev aAZ:=@Rat.div_mul_cancel
abbrev Oq:=@Rat.intCast_add
abbrev Dd:=@Rat.intCast_mul
abbrev aBa:=@Rat.intCast_sub
abbrev HX:=@Rat.mul_inv_cancel
abbrev TX:=@Rat.mul_pos
abbrev aA6:=@Rat.num_divInt_den
abbrev Jz:=@Go.Sem.run_bind
abbrev Ny:=@UInt8.toNat_inj
abbrev NF:=@UInt8.toNat_ofNat'
abbrev aBq:=@Go.World.putObj_heap_other
abbrev vP:=@Go.World.putObj_size
abbrev uG:=@bne_iff_ne
abbrev cM:=@congrArg
abbrev oQ:=@decide_eq_decide
abbrev aJ:=@decide_eq_false
abbrev ZR:=@decide_eq_false_iff_not
abbrev aB:=@decide_eq_true
abbrev rU:=@decide_eq_true_eq
abbrev BU:=@decide_eq_true_iff
abbrev B3:=@getElem!_pos
abbrev Yu:=@Go.grownCap_le_maxLen
abbrev uJ:=@if_false
abbrev au:=@if_neg
abbrev ax:=@if_pos
abbrev qG:=@if_true
abbrev HD:=@of_decide_eq_false
abbrev kW:=@of_decide_eq_true
abbrev iv:=@or_false
abbrev EO:=@Go.roundsIn_succ
abbrev iS:=@Go.run_underlying
abbrev MC:=@Go.size_zeroCells
abbrev JM:=@Go.wpIn_block
abbrev Sq:=@Go.wpIn_loop_rounds
abbrev JN:=@Go.wpIn_ret
abbrev lM:=@Go.wpIn_seq
def mN(a:Addr):Bool:=match a.spot with|some _=>false|none=>true
def l9:Value->Bool
 |.pointer (some a)=>mN a
 |.slice (some a) _ _=>mN a
 |.agg _=>false
 |.tuple _=>false
 |.func _ _ _=>false
 |_=>true
def od:Value->Bool
 |.func _ fi ca=>fi.toList.all l9&&ca.toList.all l9
 |v=>l9 v
def qE:Value->Bool
 |.agg cs=>cs.toList.all od
 |v=>od v
def flat:Value->Bool
 |.tuple vs=>vs.toList.all qE
 |v=>qE v
inductive bL{α β:Type}(R:α->β->Prop):List α->List β->Prop
 |nil:bL R [] []
 |cons {a b l m}:R a b->bL R l m->bL R (a::l) (b::m)
inductive po where
 |at (b o cap:Nat)
 |nil
 |val (v:Value)
abbrev Map:=Nat->Option po
def Map.le(ι κ:Map):Prop:=∀ k l,ι k=some l->κ k=some l
theorem Map.le.refl(ι:Map):Map.le ι ι:=λ_ _ h=>h
theorem Map.le.trans{a b c:Map}(h:Map.le a b)(k:Map.le b c):Map.le a c:=λi l e=>k i l (h i l e)
inductive aG(ι:Map):Value->Value->Prop
 |same {v}:flat v=true->aG ι v v
 |ptr {k off b o cap}:ι k=some (.at b o cap)->aG ι (.pointer (some ⟨k,off,some 7⟩)) (.pointer (some ⟨b,o+off,none⟩))
 |slc {k off b o n c c' cap}:ι k=some (.at b o cap)->n<=c'->c+c'=cap->aG ι (.slice (some ⟨k,off,some 7⟩) n c) (.slice (some ⟨b,o+off,none⟩) n c')
 |slcN {k}:ι k=some .nil->aG ι (.slice (some ⟨k,0,some 7⟩) 0 0) (.slice none 0 0)
 |opq {k v}:ι k=some (.val v)->v.cells=#[v]->v.oneCell'=true->aG ι (.pointer (some ⟨k,0,some 9⟩)) v
 |fn {f fi kv ca fe}:bL (aG ι) fi kv->bL (aG ι) ca fe->aG ι (.func f fi.toArray ca.toArray) (.func f kv.toArray fe.toArray)
 |agg {cs bA}:bL (aG ι) cs bA->aG ι (.agg cs.toArray) (.agg bA.toArray)
 |tup {vs cP}:bL (aG ι) vs cP->aG ι (.tuple vs.toArray) (.tuple cP.toArray)
theorem bL.imp{α β:Type}{R R':α->β->Prop}:∀{l:List α} {m:List β},bL R l m->(∀ a∈l,∀ b,R a b->R' a b)->bL R' l m
 |_,_,.nil,_=>.nil
 |_,_,.cons h t,k=>.cons (k _ (aU ..) _ h) (t.imp λa ha=>k a (bE _ ha))
theorem bL.length{α β:Type}{R:α->β->Prop}:∀{l:List α} {m:List β},bL R l m->l.length=m.length
 |_,_,.nil=>rfl
 |_,_,.cons _ t=>by simp[t.length]
theorem bL.get{α β:Type}{R:α->β->Prop}:∀{l:List α} {m:List β},bL R l m->∀(i:Nat) a,l[i]?=some a->∃ b,m[i]?=some b/\R a b
 |_,_,.nil,i,a,h=>by simp at h
 |_,_,.cons h t,0,a,e=>⟨_,rfl,by simp at e;exact e▸h⟩
 |_,_,.cons _ t,i+1,a,e=>by simpa using t.get i a (by simpa using e)
theorem bL.get'{α β:Type}{R:α->β->Prop}:∀{l:List α} {m:List β},bL R l m->∀(i:Nat) b,m[i]?=some b->∃ a,l[i]?=some a/\R a b
 |_,_,.nil,i,a,h=>by simp at h
 |_,_,.cons h t,0,a,e=>⟨_,rfl,by simp at e;exact e▸h⟩
 |_,_,.cons _ t,i+1,a,e=>by simpa using t.get' i a (by simpa using e)
theorem bL.set{α β:Type}{R:α->β->Prop}{a:α}{b:β}(h:R a b):∀{l:List α} {m:List β},bL R l m->∀(i:Nat),bL R (l.set i a) (m.set i b)
 |_,_,.nil,i=>by simpa using .nil
 |_,_,.cons _ t,0=>.cons h t
 |_,_,.cons k t,i+1=>.cons k (t.set h i)
theorem bL.append{α β:Type}{R:α->β->Prop}:∀{l:List α} {m:List β},bL R l m->∀{l' m'},bL R l' m'->bL R (l++l') (m++m')
 |_,_,.nil,_,_,h=>h
 |_,_,.cons k t,_,_,h=>.cons k (t.append h)
theorem bL.take{α β:Type}{R:α->β->Prop}:∀{l:List α} {m:List β},bL R l m->∀(n:Nat),bL R (l.take n) (m.take n)
 |_,_,.nil,n=>by simpa using .nil
 |_,_,.cons k t,0=>.nil
 |_,_,.cons k t,n+1=>.cons k (t.take n)
theorem bL.drop{α β:Type}{R:α->β->Prop}:∀{l:List α} {m:List β},bL R l m->∀(n:Nat),bL R (l.drop n) (m.drop n)
 |_,_,.nil,n=>by simpa using .nil
 |_,_,.cons k t,0=>.cons k t
 |_,_,.cons k t,n+1=>t.drop n
theorem Mu{v:Value}(h:od v=true):flat v=true:=by cases v<;>first|exact h|(simp[od,l9]at h)
theorem Mv{v:Value}(h:l9 v=true):od v=true:=by cases v<;>first|exact h|(simp[l9]at h)
theorem aHd{v:Value}(h:qE v=true):flat v=true:=by cases v<;>first|exact h|(simp[qE,od,l9]at h)
theorem Yb{cs:Array Value}(h:flat (.agg cs)=true):∀ c∈cs.toList,flat c=true:=by simp only[flat,qE,bh]at h;exact λc hc=>Mu (h c hc)
theorem aHe{cs:Array Value}(h:flat (.tuple cs)=true):∀ c∈cs.toList,flat c=true:=by simp only[flat,bh]at h;exact λc hc=>aHd (h c hc)
theorem Yc{f:Fn}{fi ca:Array Value}(h:flat (.func f fi ca)=true):(∀ c∈fi.toList,flat c=true)/\(∀ c∈ca.toList,flat c=true):=by simp only[flat,qE,od,de,bh]at h;exact⟨λc hc=>Mu (Mv (h.1 c hc)),λc hc=>Mu (Mv (h.2 c hc))⟩
abbrev aj:=List Value
theorem kx{ι:Map}:∀{l:aj},(∀ c∈l,flat c=true)->bL (aG ι) l l
 |[],_=>.nil
 |c::l,h=>.cons (.same (h c (aU ..))) (kx λc hc=>h c (bE _ hc))
theorem aG.eY{ι:Map}{v v':Value}(h:aG ι v v')(hf:flat v=true):v'=v:=by
 suffices H:∀ v v',aG ι v v'->flat v=true->v'=v from H v v' h hf
 have hP:∀ v v',aG ι v v'->l9 v=true->v'=v:=by
  intro v v' h hf;cases h with
  |same _=>rfl
  |_=>simp[l9,mN]at hf
 have uk:∀(Q:Value->Bool),(∀ v v',aG ι v v'->Q v=true->v'=v)->∀ l l',bL (aG ι) l l'->(∀ c∈l,Q c=true)->l'=l:=by
  intro Q hQ l l' h;induction h with
  |nil=>intro _;rfl
  |cons h t ih=>
   intro hl;rw[hQ _ _ h (hl _ (aU ..)),ih λc hc=>hl c (bE _ hc)]
 have h0:∀ v v',aG ι v v'->od v=true->v'=v:=by
  intro v v' h hf;cases h with
  |same _=>rfl
  |fn h1 h2=>
   simp only[od,de,bh]at hf;rw[uk l9 hP _ _ h1 hf.1,uk l9 hP _ _ h2 hf.2]
  |_=>simp[od,l9,mN]at hf
 have h1:∀ v v',aG ι v v'->qE v=true->v'=v:=by
  intro v v' h hf;cases h with
  |same _=>rfl
  |fn a b=>exact h0 _ _ (.fn a b) hf
  |agg h1=>
   simp only[qE,bh]at hf;rw[uk od h0 _ _ h1 hf]
  |_=>simp[qE,od,l9,mN]at hf
 intro v v' h hf;cases h with
 |same _=>rfl
 |fn a b=>exact h0 _ _ (.fn a b) hf
 |agg a=>exact h1 _ _ (.agg a) hf
 |tup a=>
  simp only[flat,bh]at hf;rw[uk qE h1 _ _ a hf]
 |_=>simp[flat,qE,od,l9,mN]at hf
theorem aG.mono{ι κ:Map}(hle:Map.le ι κ){v v':Value}(h:aG ι v v'):aG κ v v':=by
 apply aG.rec (motive_1:=λv v' _=>aG κ v v') (motive_2:=λl l' _=>bL (aG κ) l l') (t:=h)
 case same=>intro v h;exact .same h
 case ptr=>intro k off b o cap h;exact .ptr (hle _ _ h)
 case slc=>intro k off b o n c c' cap h h1 h2;exact .slc (hle _ _ h) h1 h2
 case slcN=>intro k h;exact .slcN (hle _ _ h)
 case opq=>intro k v h h1 h2;exact .opq (hle _ _ h) h1 h2
 case fn=>intro f fi kv ca fe _ _ h1 h2;exact .fn h1 h2
 case agg=>intro cs bA _ h;exact .agg h
 case tup=>intro cs bA _ h;exact .tup h
 case nil=>exact .nil
 case cons=>intro a b l m _ _ h1 h2;exact .cons h1 h2
theorem oe{ι κ:Map}(hle:Map.le ι κ){l l':aj}(h:bL (aG ι) l l'):bL (aG κ) l l':=h.imp λ_ _ _ h=>h.mono hle
def nH(a:Addr):Bool:=match a.spot with|some s=>Nat.beq s 7|none=>false
theorem Js{a:Addr}(h:nH a=true):a.spot=some 7:=by
 unfold nH at h;split at h
 ·rename_i s hs;rw[hs,RB h]
 ·cases h
theorem RC{a:Addr}(h:nH a=true):mN a=false:=by unfold mN;rw[Js h]
theorem aG.yB{ι:Map}{a:Addr}{v':Value}(h:aG ι (.pointer (some a)) v')(ho:nH a=true):∃ b o cap,ι a.block=some (.at b o cap)/\v'=.pointer (some ⟨b,o+a.off,none⟩):=by
 cases h with
 |same hf=>simp[flat,qE,od,l9,RC ho]at hf
 |ptr hb=>exact⟨_,_,_,hb,rfl⟩
 |opq _ _ _=>cases ho
theorem aG.iw{ι:Map}{a:Addr}{n c:Nat}{v':Value}(h:aG ι (.slice (some a) n c) v')(ho:nH a=true):
  (ι a.block=some .nil/\n=0/\c=0/\a.off=0/\v'=.slice none 0 0)\/∃ b o cap c',ι a.block=some (.at b o cap)/\n<=c'/\c+c'=cap/\v'=.slice (some ⟨b,o+a.off,none⟩) n c':=by
 cases h with
 |same hf=>simp[flat,qE,od,l9,RC ho]at hf
 |slc hb h1 h2=>exact .inr ⟨_,_,_,_,hb,h1,h2,rfl⟩
 |slcN hb=>exact .inl ⟨hb,rfl,rfl,rfl,rfl⟩
theorem aG.bool{ι:Map}{b:Bool}{v':Value}(h:aG ι (.bool b) v'):v'=.bool b:=h.eY rfl
theorem aG.um{ι:Map}{vs:Array Value}{v':Value}(h:aG ι (.tuple vs) v'):∃ cP,v'=.tuple cP/\bL (aG ι) vs.toList cP.toList:=by
 cases h with
 |same hf=>exact⟨vs,rfl,kx (aHe hf)⟩
 |tup h=>exact⟨_,rfl,by simpa using h⟩
theorem aG.Jt{ι:Map}{vs:Array Value}{v':Value}(h:aG ι (.agg vs) v'):∃ cP,v'=.agg cP/\bL (aG ι) vs.toList cP.toList:=by
 cases h with
 |same hf=>exact⟨vs,rfl,kx (Yb hf)⟩
 |agg h=>exact⟨_,rfl,by simpa using h⟩
theorem aG.Co{ι:Map}{f:Fn}{fi ca:Array Value}{v':Value}(h:aG ι (.func f fi ca) v'):∃ kv fe,v'=.func f kv fe/\bL (aG ι) fi.toList kv.toList/\bL (aG ι) ca.toList fe.toList:=by
 cases h with
 |same hf=>exact⟨fi,ca,rfl,kx (Yc hf).1,kx (Yc hf).2⟩
 |fn h1 h2=>exact⟨_,_,rfl,by simpa using h1,by simpa using h2⟩
theorem aG.cells{ι:Map}{v v':Value}(h:aG ι v v'):bL (aG ι) v.cells.toList v'.cells.toList:=by
 cases h with
 |same hf=>
  apply kx;cases v<;>first|(intro c hc;simp[Value.cells]at hc;subst hc;exact hf)|exact Yb hf
 |ptr hb=>exact .cons (.ptr hb) .nil
 |slc hb h1 h2=>exact .cons (.slc hb h1 h2) .nil
 |slcN hb=>exact .cons (.slcN hb) .nil
 |opq hb h1 h2=>rw[h1];exact .cons (.opq hb h1 h2) .nil
 |fn a b=>exact .cons (.fn a b) .nil
 |agg h=>simpa[Value.cells]using h
 |tup h=>exact .cons (.tup h) .nil
theorem aG.Yd{ι:Map}{v v':Value}(h:aG ι v v'):v'.oneCell'=v.oneCell':=by
 cases h with
 |opq _ _ h=>rw[h];rfl
 |_=>rfl
def GL:Value:=.tuple #[.tuple #[]]
def mf:Value->Bool
 |.tuple vs=>match vs.toList with|[.tuple us]=>Nat.beq us.size 0|_=>false
 |_=>false
def nI(ι:Map)(v v':Value):Prop:=mf v=true\/aG ι v v'
theorem nI.AO{ι:Map}{v v':Value}(h:nI ι v v')(hn:mf v=false):aG ι v v':=by
 rcases h with h|h
 ·rw[hn]at h;cases h
 ·exact h
theorem nI.mono{ι κ:Map}(hle:Map.le ι κ){v v':Value}(h:nI ι v v'):nI κ v v':=h.imp id (aG.mono hle)
def tj(w w':World):Prop:=w'.os=w.os/\w.drawn<=w'.drawn
theorem tj.refl(w:World):tj w w:=⟨rfl,bt _⟩
theorem tj.trans{a b c:World}(h:tj b c)(k:tj a b):tj a c:=⟨h.1.trans k.1,dh k.2 h.2⟩
structure Below(B:Nat)(w w':World):Prop where
 os:tj w w'
 tape:w'.tape=w.tape
 output:w'.output=w.output
 size:w.heap.size<=w'.heap.size
 block:∀ k,k<B->w'.heap[k]?=w.heap[k]?
theorem Below.Ju{B:Nat}{w w':World}(h:Below B w w'):Go.RowKit.Below B w w':=⟨h.os.1,h.tape,h.output,h.size,h.block⟩
theorem Below.refl(B:Nat)(w:World):Below B w w:=⟨.refl w,rfl,rfl,bt _,λ_ _=>rfl⟩
theorem Below.cell{B:Nat}{w w':World}(h:Below B w w'){p:Addr}(hp:p.block<B):w'.cell? p=w.cell? p:=h.Ju.cell hp
theorem Below.alloc{B:Nat}{a w:World}(h:Below B a w)(hB:B<=w.heap.size)(o:Go.Obj):Below B a (w.alloc o):=
 have k:=h.Ju.alloc hB o
 ⟨⟨k.os,h.os.2⟩,k.tape,k.output,k.size,k.block⟩
structure Fact where
 G:Value->World->Prop
 cR:Value->World->Nat->Prop
 lt:∀ v w k,G v w->cR v w k->k<w.heap.size
 dep:∀ v w w',G v w->w.heap.size<=w'.heap.size->(∀ k,cR v w k->w'.heap[k]?=w.heap[k]?)->G v w'/\∀ k,cR v w' k->cR v w k
 rc:Bool:=false
 soft:rc=false->∀ v w w',G v w->w.heap.size<=w'.heap.size->(∀ k,cR v w k->∀ cs ty f,w.heap[k]?=some (Go.Obj.cells cs ty f)->w'.heap[k]?=some (Go.Obj.cells cs ty f))->G v w'/\∀ k,cR v w' k->cR v w k
structure aa where
 G:World->Prop
 cR:Nat->Prop
 ds:List Deferred:=[]
 Fa:Fact->Prop:=λ_=>False
 mp:Map:=λ_=>none
 lt:∀ w k,G w->cR k->k<w.heap.size
 dep:∀ w w',G w->tj w w'->w'.tape=w.tape->w'.output=w.output->w.heap.size<=w'.heap.size->(∀ k,cR k->w'.heap[k]?=w.heap[k]?)->G w'
def aa.at(w0:World):aa where
 G w:=Below w0.heap.size w0 w
 cR k:=k<w0.heap.size
 lt w k h hk:=cC hk h.size
 dep w w' h h1 h2 h3 h4 h5:=⟨h1.trans h.os,h2.trans h.tape,h3.trans h.output,dh h.size h4,λk hk=>(h5 k hk).trans (h.block k hk)⟩
inductive Obj where
 |aI (cells:aj) (ty:TypeId)
 |row (cells:aj) (ty:TypeId) (size:Nat)
 |view (cells:aj)
 |fact (F:Fact)
 |dead
def Obj.owns:Obj->Bool
 |.aI _ _=>true
 |.row _ _ _=>true
 |_=>false
def jG(ι:Map)(w:World)(l:po):Obj->Prop
 |.aI cells ty=>∃ b bA,l=.at b 0 0/\bL (aG ι) cells bA/\w.heap[b]?=some (.cells bA.toArray ty (0,0))
 |.row cells ty size=>(l=.nil/\cells=[])\/∃ b cap cur,l=.at b 0 cap/\w.heap[b]?=some (.cells cur ty (0,0))/\cap<=maxLen/\cur.size=cap*size/\bL (aG ι) cells (cur.toList.take cells.length)
 |.view cells=>(l=.nil/\cells=[])\/∃ b o cap bA,l=.at b o cap/\bL (aG ι) cells bA/\∀ j u,bA[j]?=some u->w.cell? ⟨b,o+j,none⟩=some u
 |.fact F=>∃ v,l=.val v/\F.G v w
 |.dead=>True
def Obj.gw:Obj->Bool
 |.view _=>true
 |_=>false
structure aO(B:aa)(ι:Map)(c:Nat->Option Obj)(w:World):Prop where
 base:B.G w
 du:∀ k,c k=none->ι k=none
 born:∀ k x,c k=some x->∃ l,ι k=some l/\jG ι w l x
 own:∀ k x b o cap,c k=some x->x.owns=true->ι k=some (.at b o cap)->b<w.heap.size/\¬B.cR b
 inj:∀ k j x y b o cap o' aQ,c k=some x->x.owns=true->c j=some y->y.owns=true->ι k=some (.at b o cap)->ι j=some (.at b o' aQ)->k=j
 apart:∀ k j x F b o cap v,c k=some x->x.owns=true->ι k=some (.at b o cap)->c j=some (.fact F)->ι j=some (.val v)->¬F.cR v w b
 seen:∀ k x b o cap,c k=some x->x.gw=true->ι k=some (.at b o cap)->b<w.heap.size/\∀ j y o' aQ,c j=some y->y.owns=true->ι j≠some (.at b o' aQ)
 fa:∀ j F,c j=some (.fact F)->F.rc=true->B.Fa F
 one:∀ j k F F',c j=some (.fact F)->c k=some (.fact F')->F.rc=true->F'.rc=true->j=k
 oL:Map.le B.mp ι
theorem jG.mono{ι κ:Map}(hle:Map.le ι κ){w:World}{l:po}{x:Obj}(h:jG ι w l x):jG κ w l x:=by
 cases x with
 |aI cells ty=>obtain⟨b,bA,h1,h2,h3⟩:=h;exact⟨b,bA,h1,oe hle h2,h3⟩
 |row cells ty size=>
  rcases h with h|⟨b,cap,cur,h1,h2,h3,h4,h5⟩
  ·exact .inl h
  ·exact .inr ⟨b,cap,cur,h1,h2,h3,h4,oe hle h5⟩
 |view cells=>
  rcases h with h|⟨b,o,cap,bA,h1,h2,h3⟩
  ·exact .inl h
  ·exact .inr ⟨b,o,cap,bA,h1,oe hle h2,h3⟩
 |fact F=>exact h
 |dead=>trivial
theorem jG.gM{ι:Map}{w w':World}{l:po}{x:Obj}(h:jG ι w l x)(hs:w.heap.size<=w'.heap.size)
  (hb:∀ b o cap,x.owns=true\/x.gw=true->l=.at b o cap->w'.heap[b]?=w.heap[b]?) (hf:∀ F v b,x=.fact F->l=.val v->F.cR v w b->w'.heap[b]?=w.heap[b]?):jG ι w' l x:=by
 cases x with
 |aI cells ty=>obtain⟨b,bA,h1,h2,h3⟩:=h;exact⟨b,bA,h1,h2,by rw[hb b 0 0 (.inl rfl) h1];exact h3⟩
 |row cells ty size=>
  rcases h with h|⟨b,cap,cur,h1,h2,h3,h4,h5⟩
  ·exact .inl h
  ·exact .inr ⟨b,cap,cur,h1,by rw[hb b 0 cap (.inl rfl) h1];exact h2,h3,h4,h5⟩
 |view cells=>
  rcases h with h|⟨b,o,cap,bA,h1,h2,h3⟩
  ·exact .inl h
  ·exact .inr ⟨b,o,cap,bA,h1,h2,λj u hj=>by rw[World.cell?_of_block (w:=w) (w':=w') (a:=⟨b,o+j,none⟩) (hb b o cap (.inr rfl) h1)];exact h3 j u hj⟩
 |fact F=>obtain⟨v,h1,h2⟩:=h;exact⟨v,h1,(F.dep v w w' h2 hs λk hk=>hf F v k rfl h1 hk).1⟩
 |dead=>trivial
theorem jG.wM{ι:Map}{w:World}{l:po}{F:Fact}{v:Value}(h:jG ι w l (.fact F))(hl:l=.val v){b:Nat}(hb:F.cR v w b):b<w.heap.size:=by obtain⟨v',h1,h2⟩:=h;rw[hl]at h1;injection h1 with h1;subst h1;exact F.lt _ w b h2 hb
theorem aO.Cp{B:aa}{ι:Map}{c:Nat->Option Obj}{w w':World}(h:aO B ι c w){j:Nat}{F:Fact}{v:Value}(hj:c j=some (.fact F))(hv:ι j=some (.val v))(hs:w.heap.size<=w'.heap.size)
  (AP:∀ k,k<w.heap.size->F.cR v w k->w'.heap[k]?=w.heap[k]?) {b:Nat} (hF:F.cR v w' b):F.cR v w b:=by
 obtain⟨l,q1,v',q2,q3⟩:=h.born j _ hj;rw[hv]at q1;injection q1 with q1;subst q1;injection q2 with q2;subst q2;exact(F.dep v w w' q3 hs λk hk=>AP k (F.lt v w k q3 hk) hk).2 b hF
theorem aO.call{B:aa}{ι:Map}{c:Nat->Option Obj}{w w':World}(h:aO B ι c w)(hb:Below w.heap.size w w'):aO B ι c w' where
 base:=B.dep w w' h.base hb.os hb.tape hb.output hb.size λk hk=>hb.block k (B.lt w k h.base hk)
 du:=h.du
 born k x hk:=by
  obtain⟨l,h1,h2⟩:=h.born k x hk;refine⟨l,h1,h2.gM hb.size (λb o cap hx hl=>?_) λF v b hx hl hf=>?_⟩
  ·rcases hx with hx|hx
   ·exact hb.block b (h.own k x b o cap hk hx (by rw[h1,hl])).1
   ·exact hb.block b (h.seen k x b o cap hk hx (by rw[h1,hl])).1
  ·subst hx;exact hb.block b (h2.wM hl hf)
 own k x b o cap hk hx hl:=⟨cC (h.own k x b o cap hk hx hl).1 hb.size,(h.own k x b o cap hk hx hl).2⟩
 inj:=h.inj
 apart k j x F b o cap v hk hx hl hj hv hF:=h.apart k j x F b o cap v hk hx hl hj hv (h.Cp hj hv hb.size (λk hk _=>hb.block k hk) hF)
 seen k x b o cap hk hx hl:=⟨cC (h.seen k x b o cap hk hx hl).1 hb.size,(h.seen k x b o cap hk hx hl).2⟩
 fa:=h.fa
 one:=h.one
 oL:=h.oL
def aZ(c:Nat->Option Obj)(k:Nat)(x:Obj):Nat->Option Obj:=λj=>if j=k then some x else c j
def dG(ι:Map)(k:Nat)(l:po):Map:=λj=>if j=k then some l else ι j
theorem gN{ι:Map}{k:Nat}{l:po}(h:ι k=none):Map.le ι (dG ι k l):=λj m e=>by
 unfold dG;by_cases hj:j=k
 ·subst hj;rw[h]at e;cases e
 ·rw[au hj];exact e
theorem fK(ι:Map)(k:Nat)(l:po):dG ι k l k=some l:=by simp[dG]
theorem aO.add{B:aa}{ι:Map}{c:Nat->Option Obj}{w:World}(h:aO B ι c w){k:Nat}(hk:c k=none){x:Obj}{l:po}(hx:jG (dG ι k l) w l x)
  (dO:∀ b o cap,x.owns=true->l=.at b o cap->b<w.heap.size/\¬B.cR b/\(∀ j y o' aQ,c j=some y->y.owns=true->ι j≠some (.at b o' aQ))/\(∀ j F v,c j=some (.fact F)->ι j=some (.val v)->¬F.cR v w b)/\(∀ j y o' aQ,c j=some y->y.gw=true->ι j≠some (.at b o' aQ)))
  (Jv:∀ F v b,x=.fact F->l=.val v->F.cR v w b->∀ j y o' aQ,c j=some y->y.owns=true->ι j≠some (.at b o' aQ))
  (aHf:∀ b o cap,x.gw=true->l=.at b o cap->b<w.heap.size/\∀ j y o' aQ,c j=some y->y.owns=true->ι j≠some (.at b o' aQ)) (oh:∀ F,x=.fact F->F.rc=true->(B.Fa F/\∀ j F',c j=some (.fact F')->F'.rc=false):=by intro F e;cases e):aO B (dG ι k l) (aZ c k x) w:=by
 have qF:=h.du k hk;have hle:=gN (l:=l) qF;have cZ:∀ j y,j≠k->aZ c k x j=some y->c j=some y:=λj y hj e=>by unfold aZ at e;rw[au hj]at e;exact e
 have uo:∀ j m,j≠k->dG ι k l j=some m->ι j=some m:=λj m hj e=>by unfold dG at e;rw[au hj]at e;exact e
 have new:∀ y,aZ c k x k=some y->y=x:=λy e=>by unfold aZ at e;rw[ax rfl]at e;injection e with e;exact e.symm
 have mg:∀ m,dG ι k l k=some m->m=l:=λm e=>by rw[fK]at e;injection e with e;exact e.symm
 refine⟨h.base,?_,?_,?_,?_,?_,?_,?_,?_,h.oL.trans hle⟩
 ·intro j hj;unfold aZ at hj;unfold dG;by_cases bO:j=k
  ·rw[ax bO]at hj;cases hj
  ·rw[au bO]at hj ⊢;exact h.du j hj
 ·intro j y hj;by_cases bO:j=k
  ·subst bO;rw[new y hj];exact⟨l,fK _ _ _,hx⟩
  ·obtain⟨m,h1,h2⟩:=h.born j y (cZ j y bO hj);exact⟨m,hle _ _ h1,h2.mono hle⟩
 ·intro j y b o cap hj hy hl;by_cases bO:j=k
  ·subst bO;rw[new y hj]at hy;have:=dO b o cap hy (mg _ hl).symm;exact⟨this.1,this.2.1⟩
  ·exact h.own j y b o cap (cZ j y bO hj) hy (uo _ _ bO hl)
 ·intro i j y z b o cap o' aQ hi hy hj hz hl hm;by_cases eZ:i=k<;>by_cases bO:j=k
  ·rw[eZ,bO]
  ·exfalso;subst eZ;rw[new y hi]at hy;exact(dO b o cap hy (mg _ hl).symm).2.2.1 j z o' aQ (cZ j z bO hj) hz (uo _ _ bO hm)
  ·exfalso;subst bO;rw[new z hj]at hz;exact(dO b o' aQ hz (mg _ hm).symm).2.2.1 i y o cap (cZ i y eZ hi) hy (uo _ _ eZ hl)
  ·exact h.inj i j y z b o cap o' aQ (cZ i y eZ hi) hy (cZ j z bO hj) hz (uo _ _ eZ hl) (uo _ _ bO hm)
 ·intro i j y F b o cap v hi hy hl hj hv hF;by_cases eZ:i=k<;>by_cases bO:j=k
  ·subst eZ;subst bO;have e:y=.fact F:=(new y hi).trans (new _ hj).symm;rw[e]at hy;cases hy
  ·subst eZ;rw[new y hi]at hy;exact(dO b o cap hy (mg _ hl).symm).2.2.2.1 j F v (cZ j _ bO hj) (uo _ _ bO hv) hF
  ·subst bO;exact Jv F v b (new _ hj).symm (mg _ hv).symm hF i y o cap (cZ i y eZ hi) hy (uo _ _ eZ hl)
  ·exact h.apart i j y F b o cap v (cZ i y eZ hi) hy (uo _ _ eZ hl) (cZ j _ bO hj) (uo _ _ bO hv) hF
 ·intro j y b o cap hj hy hl;by_cases bO:j=k
  ·subst bO;rw[new y hj]at hy;obtain⟨q1,q2⟩:=aHf b o cap hy (mg _ hl).symm;refine⟨q1,λi z o' aQ hi hz hm=>?_⟩;by_cases kN:i=j
   ·subst kN;rw[new z hi]at hz;cases x<;>simp[Obj.owns,Obj.gw]at hy hz
   ·exact q2 i z o' aQ (cZ i z kN hi) hz (uo _ _ kN hm)
  ·obtain⟨q1,q2⟩:=h.seen j y b o cap (cZ j y bO hj) hy (uo _ _ bO hl);refine⟨q1,λi z o' aQ hi hz hm=>?_⟩;by_cases eZ:i=k
   ·subst eZ;rw[new z hi]at hz;exact(dO b o' aQ hz (mg _ hm).symm).2.2.2.2 j y o cap (cZ j y bO hj) hy (uo _ _ bO hl)
   ·exact q2 i z o' aQ (cZ i z eZ hi) hz (uo _ _ eZ hm)
 ·intro j F hj;by_cases bO:j=k
  ·subst bO;exact λwO=>(oh F (new _ hj).symm wO).1
  ·exact h.fa j F (cZ j _ bO hj)
 ·intro i j F F' hi hj hr tn;by_cases eZ:i=k<;>by_cases bO:j=k
  ·rw[eZ,bO]
  ·subst eZ;have:=(oh F (new _ hi).symm hr).2 j F' (cZ j _ bO hj);rw[tn]at this;cases this
  ·subst bO;have:=(oh F' (new _ hj).symm tn).2 i F (cZ i _ eZ hi);rw[hr]at this;cases this
  ·exact h.one i j F F' (cZ i _ eZ hi) (cZ j _ bO hj) hr tn
theorem aO.new{B:aa}{ι:Map}{c:Nat->Option Obj}{w w':World}(h:aO B ι c w)(hb:Below w.heap.size w w'){k:Nat}(hk:c k=none){x:Obj}{l:po}
  (hx:jG (dG ι k l) w' l x) (dO:∀ b o cap,x.owns=true->l=.at b o cap->w.heap.size<=b/\b<w'.heap.size)
  (Jv:∀ F v b,x=.fact F->l=.val v->F.cR v w' b->w.heap.size<=b\/B.cR b) (pq:x.gw=false) (oh:∀ F,x=.fact F->F.rc=true->(B.Fa F/\∀ j F',c j=some (.fact F')->F'.rc=false):=by intro F e;cases e):aO B (dG ι k l) (aZ c k x) w':=by
 refine(h.call hb).add hk hx (λb o cap Es hl=>?_) (λF v b Ye hl hF j y o' aQ hj hy he=>?_) (λb o cap hv=>by rw[pq]at hv;cases hv) oh
 ·obtain⟨h1,h2⟩:=dO b o cap Es hl;refine⟨h2,λhF=>by have:=B.lt w b h.base hF;omega,λj y o' aQ hj hy he=>?_,λj F v hj he hF=>?_,λj y o' aQ hj hy he=>?_⟩
  ·have:=(h.own j y b o' aQ hj hy he).1;omega
  ·have hF:=h.Cp hj he hb.size (λk hk _=>hb.block k hk) hF;obtain⟨m,q1,q2⟩:=h.born j _ hj;rw[he]at q1;injection q1 with q1;have:=q2.wM q1.symm hF;omega
  ·have:=(h.seen j y b o' aQ hj hy he).1;omega
 ·have h1:=h.own j y b o' aQ hj hy he;rcases Jv F v b Ye hl hF with h2|h2
  ·omega
  ·exact h1.2 h2
theorem aO.write{B:aa}{ι:Map}{c:Nat->Option Obj}{w w':World}(h:aO B ι c w){k b o cap:Nat}{x y:Obj}(hk:c k=some x)(hx:x.owns=true)(hl:ι k=some (.at b o cap))
  (hos:tj w w') (aHg:w'.tape=w.tape) (aHh:w'.output=w.output) (yC:w.heap.size<=w'.heap.size) (Jw:∀ j,j<w.heap.size->j≠b->w'.heap[j]?=w.heap[j]?)
  (hy:jG ι w' (.at b o cap) y) (Jx:∀ F,y≠.fact F) (Jy:y.gw=false):aO B ι (aZ c k y) w':=by
 obtain⟨fT,Yf⟩:=h.own k x b o cap hk hx hl;have cZ:∀ j z,j≠k->aZ c k y j=some z->c j=some z:=λj z hj e=>by unfold aZ at e;rw[au hj]at e;exact e
 have new:∀ z,aZ c k y k=some z->z=y:=λz e=>by unfold aZ at e;rw[ax rfl]at e;injection e with e;exact e.symm
 refine⟨B.dep w w' h.base hos aHg aHh yC λj hj=>Jw j (B.lt w j h.base hj) λe=>Yf (e▸hj),?_,?_,?_,?_,?_,?_,?_,?_,h.oL⟩
 ·intro j hj;unfold aZ at hj;by_cases bO:j=k
  ·rw[ax bO]at hj;cases hj
  ·rw[au bO]at hj;exact h.du j hj
 ·intro j z hj;by_cases bO:j=k
  ·subst bO;rw[new z hj];exact⟨_,hl,hy⟩
  ·have iH:=cZ j z bO hj;obtain⟨m,h1,h2⟩:=h.born j z iH;refine⟨m,h1,h2.gM yC (λb' o' aQ hz hm=>?_) λF v b' hz hm hF=>?_⟩
   ·subst hm;rcases hz with hz|hz
    ·exact Jw b' (h.own j z b' o' aQ iH hz h1).1 λe=>bO (h.inj j k z x b o' aQ o cap iH hz hk hx (e▸h1) hl)
    ·obtain⟨q1,q2⟩:=h.seen j z b' o' aQ iH hz h1;exact Jw b' q1 λe=>q2 k x o cap hk hx (e▸hl)
   ·subst hz;subst hm;exact Jw b' (h2.wM rfl hF) λe=>h.apart k j x F b o cap v hk hx hl iH h1 (e▸hF)
 ·intro j z b' o' aQ hj hz hm;by_cases bO:j=k
  ·subst bO;rw[hl]at hm;injection hm with hm;injection hm with c7 dC yD;subst c7;exact⟨cC fT yC,Yf⟩
  ·have:=h.own j z b' o' aQ (cZ j z bO hj) hz hm;exact⟨cC this.1 yC,this.2⟩
 ·intro i j z z' b' o1 mh o2 rM hi hz hj oj vm jH;by_cases eZ:i=k<;>by_cases bO:j=k
  ·rw[eZ,bO]
  ·subst eZ;exact h.inj i j x z' b' o1 mh o2 rM hk hx (cZ j z' bO hj) oj vm jH
  ·subst bO;exact h.inj i j z x b' o1 mh o2 rM (cZ i z eZ hi) hz hk hx vm jH
  ·exact h.inj i j z z' b' o1 mh o2 rM (cZ i z eZ hi) hz (cZ j z' bO hj) oj vm jH
 ·intro i j z F b' o' aQ v hi hz hm hj hv hF;by_cases bO:j=k
  ·subst bO;exact absurd (new _ hj).symm (Jx F)
  ·have iH:=cZ j _ bO hj;have hF:=h.Cp iH hv yC (λk2 fN jt=>Jw k2 fN λe=>h.apart k j x F b o cap v hk hx hl iH hv (e▸jt)) hF;by_cases eZ:i=k
   ·subst eZ;exact h.apart i j x F b' o' aQ v hk hx hm iH hv hF
   ·exact h.apart i j z F b' o' aQ v (cZ i z eZ hi) hz hm iH hv hF
 ·intro j z b' o' aQ hj hz hm;by_cases bO:j=k
  ·subst bO;rw[new z hj,Jy]at hz;cases hz
  ·obtain⟨q1,q2⟩:=h.seen j z b' o' aQ (cZ j z bO hj) hz hm;refine⟨cC q1 yC,λi z' o2 rM hi oj bj=>?_⟩;by_cases eZ:i=k
   ·subst eZ;exact q2 i x o2 rM hk hx bj
   ·exact q2 i z' o2 rM (cZ i z' eZ hi) oj bj
 ·intro j F hj;by_cases bO:j=k
  ·subst bO;exact absurd (new _ hj).symm (Jx F)
  ·exact h.fa j F (cZ j _ bO hj)
 ·intro i j F F' hi hj;by_cases eZ:i=k
  ·subst eZ;exact absurd (new _ hi).symm (Jx F)
  ·by_cases bO:j=k
   ·subst bO;exact absurd (new _ hj).symm (Jx F')
   ·exact h.one i j F F' (cZ i _ eZ hi) (cZ j _ bO hj)
theorem aO.kill{B:aa}{ι:Map}{c:Nat->Option Obj}{w:World}(h:aO B ι c w)(k:Nat)(hk:c k≠none):aO B ι (aZ c k .dead) w:=by
 have cZ:∀ j z,j≠k->aZ c k .dead j=some z->c j=some z:=λj z hj e=>by unfold aZ at e;rw[au hj]at e;exact e
 have new:∀ z,aZ c k .dead k=some z->z=.dead:=λz e=>by unfold aZ at e;rw[ax rfl]at e;injection e with e;exact e.symm
 refine⟨h.base,?_,?_,?_,?_,?_,?_,?_,?_,h.oL⟩
 ·intro j hj;unfold aZ at hj;by_cases bO:j=k
  ·rw[ax bO]at hj;cases hj
  ·rw[au bO]at hj;exact h.du j hj
 ·intro j z hj;by_cases bO:j=k
  ·subst bO;rw[new z hj];cases hc:c j with
   |none=>exact absurd hc hk
   |some x=>obtain⟨l,h1,_⟩:=h.born j x hc;exact⟨l,h1,trivial⟩
  ·exact h.born j z (cZ j z bO hj)
 ·intro j z b o cap hj hz;by_cases bO:j=k
  ·subst bO;rw[new z hj]at hz;cases hz
  ·exact h.own j z b o cap (cZ j z bO hj) hz
 ·intro i j z z' b o1 c1 o2 c2 hi hz hj oj;by_cases eZ:i=k
  ·subst eZ;rw[new z hi]at hz;cases hz
  ·by_cases bO:j=k
   ·subst bO;rw[new z' hj]at oj;cases oj
   ·exact h.inj i j z z' b o1 c1 o2 c2 (cZ i z eZ hi) hz (cZ j z' bO hj) oj
 ·intro i j z F b o cap v hi hz hl hj;by_cases eZ:i=k
  ·subst eZ;rw[new z hi]at hz;cases hz
  ·by_cases bO:j=k
   ·subst bO;cases new _ hj
   ·exact h.apart i j z F b o cap v (cZ i z eZ hi) hz hl (cZ j _ bO hj)
 ·intro j z b o cap hj hz;by_cases bO:j=k
  ·subst bO;rw[new z hj]at hz;cases hz
  ·intro hl;obtain⟨q1,q2⟩:=h.seen j z b o cap (cZ j z bO hj) hz hl;refine⟨q1,λi z' o' aQ hi oj hm=>?_⟩;by_cases eZ:i=k
   ·subst eZ;rw[new z' hi]at oj;cases oj
   ·exact q2 i z' o' aQ (cZ i z' eZ hi) oj hm
 ·intro j F hj;by_cases bO:j=k
  ·subst bO;cases new _ hj
  ·exact h.fa j F (cZ j _ bO hj)
 ·intro i j F F' hi hj;by_cases eZ:i=k
  ·subst eZ;cases new _ hi
  ·by_cases bO:j=k
   ·subst bO;cases new _ hj
   ·exact h.one i j F F' (cZ i _ eZ hi) (cZ j _ bO hj)
theorem aO.ext{B:aa}{ι:Map}{c c':Nat->Option Obj}{w:World}(h:aO B ι c w)(e:∀ k,c' k=c k):aO B ι c' w:=by have:c'=c:=funext e;rw[this];exact h
theorem aO.drew{B:aa}{ι:Map}{c:Nat->Option Obj}{w:World}(h:aO B ι c w)(n:Nat)(hn:w.drawn<=n):aO B ι c { w with drawn:=n }:=
 h.call ⟨⟨rfl,hn⟩,rfl,rfl,bt _,λ_ _=>rfl⟩
def jb:aj->Nat->aj->aj
 |l,_,[]=>l
 |l,o,v::r=>jb (l.set o v) (o+1) r
theorem RD:∀(vs l:aj) (o:Nat),(jb l o vs).length=l.length
 |[],_,_=>rfl
 |v::r,l,o=>by rw[jb,RD r];simp
theorem bL.jb{ι:Map}:∀{vs cP:aj},bL (aG ι) vs cP->∀{l l':aj},bL (aG ι) l l'->∀ o,bL (aG ι) (jb l o vs) (jb l' o cP)
 |_,_,.nil,_,_,h,_=>h
 |_,_,.cons hv hr,_,_,h,o=>hr.jb (h.set hv o) (o+1)
theorem Yg:∀(vs l:aj) (o n:Nat),o+vs.length<=n->(jb l o vs).take n=jb (l.take n) o vs
 |[],_,_,_,_=>rfl
 |v::r,l,o,n,h=>by simp only[oM]at h;rw[jb,jb,Yg r (l.set o v) (o+1) n o_,List.take_set]
theorem RE(b:Nat)(ty:TypeId)(fr:Nat×Nat):∀(vs cs:aj) (o:Nat) (w:World),w.heap[b]?=some (.cells cs.toArray ty fr)->
  (w.setCells b o vs).heap[b]?=some (.cells (jb cs o vs).toArray ty fr)/\(∀ k,k≠b->(w.setCells b o vs).heap[k]?=w.heap[k]?)/\(w.setCells b o vs).heap.size=w.heap.size/\
   tj w (w.setCells b o vs)/\(w.setCells b o vs).tape=w.tape/\(w.setCells b o vs).output=w.output
 |[],cs,o,w,h=>⟨h,λ_ _=>rfl,rfl,.refl w,rfl,rfl⟩
 |v::r,cs,o,w,h=>by
  have h1:(w.setCell ⟨b,o,none⟩ v).heap[b]?=some (.cells (cs.set o v).toArray ty fr):=by simp only[World.setCell,Yh,qG,h,RF];simp
  obtain⟨a1,a2,a3,a4,a5,a6⟩:=RE b ty fr r (cs.set o v) (o+1) _ h1;refine⟨a1,λk hk=>?_,?_,a4,a5,a6⟩
  ·rw[World.setCells,a2 k hk,Go.RowKit.Below.heap_setCell _ _ _ _ hk]
  ·rw[World.setCells,a3];simp[World.setCell]
def Obj.cells:Obj->aj
 |.aI cs _=>cs
 |.row cs _ _=>cs
 |.view cs=>cs
 |_=>[]
def Obj.Mw:Obj->aj->Obj
 |.aI _ ty,cs=>.aI cs ty
 |.row _ ty s,cs=>.row cs ty s
 |x,_=>x
def Obj.reads(x:Obj):Bool:=x.owns||x.gw
theorem jG.at{ι:Map}{w:World}{b o cap:Nat}{x:Obj}(h:jG ι w (.at b o cap) x)(hx:x.reads=true):
  ∃ bA:aj,bL (aG ι) x.cells bA/\∀ j u,bA[j]?=some u->w.cell? ⟨b,o+j,none⟩=some u:=by
 cases x with
 |aI cells ty=>
  obtain⟨b',bA,h1,h2,h3⟩:=h;injection h1 with h1 pX Yi;subst h1;subst pX;exact⟨bA,h2,λj u hj=>by simp[World.cell?,h3,hj]⟩
 |row cells ty size=>
  rcases h with h|⟨b',aQ,cur,h1,h2,h3,h4,h5⟩
  ·cases h.1
  ·injection h1 with h1 pX Yi;subst h1;subst pX;refine⟨_,h5,λj u hj=>?_⟩;rw[ur]at hj;split at hj
   ·have iH:cur[j]?=some u:=by simpa using hj
    simp[World.cell?,h2,iH]
   ·cases hj
 |view cells=>
  rcases h with h|⟨b',o',aQ,bA,h1,h2,h3⟩
  ·cases h.1
  ·injection h1 with h1 pX Yi;subst h1;subst pX;exact⟨bA,h2,h3⟩
 |fact F=>cases hx
 |dead=>cases hx
theorem aO.store{B:aa}{ι:Map}{c:Nat->Option Obj}{w:World}(h:aO B ι c w){k b oo cap o:Nat}{x:Obj}{vs cP:aj}(hk:c k=some x)(hx:x.owns=true)(hb:ι k=some (.at b oo cap))
  (hv:bL (aG ι) vs cP) (hle:o+vs.length<=x.cells.length) :
  oo=0/\aO B ι (aZ c k (x.Mw (jb x.cells o vs))) (w.setCells b o cP)/\∃(bA:aj) (ty:TypeId),w.heap[b]?=some (.cells bA.toArray ty (0,0))/\o+vs.length<=bA.length:=by
 obtain⟨l,h1,h2⟩:=h.born k x hk;rw[hb]at h1;injection h1 with h1;subst h1;cases x with
 |aI cells ty=>
  obtain⟨b',bA,q1,q2,q3⟩:=h2;injection q1 with q1 qH RG;subst q1;subst qH;subst RG;obtain⟨a1,a2,a3,a4,a5,a6⟩:=RE b ty (0,0) cP bA o w q3;exact⟨rfl,h.write hk hx hb a4 a5 a6 (vn a3.symm) (λj _ hj=>a2 j hj) ⟨b,_,rfl,hv.jb q2 o,a1⟩ n_ rfl,bA,ty,q3,by rw[<-q2.length];exact hle⟩
 |row cells ty size=>
  rcases h2 with h2|⟨b',aQ,cur,q1,q2,q3,q4,q5⟩
  ·cases h2.1
  ·injection q1 with q1 qH RG;subst q1;subst qH;subst RG;obtain⟨a1,a2,a3,a4,a5,a6⟩:=RE b ty (0,0) cP cur.toList o w (by simpa using q2);have uu:o+cP.length<=cells.length:=by rw[<-hv.length];exact hle
   have iR:cells.length<=cur.toList.length:=by have:=q5.length;rw[ji]at this;omega
   refine⟨rfl,h.write hk hx hb a4 a5 a6 (vn a3.symm) (λj _ hj=>a2 j hj) (.inr ⟨b,cap,_,rfl,a1,q3,by simp[RD,q4],?_⟩) n_ rfl,cur.toList,ty,by simpa using q2,?_⟩
   ·rw[RD];show bL (aG ι) (jb cells o vs) (List.take cells.length (jb cur.toList o cP));rw[Yg _ _ _ _ uu];exact hv.jb q5 o
   ·rw[hv.length];omega
 |view cells=>cases hx
 |fact F=>cases hx
 |dead=>cases hx
abbrev aH:=List (Nat×Obj)
def lI(c:Nat->Option Obj):aH->Nat->Option Obj
 |[]=>c
 |(k,x)::l=>aZ (lI c l) k x
def iy(P:Program)(B:aa)(o:Oper)(eF:aj)(need:List (Nat×Option Obj))(val:Value)(cU:aH):Prop:=
 ∀(ι:Map) (c:Nat->Option Obj) (ρ:Operand->Value) (w:World),bL (aG ι) eF (o.op.operands.toList.map ρ)->aO B ι c w->(∀ p∈need,c p.1=p.2)->
  ∃ aw v' w',Map.le ι aw/\aG aw val v'/\aO B aw (lI c cU) w'/\((execOp ρ o).run P w=.ok (.value v') w'\/(v'=undef/\(execOp ρ o).run P w=.ok .skip w'))
def FW(R:Option Nat):Fence:={ fn:=λ_=>True,depth:=none,alive:=false,round:=R }
theorem Yj{P:Program}{ρ:Operand->Value}{o:Oper}{w w':World}{n:Next}(h:(execOp ρ o).run P w=.ok n w')(hn:∀ d,n≠.defer d):∀ c,o.op≠.defer c:=by
 intro c hc;have e:execOp ρ o=(do let d <-resolve ρ c o.type;pure (.defer d)):=by unfold execOp;rw[hc]
 rw[e,Jz]at h;cases hr:(resolve ρ c o.type).run P w with
 |ok d w1=>rw[hr]at h;injection h with h _;exact hn d h.symm
 |halt x w1=>rw[hr]at h;cases h
def cD(P:Program)(B:aa)(o:Oper)(eF:aj)(need:List (Nat×Option Obj))(val:Value)(cU:aH):Prop:=
 ∀(R:Option Nat) (ι:Map) (c:Nat->Option Obj) (a:Act) (w:World),bL (aG ι) eF (o.op.operands.toList.map a.eval)->aO B ι c w->(∀ p∈need,c p.1=p.2)->
  ∀(K:Act->World->Prop) (Q:Exit->Act->World->Prop),(∀ aw v' w',Map.le ι aw->aG aw val v'->aO B aw (lI c cU) w'->K (a.put o.dst v') w')->o.wpIn (FW R) 0 P a w K Q
theorem iy.step{P:Program}{B:aa}{o:Oper}{eF:aj}{need:List (Nat×Option Obj)}{val:Value}{cU:aH}(h:iy P B o eF need val cU):cD P B o eF need val cU:=by
 intro R ι c a w hv hm hn K Q hK;refine⟨λ_ _=>trivial,?_⟩;obtain⟨aw,v',w',h1,h2,h3,h4|⟨h4,h5⟩⟩:=h ι c a.eval w hv hm hn
 ·rw[Mx _ _ _ (Yj h4 n_),h4,Oper.uponIn_value];exact hK aw v' w' h1 h2 h3
 ·rw[Mx _ _ _ (Yj h5 n_),h5,Oper.uponIn_skip];subst h4;exact hK aw undef w' h1 h2 h3
section
variable{P:Program}{B:aa}{o:Oper}
theorem ml{α β:Type}{R:α->β->Prop}{a:α}{m:List β}(h:bL R [a] m):∃ b,m=[b]/\R a b:=by cases h with|cons h t=>cases t;exact⟨_,rfl,h⟩
theorem jI{α β:Type}{R:α->β->Prop}{a a2:α}{m:List β}(h:bL R [a,a2] m):∃ b b2,m=[b,b2]/\R a b/\R a2 b2:=by cases h with|cons h t=>obtain⟨b2,rfl,h2⟩:=ml t;exact⟨_,_,rfl,h,h2⟩
def dw(P:Program)(t:TypeId)(cells:aj)(off:Nat):Option Value:=
 match P.underlying t,P.info? t with
 |some d,some i=>
  if d.isRow then(if Nat.ble (off+i.size) cells.length then some (.agg ((cells.drop off).take i.size).toArray)else none)
  else cells[off]?
 |_,_=>none
def e6(P:Program)(t:TypeId)(cells:aj)(off:Nat)(v:Value):Option aj:=
 match P.info? t with
 |some i=>if Nat.beq i.size v.cells.size&&Nat.ble (off+v.cells.size) cells.length&&v.cells.toList.all (·.oneCell')then some (jb cells off v.cells.toList)else none
 |none=>none
theorem Yk{ι:Map}{c:Nat->Option Obj}{w:World}(hm:aO B ι c w){k off:Nat}{x:Obj}{t:TypeId}{v u:Value}
  (hk:c k=some x) (hx:x.reads=true) (hv:dw P t x.cells off=some v) (hc:aG ι (.pointer (some ⟨k,off,some 7⟩)) u) :
  ∃ v' a',u=.pointer (some a')/\aG ι v v'/\(loadVar t a').run P w=.ok v' w:=by
 obtain⟨b,o,cap,hb,he⟩:=hc.yB rfl;dsimp only at hb he;obtain⟨l,h1,h2⟩:=hm.born k x hk;rw[hb]at h1;injection h1 with h1;subst h1;obtain⟨bA,gj,mn⟩:=h2.at hx;unfold dw at hv;split at hv
 ·rename_i d i hd hi;split at hv
  ·rename_i ju;split at hv
   ·rename_i Yl;have Yl:=rN Yl;have hlen:=gj.length;injection hv with hv;refine⟨.agg ((bA.drop off).take i.size).toArray,⟨b,o+off,none⟩,he,by rw[<-hv];exact .agg ((gj.drop _).take _),?_⟩;exact run_loadVar_mid (P:=P) w b (o+off) t ((bA.drop off).take i.size) d (λj u hj=>by
      rw[ur]at hj;split at hj
      ·rw[Et]at hj;rw[ux];exact mn _ _ hj
      ·cases hj) hd ju (by rw[hi];simp;omega)
   ·cases hv
  ·rename_i ju;obtain⟨u',jX,RH⟩:=gj.get _ _ hv;refine⟨u',⟨b,o+off,none⟩,he,RH,?_⟩;have aHi:(isAgg t).run P w=.ok false w:=by unfold isAgg;rw[Jz,iS hd w];cases d<;>first|rfl|(simp[TypeDesc.isRow]at ju)
   simp[loadVar,Jz,aHi,load,Sem.run,mn _ _ jX]
 ·cases hv
theorem Ym{t:TypeId}{x:Operand}(ho:o.op=.load t x){k off:Nat}{y:Obj}{v:Value}(hx:y.reads=true)(hv:dw P t y.cells off=some v):
  iy P B o [.pointer (some ⟨k,off,some 7⟩)] [(k,some y)] v []:=by
 intro ι c ρ w aP hm hn;rw[ho]at aP;obtain⟨u,hu,hc⟩:=ml aP;have hu:ρ x=u:=by simpa[Op.operands]using hu
 obtain⟨v',a',e,kg,pY⟩:=Yk hm (hn _ (aU ..)) hx hv hc;refine⟨ι,v',w,Map.le.refl _,kg,hm,.inl ?_⟩;simp only[execOp,ho,hu,e,Instr.loadAt,Instr.sureAddr];simp[pY]
theorem Yn{t:TypeId}{x y:Operand}(ho:o.op=.store t x y){k off:Nat}{z:Obj}{v:Value}{cs:aj}(hx:z.owns=true)(hv:e6 P t z.cells off v=some cs):
  iy P B o [.pointer (some ⟨k,off,some 7⟩),v] [(k,some z)] undef [(k,z.Mw cs)]:=by
 intro ι c ρ w aP hm hn;rw[ho]at aP;obtain⟨u,u2,hu,hc,hy⟩:=jI aP;have dR:ρ x=u:=by simp[Op.operands]at hu;exact hu.1
 have fD:ρ y=u2:=by simp[Op.operands]at hu;exact hu.2
 have hk:c k=some z:=hn _ (aU ..);obtain⟨b,oo,cap,hb,he⟩:=hc.yB rfl;dsimp only at hb he;unfold e6 at hv;split at hv
 ·rename_i i hi;split at hv
  ·rename_i qa;injection hv with hv;simp only[de,bh]at qa;obtain⟨⟨bw,hle⟩,Eu⟩:=qa;have bw:=RB bw;have hle:=rN hle;have GM:=hy.cells.length;simp only[yE]at GM;obtain⟨h0,bM,bA,ty,mo,uu⟩:=hm.store hk hx hb hy.cells (o:=off) (by simpa using hle);subst h0;rw[kh]at he;refine⟨ι,undef,w.setCells b off u2.cells.toList,Map.le.refl _,.same rfl,by rw[<-hv];exact bM,.inr ⟨rfl,?_⟩⟩
   have run:=run_storeCells_cells (P:=P) b off u2.cells.toList 0 w
     (λj hj=>by
      simp at hj;simp only[yE]at uu;have:j+off<bA.length:=by omega
      simp[World.cell?,mo];omega)
     (λj hj=>by simp[World.frozen?,mo])
     (λv1 kO=>by
      obtain⟨j,hj⟩:=Yo kO;have ak:j<v.cells.toList.length:=by
       have:j<u2.cells.toList.length:=by
        rcases eL j u2.cells.toList.length with h|h
        ·exact h
        ·rw[wP h]at hj;cases hj
       rw[hy.cells.length];exact this
      obtain⟨v',qI,tt⟩:=hy.cells.get j _ (bd ak);rw[hj]at qI;injection qI with qI;rw[qI,tt.Yd];exact Eu _ (dz ak))
   simp only[jv]at run;simp only[execOp,ho,dR,he,fD,Instr.storeAt,Instr.sureAddr];simp[storeVar,sizeOf,typeInfo,hi,bw,<-GM,run]
  ·cases hv
 ·cases hv
theorem Yp{x:Operand}(ho:o.op=.move x\/o.op=.assign x){v:Value}:iy P B o [v] [] v []:=by
 intro ι c ρ w aP hm hn;have yF:o.op.operands=#[x]:=by rcases ho with ho|ho<;>rw[ho]<;>rfl
 rw[yF]at aP;obtain⟨u,hu,hc⟩:=ml aP;have hu:ρ x=u:=by simpa using hu
 refine⟨ι,u,w,Map.le.refl _,hc,hm,.inl ?_⟩;rcases ho with ho|ho<;>simp[execOp,ho,hu]
theorem JA{α β:Type}{R:α->β->Prop}{a a2 a3:α}{m:List β}(h:bL R [a,a2,a3] m):∃ b b2 b3,m=[b,b2,b3]/\R a b/\R a2 b2/\R a3 b3:=by cases h with|cons h t=>obtain⟨b2,b3,rfl,h2,h3⟩:=jI t;exact⟨_,_,_,rfl,h,h2,h3⟩
theorem aHj{x y z:Operand}(ho:o.op=.pick x y z){b:Bool}{v1 v2:Value}:iy P B o [.bool b,v1,v2] [] (if b then v1 else v2) []:=by
 intro ι c ρ w aP hm hn;rw[ho]at aP;obtain⟨u0,u1,u2,hu,h0,h1,h2⟩:=JA aP;simp[Op.operands]at hu;obtain⟨e0,e1,e2⟩:=hu;have h0:=h0.bool;cases b
 ·exact⟨ι,u2,w,Map.le.refl _,h2,hm,.inl (by simp[execOp,ho,e0,e1,e2,h0,asBool])⟩
 ·exact⟨ι,u1,w,Map.le.refl _,h1,hm,.inl (by simp[execOp,ho,e0,e1,e2,h0,asBool])⟩
theorem Yq{ι:Map}{c:Nat->Option Obj}{w:World}(hm:aO B ι c w){k:Nat}(hk:c k=none)(cs bA:aj)(ty:TypeId)(hc:bL (aG ι) cs bA):
  aO B (dG ι k (.at w.heap.size 0 0)) (aZ c k (.aI cs ty)) (w.alloc (.cells bA.toArray ty (0,0))):=by
 have hle:=gN (l:=.at w.heap.size 0 0) (hm.du k hk)
 exact hm.new (w':=w.alloc (.cells bA.toArray ty (0,0))) (x:=.aI cs ty) (l:=.at w.heap.size 0 0) ⟨⟨rfl,bt _⟩,rfl,rfl,by simp,λj hj=>RJ _ _ _ hj⟩ hk
  ⟨_,bA,rfl,oe hle hc,by show(w.heap.push _)[w.heap.size]?=_;simp⟩ (λb o cap _ e=>by injection e with e1 e2;subst e1;simp) n_ rfl
theorem aHk{t:TypeId}(ho:o.op=.alloc t){i:TypeInfo}{z:Value}(hi:P.info? t=some i)(hz:i.zero=some z)(hf:flat z=true)(k:Nat):
  iy P B o [] [(k,none)] (.pointer (some ⟨k,0,some 7⟩)) [(k,.aI z.cells.toList t)]:=by
 intro ι c ρ w aP hm hn;have hk:c k=none:=hn _ (aU ..);refine⟨_,.pointer (some ⟨w.heap.size,0,none⟩),_,gN (hm.du k hk),.ptr (o:=0) (off:=0) (fK _ _ _),Yq hm hk z.cells.toList z.cells.toList t ((aG.same hf:aG ι z z).cells),.inl ?_⟩;simp[execOp,ho,Instr.alloc,zeroValue,typeInfo,hi,hz,newVar,newRow,newObj,Sem.run]
theorem aHl{t:TypeId}{x:Operand}(ho:o.op=.box t x)(v:Value)(k:Nat):
  iy P B o [v] [(k,none)] (.pointer (some ⟨k,0,some 7⟩)) [(k,.aI v.cells.toList t)]:=by
 intro ι c ρ w aP hm hn;have hk:c k=none:=hn _ (aU ..);rw[ho]at aP;obtain⟨u,hu,hc⟩:=ml aP;have hu:ρ x=u:=by simpa[Op.operands]using hu
 refine⟨_,.pointer (some ⟨w.heap.size,0,none⟩),_,gN (hm.du k hk),.ptr (o:=0) (off:=0) (fK _ _ _),Yq hm hk v.cells.toList u.cells.toList t hc.cells,.inl ?_⟩;simp[execOp,ho,hu,Instr.box,newVar,newRow,newObj,Sem.run]
theorem aHm{s:TypeId}{x:Operand}{f:Nat}(ho:o.op=.fieldAddr s x f){fs:Array Field}{fd:Field}{i:TypeInfo}(hs:P.underlying s=some (.struct fs))(vo:fs[f]?=some fd)
  (hi:P.info? fd.type=some i) (bw:1<=i.size) (k off:Nat) :
  iy P B o [.pointer (some ⟨k,off,some 7⟩)] [] (.pointer (some ⟨k,off+fd.offset,some 7⟩)) []:=by
 intro ι c ρ w aP hm hn;rw[ho]at aP;obtain⟨u,hu,hc⟩:=ml aP;have hu:ρ x=u:=by simpa[Op.operands]using hu
 obtain⟨b,oo,cap,hb,he⟩:=hc.yB rfl;have aV:i.size≠0:=by omega
 refine⟨ι,.pointer (some ⟨b,oo+(off+fd.offset),none⟩),w,Map.le.refl _,.ptr hb,hm,.inl ?_⟩;simp only[execOp,ho,hu,he];simp[Instr.fieldAt,Instr.sureAddr,iS hs,vo,fieldPlace,sizeOf,typeInfo,hi,aV,AQ,ux]
theorem aHn{t:TypeId}{x ix:Operand}(ho:o.op=.indexAddr t x ix){len:Nat}{e:TypeId}{i:TypeInfo}(ht:P.underlying t=some (.array len e))(hi:P.info? e=some i)
  {kd:IntKind} {n:Int} (h0:0<=n) (h1:n<len) (k off:Nat) :
  iy P B o [.pointer (some ⟨k,off,some 7⟩),.int kd n] [] (.pointer (some ⟨k,off+n.toNat*i.size,some 7⟩)) []:=by
 intro ι c ρ w aP hm hn;rw[ho]at aP;obtain⟨u,u2,hu,hc,hx⟩:=jI aP;have dR:ρ x=u:=by simp[Op.operands]at hu;exact hu.1
 have fD:ρ ix=u2:=by simp[Op.operands]at hu;exact hu.2
 have hx:=hx.eY rfl;obtain⟨b,oo,cap,hb,he⟩:=hc.yB rfl;refine⟨ι,.pointer (some ⟨b,oo+(off+n.toNat*i.size),none⟩),w,Map.le.refl _,.ptr hb,hm,.inl ?_⟩;simp only[execOp,ho,dR,he,fD,hx];simp[Instr.indexAt,Instr.sureAddr,asIntOf,iS ht,sizeOf,typeInfo,hi,h0,h1,AQ,ux]
theorem Yr{t:TypeId}{x ix:Operand}(ho:o.op=.indexAddr t x ix){e:TypeId}{i:TypeInfo}(ht:P.underlying t=some (.slice e))(hi:P.info? e=some i)
  {kd:IntKind} {n:Int} {len cc:Nat} (h0:0<=n) (h1:n<len) (k off:Nat) :
  iy P B o [.slice (some ⟨k,off,some 7⟩) len cc,.int kd n] [] (.pointer (some ⟨k,off+n.toNat*i.size,some 7⟩)) []:=by
 intro ι c ρ w aP hm hn;rw[ho]at aP;obtain⟨u,u2,hu,hc,hx⟩:=jI aP;have dR:ρ x=u:=by simp[Op.operands]at hu;exact hu.1
 have fD:ρ ix=u2:=by simp[Op.operands]at hu;exact hu.2
 have hx:=hx.eY rfl;rcases hc.iw rfl with ⟨_,h,_⟩|⟨b,oo,cap,c',hb,_,_,he⟩
 ·omega
 ·refine⟨ι,.pointer (some ⟨b,oo+(off+n.toNat*i.size),none⟩),w,Map.le.refl _,.ptr hb,hm,.inl ?_⟩;simp only[execOp,ho,dR,he,fD,hx];simp[Instr.indexAt,asIntOf,iS ht,sizeOf,typeInfo,hi,h0,h1,AQ,ux]
theorem aHo{x:Operand}{i:Nat}(ho:o.op=.extract x i){vs:Array Value}{v:Value}(hv:vs[i]?=some v):iy P B o [.tuple vs] [] v []:=by
 intro ι c ρ w aP hm hn;rw[ho]at aP;obtain⟨u,hu,hc⟩:=ml aP;have hu:ρ x=u:=by simpa[Op.operands]using hu
 obtain⟨cP,he,aY⟩:=hc.um;obtain⟨v',qI,tt⟩:=aY.get i v (by simpa using hv);refine⟨ι,v',w,Map.le.refl _,tt,hm,.inl ?_⟩;have aHp:cP[i]?=some v':=by simpa using qI
 simp only[execOp,ho,hu,he];simp[Instr.extract,aHp]
theorem aHq{f:Fn}{fi ca:Array Operand}(ho:o.op=.makeFunc f fi ca){vs:aj}:iy P B o vs [] (.func f (vs.take fi.size).toArray (vs.drop fi.size).toArray) []:=by intro ι c ρ w aP hm hn;rw[ho]at aP;simp only[Op.operands,Array.toList_append,rO]at aP;have h1:=aP.take fi.size;have h2:=aP.drop fi.size;rw[RK s_]at h1;rw[RL s_]at h2;refine⟨ι,_,w,Map.le.refl _,.fn h1 h2,hm,.inl ?_⟩;simp[execOp,ho,Instr.makeFunc,<-Array.toList_map]
theorem aHr{t:TypeId}{x:Operand}{e:TypeId}(ho:o.op=.call { callee:=.builtin .len,args:=#[x],argTypes:=#[t]})(ht:P.underlying t=some (.slice e))(k off n cc:Nat):
  iy P B o [.slice (some ⟨k,off,some 7⟩) n cc] [] (.int .i64 n) []:=by
 intro ι c ρ w aP hm hn;rw[ho]at aP;obtain⟨u,hu,hc⟩:=ml aP;have hu:ρ x=u:=by simpa[Op.operands,Call.operands]using hu
 refine⟨ι,.int .i64 n,w,Map.le.refl _,.same rfl,hm,.inl ?_⟩;rcases hc.iw rfl with ⟨_,h,_,_,he⟩|⟨b,oo,cap,c',hb,_,_,he⟩
 ·subst h;simp[execOp,ho,resolve,invoke,builtin,Builtin.len_,hu,he,iS ht,goInt]
 ·simp[execOp,ho,resolve,invoke,builtin,Builtin.len_,hu,he,iS ht,goInt]
def My{α:Type}(P:Program):Sem α->Option α
 |.pure a=>some a
 |.program k=>My P (k P)
 |.mark _ k=>My P k
 |_=>none
theorem RM{α:Type}{P:Program}:∀{e:Sem α} {a:α},My P e=some a->∀ w,e.run P w=.ok a w
 |.pure _,a,h,w=>by injection h with h;subst h;rfl
 |.program k,a,h,w=>by rw[Sem.run];exact RM (e:=k P) h w
 |.mark _ k,a,h,w=>by rw[Sem.run];exact RM (e:=k) h w
 |.load _ _ _,_,h,_=>by cases h
 |.store _ _ _ _,_,h,_=>by cases h
 |.new _ _,_,h,_=>by cases h
 |.shape _ _,_,h,_=>by cases h
 |.freeze _ _ _,_,h,_=>by cases h
 |.frozen _ _,_,h,_=>by cases h
 |.getObj _ _,_,h,_=>by cases h
 |.setObj _ _ _,_,h,_=>by cases h
 |.choose _ _,_,h,_=>by cases h
 |.sys _ _,_,h,_=>by cases h
 |.halt _,_,h,_=>by cases h
theorem nJ{ι:Map}{l l':aj}(h:bL (aG ι) l l')(hf:∀ v∈l,flat v=true):l'=l:=by
 induction h with
 |nil=>rfl
 |cons h t ih=>rw[h.eY (hf _ (aU ..)),ih λv hv=>hf v (bE _ hv)]
theorem Cq{eF:aj}{val:Value}(RO:∀ v∈eF,flat v=true)(hf:flat val=true)
  (h:∀ ρ:Operand->Value,o.op.operands.toList.map ρ=eF->∀ w,B.G w->(execOp ρ o).run P w=.ok (.value val) w):iy P B o eF [] val []:=by
 intro ι c ρ w aP hm hn;exact⟨ι,val,w,Map.le.refl _,.same hf,hm,.inl (h ρ (nJ aP RO) w hm.base)⟩
end
section
variable{P:Program}{B:aa}{o:Oper}
def bound(x:Option Operand)(n:Nat):aj:=match x with|some _=>[.int .i64 n]|none=>[]
theorem aHs{t:TypeId}{x:Operand}{lo hi:Option Operand}(ho:o.op=.slice t x lo hi none){e:TypeId}{i:TypeInfo}(ht:P.underlying t=some (.slice e))(Ev:P.info? e=some i)
  {k off n cc l h:Nat} (hl:lo=none->l=0) (hh:hi=none->h=n) (Mz:l<=h) (Ys:h<=n) (hz:l<h\/l=0) :
  iy P B o (.slice (some ⟨k,off,some 7⟩) n cc::(bound lo l++bound hi h)) [] (.slice (some ⟨k,off+l*i.size,some 7⟩) (h-l) (cc+l)) []:=by
 intro ι c ρ w aP hm hn;rw[ho]at aP;have hb:∀(x:Option Operand) (q:Nat),bL (aG ι) (bound x q) ((x.toArray).toList.map ρ)->∀ y,x=some y->ρ y=.int .i64 q:=by
  intro x q h y hy;subst hy;obtain⟨u,hu,hc⟩:=ml h;have hu:ρ y=u:=by simpa using hu
  rw[hu];exact hc.eY rfl
 have yF:(Op.operands (.slice t x lo hi none)).toList.map ρ=ρ x::(lo.toArray.toList.map ρ++hi.toArray.toList.map ρ):=by simp[Op.operands]
 rw[yF]at aP;cases aP with
 |cons hc rP=>
 have hlen:(bound lo l).length=(lo.toArray.toList.map ρ).length:=by cases lo<;>rfl
 have h1:bL (aG ι) (bound lo l) (lo.toArray.toList.map ρ):=by have:=rP.take (bound lo l).length;rwa[RQ,hlen,RQ]at this
 have h2:bL (aG ι) (bound hi h) (hi.toArray.toList.map ρ):=by have:=rP.drop (bound lo l).length;rwa[List.drop_left,hlen,List.drop_left]at this
 have dS:∀ y,lo=some y->ρ y=.int .i64 l:=hb lo l h1;have iI:∀ y,hi=some y->ρ y=.int .i64 h:=hb hi h h2;have rQ:∀(y:Nat) (q:Nat) (code:BoundsCode),q<=y->(Instr.sliceBound (.int .i64 q) y code).run P w=.ok q w:=by intro y q code hq;have:(0:Int)<=q/\(q:Int)<=y:=⟨by omega,by omega⟩;simp[Instr.sliceBound,asIntOf,this]
 have RR:∀ cap,n<=cap->(Instr.sliceBounds true n cap (lo.map ρ) (hi.map ρ) none).run P w=.ok (l,h,cap) w:=by
  intro cap jJ;cases lo with
  |none=>
   have:=hl rfl;subst this;cases hi with
   |none=>have:=hh rfl;subst this;simp[Instr.sliceBounds]
   |some y=>simp[Instr.sliceBounds,iI y rfl,rQ cap h _ o_]
  |some x=>
   cases hi with
   |none=>have:=hh rfl;subst this;simp[Instr.sliceBounds,dS x rfl,rQ h l _ Mz]
   |some y=>simp[Instr.sliceBounds,iI y rfl,dS x rfl,rQ cap h _ o_,rQ h l _ Mz]
 rcases hc.iw rfl with ⟨hb,ky,qb,yG,he⟩|⟨b,oo,cap,c',hb,lJ,mO,he⟩
 ·dsimp only at yG;have hh0:h=0:=by omega
  have qJ:l=0:=by omega
  subst ky;subst qb;subst yG;subst hh0;subst qJ;refine⟨ι,.slice none 0 0,w,Map.le.refl _,by simpa using aG.slcN hb,hm,.inl ?_⟩;simp only[execOp,ho];simp[Instr.sliceAt,iS ht,Instr.slice,he,RR 0 (bt _),sizeOf,typeInfo,Ev]
 ·refine⟨ι,.slice (some ⟨b,oo+(off+l*i.size),none⟩) (h-l) (c'-l),w,Map.le.refl _,.slc hb o_ o_,hm,.inl ?_⟩;simp only[execOp,ho];by_cases iR:c'=l
  ·have qJ:l=0:=by omega
   simp[Instr.sliceAt,iS ht,Instr.slice,he,RR c' lJ,sizeOf,typeInfo,Ev,qJ,AQ,ux]
  ·simp[Instr.sliceAt,iS ht,Instr.slice,he,RR c' lJ,sizeOf,typeInfo,Ev,iR,AQ,ux]
theorem Yt{t:TypeId}{x y:Operand}(ho:o.op=.makeSlice t x y){e:TypeId}{i:TypeInfo}{z:Value}(ht:P.underlying t=some (.slice e))(hi:P.info? e=some i)(hz:i.zero=some z)
  {kl kc:IntKind} {l cp:Nat} (hlc:l<=cp) (Cr:i.bytes*cp<=281474976710656) (h63:cp<=maxLen) {cells:aj} (jk:(madeCells z.cells (cp*i.size)).toList.take (l*i.size)=cells)
  (hlen:cells.length=l*i.size) (cQ:∀ v∈cells,flat v=true) (k:Nat) :
  iy P B o [.int kl l,.int kc cp] [(k,none)] (.slice (some ⟨k,0,some 7⟩) l 0) [(k,.row cells e i.size)]:=by
 intro ι c ρ w aP hm hn;have hk:c k=none:=hn _ (aU ..);rw[ho]at aP;obtain⟨u,u2,hu,hc,hx⟩:=jI aP;have dR:ρ x=u:=by simp[Op.operands]at hu;exact hu.1
 have fD:ρ y=u2:=by simp[Op.operands]at hu;exact hu.2
 have hc:=hc.eY rfl;have hx:=hx.eY rfl;have hle:=gN (l:=.at w.heap.size 0 cp) (hm.du k hk);have hr:=run_make (P:=P) w t e i z ht hi hz kl kc l cp o_ o_ (by
  have h:((i.bytes*cp:Nat):Int)<=281474976710656:=by omega
  rwa[om]at h) (by have h:=h63;simp[maxLen]at h;omega)
 simp only[RS]at hr;refine⟨dG ι k (.at w.heap.size 0 cp),.slice (some ⟨w.heap.size,0,none⟩) l cp,w.alloc (.cells (madeCells z.cells (cp*i.size)) e),hle,.slc (o:=0) (off:=0) (fK _ _ _) hlc o_,?_,.inl ?_⟩
 ·refine hm.new (w':=w.alloc (.cells (madeCells z.cells (cp*i.size)) e)) (x:=.row cells e i.size) ⟨⟨rfl,bt _⟩,rfl,rfl,by simp,λj hj=>RJ _ _ _ hj⟩ hk
   (.inr ⟨w.heap.size,cp,_,rfl,by show(w.heap.push _)[w.heap.size]?=_;simp;rfl,h63,size_madeCells _ _,?_⟩) (λb o cap _ e=>by injection e with e1 e2;subst e1;simp) n_ rfl
  rw[hlen,jk];exact kx cQ
 ·simp only[execOp,ho,dR,fD,hc,hx];simp[hr]
def Cs(B:aa)(sv:Value)(m:Nat)(news:aj)(need:List (Nat×Option Obj)):Prop:=
 ∀(ι:Map) (c:Nat->Option Obj) (w:World) (u:Value),aO B ι c w->(∀ p∈need,c p.1=p.2)->aG ι sv u->
  (m=0/\news=[]/\u=.slice none 0 0)\/∃ ad c' mr,u=.slice (some ad) m c'/\bL (aG ι) news mr/\∀ j v,mr[j]?=some v->w.cell? (ad.add j)=some v
theorem MA{k off m cc:Nat}{x:Obj}(hx:x.reads=true){len:Nat}(h0:m=0->len=0):Cs B (.slice (some ⟨k,off,some 7⟩) m cc) m ((x.cells.drop off).take len) [(k,some x)]:=by
 intro ι c w u hm hn hc;have hk:c k=some x:=hn _ (aU ..);rcases hc.iw rfl with ⟨hb,ky,qb,yG,he⟩|⟨b,oo,cap,c',hb,lJ,mO,he⟩
 ·refine .inl ⟨ky,?_,he⟩;rw[h0 ky];rfl
 ·dsimp only at hb he;obtain⟨l,h1,h2⟩:=hm.born k x hk;rw[hb]at h1;injection h1 with h1;subst h1;obtain⟨bA,gj,mn⟩:=h2.at hx;refine .inr ⟨⟨b,oo+off,none⟩,c',_,he,(gj.drop off).take len,λj v hj=>?_⟩;rw[ur]at hj;split at hj
  ·rw[Et]at hj;rw[AQ,ux];exact mn _ _ hj
  ·cases hj
theorem GN{ι:Map}{c:Nat->Option Obj}{w:World}(hm:aO B ι c w){k:Nat}(hk:c k=none){cells cells':aj}{rest:Array Value}{ty:TypeId}{size cap:Nat}(hc:bL (aG ι) cells cells')
  (jJ:cap<=maxLen) (bw:cells'.length+rest.size=cap*size) :
  aO B (dG ι k (.at w.heap.size 0 cap)) (aZ c k (.row cells ty size)) (w.alloc (.cells (cells'.toArray++rest) ty)):=by
 have hle:=gN (l:=.at w.heap.size 0 cap) (hm.du k hk)
 refine hm.new (w':=w.alloc (.cells (cells'.toArray++rest) ty)) (x:=.row cells ty size) ⟨⟨rfl,bt _⟩,rfl,rfl,by simp,λj hj=>RJ _ _ _ hj⟩ hk
  (.inr ⟨w.heap.size,cap,cells'.toArray++rest,rfl,by show(w.heap.push _)[w.heap.size]?=_;simp,jJ,by simpa using bw,?_⟩) (λb o cap _ e=>by injection e with e1 e2;subst e1;simp) n_ rfl
 rw[hc.length,Array.toList_append];show bL _ _ (List.take cells'.length (cells'++rest.toList));rw[RQ];exact oe hle hc
theorem aHt{ι:Map}{l l':aj}(h:bL (aG ι) l l')(h1:∀ v∈l,v.oneCell'=true):∀ v∈l',v.oneCell'=true:=by intro v hv;obtain⟨j,hj⟩:=Yo hv;obtain⟨u,hu,hc⟩:=h.get' j v hj;rw[hc.Yd];exact h1 u (cJ hu)
theorem aHu{s x:Operand}{t:TypeId}(ho:o.op=.call { callee:=.builtin .append,args:=#[s,x],argTypes:=#[t,t]})
  {e:TypeId} {i:TypeInfo} {z:Value} (ht:P.underlying t=some (.slice e)) (hi:P.info? e=some i) (hz:i.zero=some z) (MB:z.cells.size=i.size) (bw:0<i.size)
  {sv:Value} {m:Nat} {news:aj} {need:List (Nat×Option Obj)} (yH:Cs B sv m news need) (hl:news.length=m*i.size)
  (h63:m<=maxLen) (Cr:m*i.bytes<=140737488355328) (k:Nat) :
  iy P B o [.slice none 0 0,sv] ((k,none)::need) (.slice (some ⟨k,0,some 7⟩) m 0) [(k,.row news e i.size)]:=by
 intro ι c ρ w aP hm hn;have hk:c k=none:=hn _ (aU ..);rw[ho]at aP;obtain⟨u,u2,hu,hc,hx⟩:=jI aP;have dR:ρ s=u:=by simp[Op.operands,Call.operands]at hu;exact hu.1
 have fD:ρ x=u2:=by simp[Op.operands,Call.operands]at hu;exact hu.2
 have hc:=hc.eY rfl;have JB:m=0->(Builtin.append_ #[t,t] o.type #[u,u2]).run P w=.ok (.slice none 0 0) w->
   ∃ aw v' w',Map.le ι aw/\aG aw (.slice (some ⟨k,0,some 7⟩) m 0) v'/\aO B aw (lI c [(k,.row news e i.size)]) w'/\((execOp ρ o).run P w=.ok (.value v') w'\/(v'=undef/\(execOp ρ o).run P w=.ok .skip w')):=by
  intro kP hr;subst kP;have ky:news=[]:=lK (by simpa using hl);subst ky;refine⟨dG ι k .nil,.slice none 0 0,w,gN (hm.du k hk),.slcN (fK _ _ _),hm.add hk (.inl ⟨rfl,rfl⟩) n_ n_ n_,.inl ?_⟩;simp[execOp,ho,resolve,invoke,builtin,dR,fD,hr]
 rcases yH ι c w u2 hm (λp hp=>hn p (bE _ hp)) hx with ⟨h1,h2,h3⟩|⟨ad,c',mr,h1,h2,h3⟩
 ·refine JB h1 ?_;rw[hc,h3];simp[Builtin.append_,iS ht,sizeOf,typeInfo,hi,Builtin.lenOf,Builtin.firstCells]
 ·have cv:mr.length=m*i.size:=by rw[<-h2.length];exact hl
  by_cases kP:m=0
  ·refine JB kP ?_;rw[hc,h1,kP];simp[Builtin.append_,iS ht,sizeOf,typeInfo,hi,Builtin.lenOf,Builtin.firstCells,loadCells,loadCellsFrom]
  ·have hr:=run_append_nil (P:=P) w t o.type e i z ht hi hz ad m c' mr cv h3 o_ (by have h:=h63;simp[maxLen]at h;omega) o_;have dT:=grownCap_ge w m 0 e;have dD:=Yu w m 0 e h63;have bj:aO B ι c w.drew:=hm.call ⟨⟨rfl,yI _⟩,rfl,rfl,bt _,λ_ _=>rfl⟩;have lg:=GN (ty:=e) (size:=i.size) (cap:=grownCap w m 0 e) (rest:=Builtin.zeroCells z.cells (grownCap w m 0 e-m)) bj hk h2 dD (by
    have h:=MC z.cells (grownCap w m 0 e-m);rw[cv,h,MB,<-fE]
    congr 1;omega)
   refine⟨_,_,_,gN (hm.du k hk),.slc (o:=0) (off:=0) (fK _ _ _) dT o_,lg,.inl ?_⟩;rw[<-hc,<-h1]at hr;simp[execOp,ho,resolve,invoke,builtin,dR,fD,hr]
theorem aHv{s x:Operand}{t:TypeId}(ho:o.op=.call { callee:=.builtin .append,args:=#[s,x],argTypes:=#[t,t]})
  {e:TypeId} {i:TypeInfo} {z:Value} (ht:P.underlying t=some (.slice e)) (hi:P.info? e=some i) (hz:i.zero=some z) (MB:z.cells.size=i.size) (bw:0<i.size)
  {sv:Value} {m:Nat} {news:aj} {need:List (Nat×Option Obj)} (yH:Cs B sv m news need) (hl:news.length=m*i.size) (RT:∀ v∈news,v.oneCell'=true)
  {j n:Nat} {cells:aj} (mw:n*i.size<=cells.length) (h63:n+m<=maxLen) (Cr:(n+m)*i.bytes<=140737488355328) (k:Nat) :
  iy P B o [.slice (some ⟨j,0,some 7⟩) n 0,sv] ((k,none)::(j,some (.row cells e i.size))::need) (.slice (some ⟨k,0,some 7⟩) (n+m) 0)
   [(k,.row (cells.take (n*i.size)++news) e i.size),(j,.dead)]:=by
 intro ι c ρ w aP hm hn;have hk:c k=none:=hn _ (aU ..);have hj:c j=some (.row cells e i.size):=hn _ (bE _ (aU ..));have hkj:j≠k:=λe=>by rw[e,hk]at hj;cases hj
 have gO:aZ c j .dead k=none:=by unfold aZ;rw[au (mP hkj)];exact hk
 rw[ho]at aP;obtain⟨u,u2,hu,hc,hx⟩:=jI aP;have dR:ρ s=u:=by simp[Op.operands,Call.operands]at hu;exact hu.1
 have fD:ρ x=u2:=by simp[Op.operands,Call.operands]at hu;exact hu.2
 have ex:∀ v' w',(Builtin.append_ #[t,t] o.type #[u,u2]).run P w=.ok v' w'->(execOp ρ o).run P w=.ok (.value v') w':=by intro v' w' hr;simp[execOp,ho,resolve,invoke,builtin,dR,fD,hr]
 have GO:aO B ι (aZ c j .dead) w:=hm.kill j (by rw[hj];exact n_);rcases hc.iw rfl with ⟨hb,ky,_,_,he⟩|⟨b,oo,cap,c',hb,lJ,mO,he⟩
 ·-- nothing is there yet
  subst ky;subst he;have RU:=yH ι c w u2 hm (λp hp=>hn p (bE _ (bE _ hp))) hx;have AR:cells.take (0*i.size)=[]:=by simp
  rw[AR,jw,kh];simp only[kh]at h63 Cr;have JB:m=0->(Builtin.append_ #[t,t] o.type #[.slice none 0 0,u2]).run P w=.ok (.slice none 0 0) w->
    ∃ aw v' w',Map.le ι aw/\aG aw (.slice (some ⟨k,0,some 7⟩) m 0) v'/\aO B aw (lI c [(k,.row news e i.size),(j,.dead)]) w'/\((execOp ρ o).run P w=.ok (.value v') w'\/(v'=undef/\(execOp ρ o).run P w=.ok .skip w')):=by
   intro kP hr;subst kP;have ky:news=[]:=lK (by simpa using hl);subst ky;exact⟨dG ι k .nil,.slice none 0 0,w,gN (hm.du k hk),.slcN (fK _ _ _),GO.add gO (.inl ⟨rfl,rfl⟩) n_ n_ n_,.inl (ex _ _ hr)⟩
  rcases RU with ⟨h1,h2,h3⟩|⟨ad,c',mr,h1,h2,h3⟩
  ·refine JB h1 ?_;rw[h3];simp[Builtin.append_,iS ht,sizeOf,typeInfo,hi,Builtin.lenOf,Builtin.firstCells]
  ·have cv:mr.length=m*i.size:=by rw[<-h2.length];exact hl
   by_cases kP:m=0
   ·refine JB kP ?_;rw[h1,kP];simp[Builtin.append_,iS ht,sizeOf,typeInfo,hi,Builtin.lenOf,Builtin.firstCells,loadCells,loadCellsFrom]
   ·have hr:=run_append_nil (P:=P) w t o.type e i z ht hi hz ad m c' mr cv h3 o_ (by have h:=h63;simp[maxLen]at h;omega) o_;have dT:=grownCap_ge w m 0 e;have dD:=Yu w m 0 e h63;have bj:aO B ι (aZ c j .dead) w.drew:=GO.call ⟨⟨rfl,yI _⟩,rfl,rfl,bt _,λ_ _=>rfl⟩;have lg:=GN (ty:=e) (size:=i.size) (cap:=grownCap w m 0 e) (rest:=Builtin.zeroCells z.cells (grownCap w m 0 e-m)) bj gO h2 dD (by
     have h:=MC z.cells (grownCap w m 0 e-m);rw[cv,h,MB,<-fE]
     congr 1;omega)
    refine⟨_,_,_,gN (hm.du k hk),.slc (o:=0) (off:=0) (fK _ _ _) dT o_,lg,.inl (ex _ _ ?_)⟩;rw[h1,hr];rfl
 ·-- a row
  dsimp only at hb he;subst he;have kz:c'=cap:=by omega
  subst kz;obtain⟨l,q1,q2⟩:=hm.born j _ hj;rw[hb]at q1;injection q1 with q1;subst q1;rcases q2 with q2|⟨b',aQ,cur,e1,mo,dD,gj,jk⟩
  ·cases q2.1
  injection e1 with e1 e2 e3;subst e1;subst e2;subst e3;have iR:cells.length<=cur.size:=by have:=jk.length;rw[ji,yE]at this;change cells.length=min cells.length cur.size at this;omega
  have MD:bL (aG ι) (cells.take (n*i.size)) (cur.toList.take (n*i.size)):=by have:=jk.take (n*i.size);rwa[ME,oq mw]at this
  have holds:∀(jj:Nat) (v:Value),(cur.toList.take (n*i.size))[jj]?=some v->w.cell? ((⟨b,0,none⟩:Addr).add jj)=some v:=by
   intro jj v hv;rw[ur]at hv;split at hv
   ·have qI:cur[jj]?=some v:=by simpa using hv
    simp[World.cell?,AQ,mo,qI]
   ·cases hv
  have dS:(cur.toList.take (n*i.size)).length=n*i.size:=by rw[ji,yE];omega
  -- the source
  have RU:∃ ad c' mr,u2=.slice ad m c'/\bL (aG ι) news mr/\(ad=none->m=0/\c'=0)/\∀ a,ad=some a->∀ j v,mr[j]?=some v->w.cell? (a.add j)=some v:=by
   rcases yH ι c w u2 hm (λp hp=>hn p (bE _ (bE _ hp))) hx with ⟨h1,h2,h3⟩|⟨ad,c',mr,h1,h2,h3⟩
   ·subst h1;subst h2;exact⟨none,0,[],h3,.nil,λ_=>⟨rfl,rfl⟩,λa e=>by cases e⟩
   ·exact⟨some ad,c',mr,h1,h2,λe=>(by cases e),λa e=>by injection e with e;subst e;exact h3⟩
  obtain⟨ad,c2,mr,RW,JC,MF,mn⟩:=RU;have cv:mr.length=m*i.size:=by rw[<-JC.length];exact hl
  have dO:=hm.own j _ b 0 c' hj rfl hb
  -- where the block is kept
  have gM:∀ w' (fU:Array Value),tj w w'->w'.tape=w.tape->w'.output=w.output->w.heap.size<=w'.heap.size->(∀ q,q≠b->w'.heap[q]?=w.heap[q]?)->w'.heap[b]?=some (.cells fU e (0,0))->
    fU.size=c'*i.size->fU.toList.take (n*i.size+m*i.size)=cur.toList.take (n*i.size)++mr->n+m<=c'->(Builtin.append_ #[t,t] o.type #[.slice (some ⟨b,0,none⟩) n c',u2]).run P w=.ok (.slice (some ⟨b,0,none⟩) (n+m) c') w'->
    ∃ aw v' w',Map.le ι aw/\aG aw (.slice (some ⟨k,0,some 7⟩) (n+m) 0) v'/\aO B aw (lI c [(k,.row (cells.take (n*i.size)++news) e i.size),(j,.dead)]) w'/\((execOp ρ o).run P w=.ok (.value v') w'\/(v'=undef/\(execOp ρ o).run P w=.ok .skip w')):=by
   intro w' fU p1 p2 p3 p4 p5 p6 p7 p8 p9 hr;have hle:=gN (l:=.at b 0 c') (hm.du k hk);have c7:aO B ι (aZ c j .dead) w':=hm.write hj rfl hb p1 p2 p3 p4 (λq _ hq=>p5 q hq) trivial n_ rfl;refine⟨dG ι k (.at b 0 c'),_,w',hle,.slc (o:=0) (off:=0) (fK _ _ _) p9 o_,c7.add gO (.inr ⟨b,c',fU,rfl,p6,dD,p7,?_⟩) (λb1 o1 mh _ e1=>?_) n_ n_,.inl (ex _ _ hr)⟩
   ·have e1:(cells.take (n*i.size)++news).length=n*i.size+m*i.size:=by rw[jx,ji,hl];omega
    rw[e1,p8];exact(oe hle MD).append (oe hle JC)
   ·injection e1 with e1 e2;subst e1;refine⟨cC dO.1 p4,dO.2,λq y o' aQ hq hy AU=>?_,λq F v hq AU=>?_,λq y o' aQ hq hy AU=>?_⟩
    ·unfold aZ at hq;by_cases wQ:q=j
     ·rw[ax wQ]at hq;injection hq with hq;subst hq;cases hy
     ·rw[au wQ]at hq;exact wQ (hm.inj q j y _ b o' aQ 0 c' hq hy hj rfl AU hb)
    ·unfold aZ at hq;by_cases wQ:q=j
     ·rw[ax wQ]at hq;cases hq
     ·rw[au wQ]at hq;exact λhF=>hm.apart j q _ F b 0 c' v hj rfl hb hq AU (hm.Cp hq AU p4 (λk2 fN jt=>p5 k2 λe=>hm.apart j q _ F b 0 c' v hj rfl hb hq AU (e▸jt)) hF)
    ·unfold aZ at hq;by_cases wQ:q=j
     ·rw[ax wQ]at hq;injection hq with hq;subst hq;cases hy
     ·rw[au wQ]at hq;exact(hm.seen q y b o' aQ hq hy AU).2 j _ 0 c' hj rfl hb
  by_cases JD:n+m<=c'
  ·cases ad with
   |none=>
    obtain⟨kP,qb⟩:=MF rfl;subst kP;subst qb;have ky:mr=[]:=lK (by simpa using cv);subst ky;refine gM w cur (.refl w) rfl rfl (bt _) (λ_ _=>rfl) mo gj s_ JD ?_;rw[RW];have hr:=run_append_owned_none (P:=P) (w:=w) 0 t o.type e i i.size ht hi (.slice (some ⟨b,0,none⟩) n c') n (cur.toList.take (n*i.size)) ⟨dS,.inr ⟨b,c',cur,rfl,lh _,mo,by omega,dD,gj,rfl⟩⟩;simpa using hr
   |some a=>
    have hr:=run_append_room (P:=P) w t o.type e i ht hi b n c' cur mo a m c2 mr cv (mn a rfl) (aHt JC RT) JD (by rw[cv,gj,<-fE];exact fo _ JD);refine gM (w.setRow b (cur.toList.take (n*i.size)++mr++cur.toList.drop (n*i.size+mr.length)).toArray) _ ⟨rfl,bt _⟩ rfl rfl s_ (λq hq=>setRow_other w b q _ hq) (setRow_heap w b cur _ e _ mo) ?_ ?_ JD (by rw[RW];exact hr)
    ·have:=fo i.size JD;rw[fE]at this;simp only[MG,jx,dS,vt,yE,cv];omega
    ·have e1:(cur.toList.take (n*i.size)++mr).length=n*i.size+m*i.size:=by rw[jx,dS,cv]
     rw[<-e1];exact RQ
  ·cases ad with
   |none=>
    obtain⟨kP,_⟩:=MF rfl;omega
   |some a=>
    have hr:=run_append_grow (P:=P) w t o.type e i z ht hi hz ⟨b,0,none⟩ n c' _ dS holds a m c2 mr cv (mn a rfl) o_ (by have h:=h63;simp[maxLen]at h;omega) (growslice_fits o_ Cr);have dT:=grownCap_ge w (n+m) c' e;have aHw:=Yu w (n+m) c' e h63;have bj:aO B ι (aZ c j .dead) w.drew:=GO.call ⟨⟨rfl,yI _⟩,rfl,rfl,bt _,λ_ _=>rfl⟩;have lg:=GN (ty:=e) (size:=i.size) (cap:=grownCap w (n+m) c' e) (rest:=Builtin.zeroCells z.cells (grownCap w (n+m) c' e-(n+m))) bj gO (MD.append JC) aHw (by
     have h:=MC z.cells (grownCap w (n+m) c' e-(n+m));rw[jx,dS,cv,h,MB,<-fE,<-fE]
     congr 1;omega)
    refine⟨_,_,_,gN (hm.du k hk),.slc (o:=0) (off:=0) (fK _ _ _) dT o_,lg,.inl (ex _ _ ?_)⟩;rw[RW,hr];simp
theorem Yv{src dst e:TypeId}{x:Operand}(ho:o.op=.convert src dst x)(hs:P.underlying src=some (.slice e))(he:P.underlying e=some (.int .u8))(hd:P.underlying dst=some .string)
  {k off n cc:Nat} {y:Obj} {ns:List Int} (hy:y.reads=true) (Ew:(y.cells.drop off).take n=ns.map (Value.int .u8)) (hlen:ns.length=n) :
  iy P B o [.slice (some ⟨k,off,some 7⟩) n cc] [(k,some y)] (.string (ns.foldl (λr n=>r.push (UInt8.ofNat n.toNat)) ByteArray.empty)) []:=by
 intro ι c ρ w aP hm hn;rw[ho]at aP;obtain⟨u,hu,hc⟩:=ml aP;have hu:ρ x=u:=by simpa[Op.operands]using hu
 refine⟨ι,_,w,Map.le.refl _,.same rfl,hm,.inl ?_⟩;have kg:=λa l c=>run_convert_bytes_string (P:=P) w src dst e a l c hs he hd;rcases MA (B:=B) (k:=k) (off:=off) (m:=n) (cc:=cc) hy (len:=n) (λh=>h) ι c w u hm hn hc with ⟨h1,h2,h3⟩|⟨ad,c',mr,h1,h2,h3⟩
 ·subst h1;have:ns=[]:=lK hlen;subst this;simp only[execOp,ho,hu,h3];simp[kg,Conv.bytesToString]
 ·rw[Ew]at h2;have h2:=nJ h2 (λv hv=>by obtain⟨q,_,rfl⟩:=di.1 hv;rfl);subst h2;have aHx:(loadCells ad n).run P w=.ok (ns.map (Value.int .u8)).toArray w:=by have:=run_loadCells_list (P:=P) (w:=w) ad (ns.map (Value.int .u8)) h3;simpa[hlen]using this
  simp only[execOp,ho,hu,h1];simp[kg,run_bytesToString w ad n c' ns aHx]
end
def gk(look:Nat->Value):Operand->Value
 |.tmp t=>look t
 |.const v=>v
 |.global g=>.pointer (some ⟨g,0,none⟩)
 |.func f=>.func (.func f) #[] #[]
def MH:Operand->Bool
 |.const v=>flat v
 |_=>true
structure fp(B:aa)(ι:Map)(look:Nat->Value)(N:Nat)(a:Act):Prop where
 defers:a.defers=B.ds
 size:a.tmps.size=N
 slot:∀ t,nI ι (look t) (a.tmps.getD t undef)
theorem fp.mono{B:aa}{ι κ:Map}(hle:Map.le ι κ){look:Nat->Value}{N:Nat}{a:Act}(h:fp B ι look N a):fp B κ look N a:=⟨h.defers,h.size,λt=>(h.slot t).mono hle⟩
theorem Yw{B:aa}{ι:Map}{look:Nat->Value}{N:Nat}{a:Act}(hf:fp B ι look N a){x:Operand}(hx:MH x=true)(hn:mf (gk look x)=false):aG ι (gk look x) (a.eval x):=by
 cases x with
 |tmp t=>exact(hf.slot t).AO hn
 |const v=>exact .same hx
 |global g=>exact .same rfl
 |func f=>exact .same rfl
theorem RX{B:aa}{ι:Map}{look:Nat->Value}{N:Nat}{a:Act}(hf:fp B ι look N a):∀(l:List Operand),(∀ x∈l,MH x=true/\mf (gk look x)=false)->bL (aG ι) (l.map (gk look)) (l.map a.eval)
 |[],_=>.nil
 |x::l,h=>(.cons (Yw hf (h x (aU ..)).1 (h x (aU ..)).2) (RX hf l λy hy=>h y (bE _ hy)))
structure qK where
 val:Value
 cU:aH
 need:List (Nat×Option Obj)
def MI(P:Program)(look:Nat->Value)(o:Oper):Option qK:=
 if o.op.operands.toList.all (λx=>flat (gk look x))then(match My P (execOp (gk look) o)with
   |some (.value v)=>if flat v then some ⟨v,[],[]⟩else none
   |_=>none)else none
def Yx(look:Nat->Value)(c:Call):Option (Nat×TypeId×Operand×Addr×Nat):=
 match c.callee,c.args.toList,c.argTypes.toList with
 |.builtin .len,[x],[t]=>match gk look x with
  |.slice (some ad) n cc=>if nH ad then some (n,t,x,ad,cc)else none
  |_=>none
 |_,_,_=>none
def qL(P:Program)(look:Nat->Value)(g:Nat->Option Obj)(next:Nat)(o:Oper):Option qK:=
 match o.op with
 |.move x=>some ⟨gk look x,[],[]⟩
 |.assign x=>some ⟨gk look x,[],[]⟩
 |.pick c x y=>match gk look c with
  |.bool b=>some ⟨if b then gk look x else gk look y,[],[]⟩
  |_=>none
 |.alloc t=>match P.info? t with
  |some i=>match i.zero with
   |some z=>if flat z then some ⟨.pointer (some ⟨next,0,some 7⟩),[(next,.aI z.cells.toList t)],[(next,none)]⟩else none
   |none=>none
  |none=>none
 |.box t x=>some ⟨.pointer (some ⟨next,0,some 7⟩),[(next,.aI (gk look x).cells.toList t)],[(next,none)]⟩
 |.load t x=>match gk look x with
  |.pointer (some ad)=>if nH ad then(match g ad.block with
   |some y=>if y.reads then(match dw P t y.cells ad.off with|some v=>some ⟨v,[],[(ad.block,some y)]⟩|none=>none)else none
   |none=>none)else none
  |_=>none
 |.store t x y=>match gk look x with
  |.pointer (some ad)=>if nH ad then(match g ad.block with
   |some z=>if z.owns then(match e6 P t z.cells ad.off (gk look y)with|some cs=>some ⟨undef,[(ad.block,z.Mw cs)],[(ad.block,some z)]⟩|none=>none)else none
   |none=>none)else none
  |_=>none
 |.fieldAddr s x f=>match gk look x with
  |.pointer (some ad)=>if nH ad then(match P.underlying s with
   |some (.struct fs)=>(match fs[f]? with
    |some fd=>(match P.info? fd.type with
     |some i=>if Nat.ble 1 i.size then some ⟨.pointer (some ⟨ad.block,ad.off+fd.offset,some 7⟩),[],[]⟩else none
     |none=>none)
    |none=>none)
   |_=>none)else none
  |_=>none
 |.indexAddr t x ix=>match gk look x,gk look ix with
  |.pointer (some ad),.int _ n=>if nH ad then(match P.underlying t with
   |some (.array len e)=>(match P.info? e with
    |some i=>if 0<=n/\n<len then some ⟨.pointer (some ⟨ad.block,ad.off+n.toNat*i.size,some 7⟩),[],[]⟩else none
    |none=>none)
   |_=>none)else none
  |.slice (some ad) len _,.int _ n=>if nH ad then(match P.underlying t with
   |some (.slice e)=>(match P.info? e with
    |some i=>if 0<=n/\n<len then some ⟨.pointer (some ⟨ad.block,ad.off+n.toNat*i.size,some 7⟩),[],[]⟩else none
    |none=>none)
   |_=>none)else none
  |_,_=>none
 |.extract x i=>match gk look x with
  |.tuple vs=>(match vs[i]? with|some v=>some ⟨v,[],[]⟩|none=>none)
  |_=>none
 |.makeFunc f fi ca=>some ⟨.func f (((fi++ca).toList.map (gk look)).take fi.size).toArray (((fi++ca).toList.map (gk look)).drop fi.size).toArray,[],[]⟩
 |.call c=>match Yx look c with
  |some (n,t,_)=>(match P.underlying t with|some (.slice _)=>some ⟨.int .i64 n,[],[]⟩|_=>none)
  |none=>MI P look o
 |_=>MI P look o
def AV(look:Nat->Value)(o:Oper):Bool:=o.op.operands.toList.all (λx=>MH x&&!mf (gk look x))&&(match o.op with|.select _ _=>false|_=>true)
def Ct(g:Nat->Option Obj)(next:Nat)(e:qK):Prop:=(∀ p∈e.need,(∃ x,p.2=some x/\g p.1=some x)\/(p.2=none/\next<=p.1))/\∀ p∈e.cU,∃ q∈e.need,q.1=p.1
theorem Cu{a:Addr}(h:nH a=true):a=⟨a.block,a.off,some 7⟩:=by obtain⟨b,o,s⟩:=a;have:=Js h;dsimp only at this;subst this;rfl
theorem Yy{P:Program}{B:aa}{look:Nat->Value}{g:Nat->Option Obj}{next:Nat}{o:Oper}{e:qK}(az:AV look o=true)(h:qL P look g next o=some e):
  iy P B o (o.op.operands.toList.map (gk look)) e.need e.val e.cU/\Ct g next e:=by
 simp only[AV,de,bh]at az;obtain⟨yF,Yz⟩:=az;have uy:Ct g next ⟨e.val,[],[]⟩:=⟨λp hp=>(by cases hp),λp hp=>(by cases hp)⟩;have YA:MI P look o=some e->iy P B o (o.op.operands.toList.map (gk look)) e.need e.val e.cU/\Ct g next e:=by
  intro h;unfold MI at h;split at h
  ·rename_i cQ;rw[bh]at cQ;split at h
   ·rename_i v hp;split at h
    ·rename_i RO;injection h with h;subst h;refine⟨Cq (λv hv=>by obtain⟨x,hx,rfl⟩:=di.1 hv;exact cQ x hx) RO λρ fV w _=>?_,uy⟩;rw[execOp_congr (ρ:=ρ) (ρ':=gk look) o (λcs b e=>by rw[e]at Yz;cases Yz) (λx hx=>by obtain⟨j,hj⟩:=Yo (MJ.2 hx);have:=cM (λl=>l[j]?) fV;simp only[AW,hj,RF]at this;injection this)]
     exact RM hp w
    ·cases h
   ·cases h
  ·cases h
 cases bW:o.op with
 |move x=>
  simp only[qL,bW]at h;injection h with h;subst h;exact⟨Yp (.inl bW),uy⟩
 |assign x=>
  simp only[qL,bW]at h;injection h with h;subst h;exact⟨Yp (.inr bW),uy⟩
 |pick c x y=>
  simp only[qL,bW]at h;split at h
  ·rename_i b hb;injection h with h;subst h;refine⟨?_,uy⟩;have:=aHj (P:=P) (B:=B) bW (b:=b) (v1:=gk look x) (v2:=gk look y);rw[<-hb]at this;exact this
  ·cases h
 |alloc t=>
  simp only[qL,bW]at h;split at h
  ·rename_i i hi;split at h
   ·rename_i z hz;split at h
    ·rename_i YB;injection h with h;subst h;exact⟨aHk bW hi hz YB next,λp hp=>.inr (by simp at hp;subst hp;exact⟨rfl,bt _⟩),λp hp=>⟨_,aU ..,by simp at hp;subst hp;rfl⟩⟩
    ·cases h
   ·cases h
  ·cases h
 |box t x=>
  simp only[qL,bW]at h;injection h with h;subst h;exact⟨aHl bW _ next,λp hp=>.inr (by simp at hp;subst hp;exact⟨rfl,bt _⟩),λp hp=>⟨_,aU ..,by simp at hp;subst hp;rfl⟩⟩
 |load t x=>
  simp only[qL,bW]at h;split at h
  ·rename_i ad hx;split at h
   ·rename_i dO;split at h
    ·rename_i y hy;split at h
     ·rename_i Ey;split at h
      ·rename_i v hv;injection h with h;subst h;refine⟨?_,λp hp=>.inl ⟨y,by simp at hp;subst hp;exact⟨rfl,hy⟩⟩,λp hp=>(by cases hp)⟩;have:=Ym (P:=P) (B:=B) bW (k:=ad.block) Ey hv;rw[<-Cu dO,<-hx]at this;exact this
      ·cases h
     ·cases h
    ·cases h
   ·cases h
  ·cases h
 |store t x y=>
  simp only[qL,bW]at h;split at h
  ·rename_i ad hx;split at h
   ·rename_i dO;split at h
    ·rename_i z hz;split at h
     ·rename_i hzo;split at h
      ·rename_i cs gj;injection h with h;subst h;refine⟨?_,λp hp=>.inl ⟨z,by simp at hp;subst hp;exact⟨rfl,hz⟩⟩,λp hp=>⟨_,aU ..,by simp at hp;subst hp;rfl⟩⟩;have:=Yn (P:=P) (B:=B) bW (k:=ad.block) hzo gj;rw[<-Cu dO,<-hx]at this;exact this
      ·cases h
     ·cases h
    ·cases h
   ·cases h
  ·cases h
 |fieldAddr s x f=>
  simp only[qL,bW]at h;split at h
  ·rename_i ad hx;split at h
   ·rename_i dO;split at h
    ·rename_i fs hs;split at h
     ·rename_i fd vo;split at h
      ·rename_i i hi;split at h
       ·rename_i bw;injection h with h;subst h;refine⟨?_,uy⟩;have:=aHm (P:=P) (B:=B) bW hs vo hi (rN bw) ad.block ad.off;rw[<-Cu dO,<-hx]at this;exact this
       ·cases h
      ·cases h
     ·cases h
    ·cases h
   ·cases h
  ·cases h
 |indexAddr t x ix=>
  simp only[qL,bW]at h;split at h
  ·rename_i ad kd n hx AX;split at h
   ·rename_i dO;split at h
    ·rename_i len el ht;split at h
     ·rename_i i hi;split at h
      ·rename_i hr;injection h with h;subst h;refine⟨?_,uy⟩;have:=aHn (P:=P) (B:=B) bW ht hi (kd:=kd) hr.1 hr.2 ad.block ad.off;rw[<-Cu dO,<-hx,<-AX]at this;exact this
      ·cases h
     ·cases h
    ·cases h
   ·cases h
  ·rename_i ad len cc kd n hx AX;split at h
   ·rename_i dO;split at h
    ·rename_i el ht;split at h
     ·rename_i i hi;split at h
      ·rename_i hr;injection h with h;subst h;refine⟨?_,uy⟩;have:=Yr (P:=P) (B:=B) bW ht hi (kd:=kd) (cc:=cc) hr.1 hr.2 ad.block ad.off;rw[<-Cu dO,<-hx,<-AX]at this;exact this
      ·cases h
     ·cases h
    ·cases h
   ·cases h
  ·cases h
 |extract x i=>
  simp only[qL,bW]at h;split at h
  ·rename_i vs hx;split at h
   ·rename_i v hv;injection h with h;subst h;refine⟨?_,uy⟩;have:=aHo (P:=P) (B:=B) bW hv;rw[<-hx]at this;exact this
   ·cases h
  ·cases h
 |makeFunc f fi ca=>
  simp only[qL,bW]at h;injection h with h;subst h;exact⟨aHq bW,uy⟩
 |call c=>
  simp only[qL,bW]at h;split at h
  ·rename_i n t rest hl;obtain⟨x,ad,cc⟩:=rest;split at h
   ·rename_i el ht;injection h with h;subst h;refine⟨?_,uy⟩;unfold Yx at hl;split at hl
    ·rename_i x' t' hc ha mQ;split at hl
     ·rename_i YC n' bZ hx;split at hl
      ·rename_i dO;injection hl with hl;injection hl with h1 hl;injection hl with h2 hl;injection hl with h3 hl;injection hl with h4 h5;subst h1;subst h2;subst h3;subst h4;subst h5;have kz:c={ callee:=.builtin .len,args:=#[x'],argTypes:=#[t']}:=by
        obtain⟨c1,c2,c3⟩:=c;dsimp only at hc ha mQ;subst hc
        congr 1
        ·exact vu.1 ha
        ·exact vu.1 mQ
       rw[kz]at bW ⊢;have:=aHr (P:=P) (B:=B) bW ht YC.block YC.off n' bZ;rw[<-Cu dO,<-hx]at this;exact this
      ·cases hl
     ·cases hl
    ·cases hl
   ·cases h
  ·rw[<-bW];exact YA h
 |_=>rw[<-bW];refine YA ?_;simp only[qL,bW]at h;exact h
abbrev aR:=List (Nat×Value)
def bH:aR->Nat->Value
 |[],_=>GL
 |(t,v)::l,s=>if Nat.beq t s then v else bH l s
def ah:aH->Nat->Option Obj
 |[],_=>none
 |(k,x)::l,j=>if Nat.beq k j then some x else ah l j
theorem ki{a b:Nat}(h:Nat.beq a b=true):a=b:=RB h
theorem ou{a b:Nat}(h:a≠b):Nat.beq a b=false:=by
 cases hb:Nat.beq a b with
 |false=>rfl
 |true=>exact absurd (ki hb) h
theorem vx(c:Nat->Option Obj):∀(l:aH) (k:Nat),lI c l k=match ah l k with|some x=>some x|none=>c k
 |[],k=>rfl
 |(j,x)::l,k=>by
  show(if k=j then some x else lI c l k)=match (if Nat.beq j k then some x else ah l k)with|some x=>some x|none=>c k
  by_cases h:k=j
  ·subst h;simp
  ·rw[au h,ou (mP h)];exact vx c l k
theorem gZ:∀(l m:aH) (k:Nat),ah (l++m) k=match ah l k with|some x=>some x|none=>ah m k
 |[],m,k=>rfl
 |(j,x)::l,m,k=>by
  show(if Nat.beq j k then some x else ah (l++m) k)=match (if Nat.beq j k then some x else ah l k)with|some x=>some x|none=>ah m k
  by_cases h:Nat.beq j k=true
  ·simp only[ax h]
  ·simp only[au h];exact gZ l m k
theorem kj:∀{l:aH} {k:Nat} {x:Obj},ah l k=some x->(k,x)∈l
 |(j,y)::l,k,x,h=>by
  unfold ah at h;split at h
  ·rename_i hb;injection h with h;rw[ki hb,h];exact aU ..
  ·exact bE _ (kj h)
def cV(c:Nat->Option Obj)(M:aH):Prop:=∀ k x,ah M k=some x->c k=some x
def eM(c:Nat->Option Obj)(next:Nat):Prop:=∀ k,next<=k->c k=none
inductive Ex where
 |normal
 |exit (id:Nat)
 |ret
def Ex.AY:Ex->Exit
 |.normal=>.normal
 |.exit id=>.exit id
 |.ret=>.ret
def wl:Code->List Nat
 |.region _ ops _=>ops.toList.filterMap (·.dst)
 |.seq x y=>wl x++wl y
 |.cond _ x y=>wl x++wl y
 |.block _ b=>wl b
 |.loop b=>wl b
 |.scope b=>wl b
 |.rangeFunc _ ps x y=>ps.toList++(wl x++wl y)
 |_=>[]
def uz(c:Code)(t:Nat):Bool:=(wl c).any λd=>Nat.beq d t
structure mz where
 ex:Ex
 fr:aR
 M:aH
 next:Nat
def ag(P:Program)(B:aa)(N:Nat)(c:Code)(fr:aR)(M:aH)(next:Nat)(r:mz):Prop:=
 ∀(R:Option Nat) (ι:Map) (cc:Nat->Option Obj) (a:Act) (w:World) (Q:Exit->Act->World->Prop),fp B ι (bH fr) N a->aO B ι cc w->cV cc M->eM cc next->
  (∀ aw bZ a' w',Map.le ι aw->fp B aw (bH r.fr) N a'->aO B aw bZ w'->cV bZ r.M->eM bZ r.next->(∀ k,k<next->ah M k=none->bZ k=cc k)->(∀ t,uz c t=false->a'.tmps.getD t undef=a.tmps.getD t undef)->Q r.ex.AY a' w')->c.wpIn (FW R) 0 P Q a w
inductive aX(P:Program)(B:aa)(N:Nat) where
 |step (key:Nat) (o:Oper) (eF:aj) (need:List (Nat×Option Obj)) (val:Value) (cU:aH) (ok:cD P B o eF need val cU)
 |call (key:Nat) (f:FuncId) (args:aj) (res:Value) (ok:∀ w,B.G w->Calls P f args.toArray w λe w'=>e=.returned res/\Below w.heap.size w w')
 |rw(key:Nat) (v v':Value) (ok:v=v')
 |code (key:Nat) (c:Code) (fr:aR) (M:aH) (next:Nat) (r:mz) (ok:ag P B N c fr M next r)
inductive ow where
 |eF (l:aj)
 |obj (x:Option Obj)
 |op (o:Oper)
 |code (c:Code)
 |nat (n:Nat)
def callee(look:Nat->Value)(o:Oper):Option (FuncId×aj):=
 match o.op with
 |.call c=>match c.callee with
  |.value x=>match gk look x with
   |.func (.func f) fi ca=>some (f,fi.toList++c.args.toList.map (gk look)++ca.toList)
   |_=>none
  |_=>none
 |_=>none
def gz(P:Program)(f:FuncId):Bool:=
 match P.funcs[f]? with
 | some fn => fn.body.isSome && !(fn.name == "runtime.NumGoroutine")
 |none=>false
def MK(o:Oper):Nat:=match o.dst with
 |some t=>t
 |none=>match o.op with
  |.store _ (.tmp t) _=>100000+t
  |_=>99999
abbrev bI(P:Program)(B:aa)(N:Nat):=List (aX P B N)
abbrev vy:=List (ow×ow)
def YD(next:Nat)(need:List (Nat×Option Obj)):Bool:=need.all λp=>match p.2 with|some _=>true|none=>Nat.ble next p.1
def YE(cU:aH)(need:List (Nat×Option Obj)):Bool:=cU.all λp=>need.any λq=>Nat.beq q.1 p.1
def GP{P:Program}{B:aa}{N:Nat}(look:Nat->Value)(g:Nat->Option Obj)(next:Nat)(o:Oper)(rs:bI P B N):Option (qK×bI P B N×vy):=
 match qL P look g next o with
 |some e=>some (e,rs,[])
 |none=>none
def RY{P:Program}{B:aa}{N:Nat}(look:Nat->Value)(g:Nat->Option Obj)(next:Nat)(o:Oper)(rs:bI P B N):Option (qK×bI P B N×vy):=
 if AV look o then
  match rs with
  |.step key o' eF need val cU _::wR=>
   if Nat.beq key (MK o)then
    (if YD next need&&YE cU need then
     some (⟨val,cU,need⟩,wR,(.op o,.op o')::(.eF (o.op.operands.toList.map (gk look)),.eF eF)::need.filterMap λp=>match p.2 with|some x=>some (.obj (g p.1),.obj (some x))|none=>none)
    else none)
   else GP look g next o rs
  |.call key f args res _::wR=>
   if Nat.beq key (MK o)then
    (match callee look o with
    |some (f',args')=>if gz P f&&args.all flat&&flat res then some (⟨res,[],[]⟩,wR,[(.nat f',.nat f),(.eF args',.eF args)])else none
    |none=>none)
   else GP look g next o rs
  |.rw key v v' _::wR=>
   if Nat.beq key (MK o)then
    (match qL P look g next o with
    |some e=>some (⟨v',e.cU,e.need⟩,wR,[(.eF [e.val],.eF [v])])
    |none=>none)
   else GP look g next o rs
  |_=>GP look g next o rs
 else none
theorem ML{P:Program}{f:FuncId}(h:gz P f=true)(args:Array Value)(w:World):(callFunc f args).run P w=.ok (.enter f args) w:=by
 unfold gz at h;split at h
 ·rename_i fn hf;simp only[de,AZ]at h;obtain⟨c,hb⟩:=Option.isSome_iff_exists.1 h.1
  have h1 : fn.name ≠ "runtime.NumGoroutine" := by simpa using h.2
  simp[callFunc,hf,h1,hb]
 ·cases h
def rR(tr:vy):Prop:=∀ p∈tr,p.1=p.2
theorem MM{R:Option Nat}{P:Program}{f:FuncId}{args:Array Value}{w:World}{Rs:Ending->World->Prop}{n:Nat}:CallsIn (FW R) n P f args w Rs↔Calls P f args w Rs:=
 (callsIn_wide (n:=n):CallsIn Fence.wide n P f args w Rs↔Calls P f args w Rs)
theorem aHy{P:Program}{B:aa}{look:Nat->Value}{o:Oper}{f:FuncId}{args:aj}{res:Value}(az:AV look o=true)(hc:callee look o=some (f,args))(eQ:gz P f=true)
  (dj:∀ v∈args,flat v=true) (A0:flat res=true) (h:∀ w,B.G w->Calls P f args.toArray w λe w'=>e=.returned res/\Below w.heap.size w w') :
  cD P B o (o.op.operands.toList.map (gk look)) [] res []:=by
 intro R ι c a w hv hm hn K Q hK;obtain⟨dst,op,ty,pos,after,guard⟩:=o;unfold callee at hc;split at hc
 ·rename_i cl ho;dsimp only at ho;subst ho;split at hc
  ·rename_i x hx;split at hc
   ·rename_i f' fi ca hJ;injection hc with hc;injection hc with gA dp;subst gA;obtain⟨cal,lj,wS⟩:=cl;dsimp only at hx dp;subst hx;have yF:(Op.operands (.call ⟨.value x,lj,wS⟩)).toList=x::lj.toList:=by simp[Op.operands,Call.operands]
    dsimp only at hv;rw[yF]at hv;cases hv with
    |cons hx rP=>
    rw[hJ]at hx;obtain⟨kv,fe,he,h1,h2⟩:=hx.Co;have aY:=(h1.append rP).append h2;rw[dp]at aY;have e2:=nJ aY dj;have e3:execOp a.eval ⟨dst,.call ⟨.value x,lj,wS⟩,ty,pos,after,guard⟩=callFunc f' (kv++lj.map a.eval++fe):=by have:execOp a.eval ⟨dst,.call ⟨.value x,lj,wS⟩,ty,pos,after,guard⟩=(do let d <-Deferred.ofValue (a.eval x) (lj.map a.eval);invoke d.target d.args):=rfl;rw[this,he];rfl
    have e4:(kv++lj.map a.eval++fe:Array Value)=args.toArray:=by rw[<-e2];apply GQ;simp
    refine⟨λ_ _=>trivial,?_⟩;rw[Mx _ _ _ n_,e3,e4,ML eQ,Oper.uponIn_enter];refine⟨λe=>(by cases e),MM.2 ((h w hm.base).mono ?_)⟩
    rintro e w' ⟨rfl,hb⟩
    exact hK ι res w' (Map.le.refl _) (.same A0) (hm.call hb)
   ·cases hc
  ·cases hc
 ·cases hc
theorem RZ{P:Program}{B:aa}{N:Nat}{look:Nat->Value}{g:Nat->Option Obj}{next:Nat}{o:Oper}{rs wR:bI P B N}{e:qK}{tr:vy}
  (h:RY look g next o rs=some (e,wR,tr)) (hs:rR tr):AV look o=true/\cD P B o (o.op.operands.toList.map (gk look)) e.need e.val e.cU/\Ct g next e:=by
 unfold RY at h;split at h
 ·rename_i az;refine⟨az,?_⟩;have auto:∀{rs:bI P B N},GP look g next o rs=some (e,wR,tr)->cD P B o (o.op.operands.toList.map (gk look)) e.need e.val e.cU/\Ct g next e:=by
   intro rs h;unfold GP at h;split at h
   ·rename_i e' he;injection h with h;injection h with h1 h2;subst h1;obtain⟨q1,q2⟩:=Yy (B:=B) az he;exact⟨q1.step,q2⟩
   ·cases h
  split at h
  ·rename_i key o' eF need val cU ok Ez;split at h
   ·split at h
    ·rename_i qa;injection h with h;injection h with h1 h;injection h with h2 h3;subst h1;subst h3;simp only[de]at qa;have e1:ow.op o=.op o':=hs _ (aU ..);have e2:ow.eF _=.eF eF:=hs _ (bE _ (aU ..));injection e1 with e1;injection e2 with e2;subst e1;rw[e2];refine⟨ok,λp hp=>?_,λp hp=>?_⟩
     ·have gA:=qa.1;unfold YD at gA;rw[bh]at gA;have iz:=gA p hp;cases wT:p.2 with
      |none=>rw[wT]at iz;exact .inr ⟨rfl,rN iz⟩
      |some x=>
       left;refine⟨x,rfl,?_⟩;have:ow.obj (g p.1)=.obj (some x):=hs _ (bE _ (bE _ (YF.2 ⟨p,hp,by rw[wT]⟩)));injection this
     ·have dp:=qa.2;unfold YE at dp;rw[bh]at dp;have:=dp p hp;rw[qM]at this;obtain⟨q,hq,hb⟩:=this;exact⟨q,hq,ki hb⟩
    ·cases h
   ·exact auto h
  ·rename_i key f args res ok Ez;split at h
   ·split at h
    ·rename_i f' args' hc;split at h
     ·rename_i qa;injection h with h;injection h with h1 h;injection h with h2 h3;subst h1;subst h3;simp only[de,bh]at qa;have e1:ow.nat f'=.nat f:=hs _ (aU ..);have e2:ow.eF args'=.eF args:=hs _ (bE _ (aU ..));injection e1 with e1;injection e2 with e2;subst e1;subst e2;exact⟨aHy az hc qa.1.1 qa.1.2 qa.2 ok,λp hp=>(by cases hp),λp hp=>(by cases hp)⟩
     ·cases h
    ·cases h
   ·exact auto h
  ·rename_i key v v' ok Ez;split at h
   ·split at h
    ·rename_i e' he;injection h with h;injection h with h1 h;injection h with h2 h3;subst h1;subst h3;have e1:ow.eF [e'.val]=.eF [v]:=hs _ (aU ..);injection e1 with e1;injection e1 with e1 _;obtain⟨q1,q2⟩:=Yy (B:=B) az he;rw[e1,ok]at q1;exact⟨q1.step,q2⟩
    ·cases h
   ·exact auto h
  ·exact auto h
 ·cases h
def JE(fr:aR)(d:Option Nat)(v:Value):aR:=match d with|some t=>(t,v)::fr|none=>fr
def MN(fr:aR)(ops:Array Oper)(j:Nat):Option Bool:=
 match (ops[j]?).bind (·.dst)with
 |some t=>match bH fr t with|.bool b=>some b|_=>none
 |none=>none
def Cv(fr:aR)(ops:Array Oper)(o:Oper):Bool:=
 match o.guard with
 |none=>true
 |some (j,want)=>match MN fr ops j with|some b=>b==want|none=>false
def Cw(N:Nat)(fr:aR)(ops:Array Oper)(o:Oper):Bool:=
 (match o.guard with
 |none=>true
 |some (j,_)=>match (ops[j]?).bind (·.dst)with|some t=>flat (bH fr t)&&!mf (bH fr t)&&Nat.blt t N|none=>true)&&
 (match o.dst with|some d=>Nat.blt d N|none=>true)
theorem R0(fr:aR)(d:Option Nat)(v:Value)(t:Nat):bH (JE fr d v) t=if d=some t then v else bH fr t:=by
 cases d with
 |none=>rfl
 |some s=>
  show(if Nat.beq s t then v else bH fr t)=_;by_cases h:s=t
  ·subst h;simp
  ·rw[ou h];simp[h]
theorem fp.put{B:aa}{ι κ:Map}(hle:Map.le ι κ){look YG:Nat->Value}{N:Nat}{a:Act}(h:fp B ι look N a){v v':Value}(hv:nI κ v v')(d:Option Nat)(hd:∀ t,d=some t->t<N)
  (hl:∀ t,YG t=if d=some t then v else look t):fp B κ YG N (a.put d v'):=by
 refine⟨by cases d<;>exact h.defers,by cases d<;>simp[Act.put,h.size],λt=>?_⟩;rw[hl t];by_cases EA:d=some t
 ·rw[ax EA];subst EA;have:t<a.tmps.size:=by rw[h.size];exact hd t rfl
  have e:(a.put (some t) v').tmps.getD t undef=v':=by simp[Act.put,qc,this]
  rw[e];exact hv
 ·rw[au EA];have e:(a.put d v').tmps.getD t undef=a.tmps.getD t undef:=by
   cases d with
   |none=>rfl
   |some s=>
    have:s≠t:=λe=>EA (by rw[e]);simp[Act.put,qc,R1 this]
  rw[e];exact(h.slot t).mono hle
theorem R2(a:Act)(d:Option Nat)(v:Value){t:Nat}(h:d≠some t):(a.put d v).tmps.getD t undef=a.tmps.getD t undef:=by
 cases d with
 |none=>rfl
 |some s=>
  have:s≠t:=λe=>h (by rw[e]);simp[Act.put,qc,R1 this]
theorem aHz{B:aa}{ι:Map}{look:Nat->Value}{fr:aR}{N:Nat}{a:Act}(h:fp B ι look N a)(ops:Array Oper)(j:Nat)
  (hn:∀ t,(ops[j]?).bind (·.dst)=some t->look t=bH fr t/\flat (bH fr t)=true/\mf (bH fr t)=false/\t<N):yielded ops a.tmps j=MN fr ops j:=by
 unfold yielded MN;cases hd:(ops[j]?).bind (·.dst)with
 |none=>rfl
 |some t=>
  simp only[YH];obtain⟨h1,cQ,h2,h3⟩:=hn t hd;have ak:t<a.tmps.size:=by rw[h.size];exact h3
  have hs:=h.slot t;rw[h1]at hs;have hs:=(hs.AO h2).eY cQ;rw[show a.tmps.getD t undef=a.tmps[t]by simp[qc,ak]]at hs;rw[yJ ak,hs];cases bH fr t<;>rfl
theorem YI{B:aa}{ι:Map}{look:Nat->Value}{fr:aR}{N:Nat}{a:Act}(h:fp B ι look N a)(ops:Array Oper)(o:Oper)(hg:Cw N fr ops o=true)
  (hl:∀ j b,o.guard=some (j,b)->∀ t,(ops[j]?).bind (·.dst)=some t->look t=bH fr t):Region.wanted o (yielded ops a.tmps)=Cv fr ops o:=by
 unfold Region.wanted Cv;unfold Cw at hg;simp only[de]at hg;have hg:=hg.1;cases ox:o.guard with
 |none=>rfl
 |some gd=>
  obtain⟨j,want⟩:=gd;rw[ox]at hg;dsimp only at hg ⊢;rw[aHz h ops j λt ht=>by rw[ht]at hg;simp only[de,AZ]at hg;exact⟨hl j want ox t ht,hg.1.1,hg.1.2,by simpa[A1]using hg.2⟩]
  cases MN fr ops j with
  |none=>rfl
  |some b=>cases b<;>cases want<;>rfl
theorem YJ{N:Nat}{fr:aR}{ops:Array Oper}{o:Oper}(hg:Cw N fr ops o=true):∀ t,o.dst=some t->t<N:=by intro t ht;unfold Cw at hg;simp only[de]at hg;have:=hg.2;rw[ht]at this;simpa[A1]using this
def A2(next:Nat)(cU:aH):Nat:=cU.foldl (λn p=>if Nat.ble n p.1 then p.1+1 else n) next
theorem GR:∀(cU:aH) (next:Nat),next<=A2 next cU
 |[],next=>bt _
 |p::l,next=>by
  show next<=A2 (if Nat.ble next p.1 then p.1+1 else next) l;refine dh ?_ (GR l _);split
  ·rename_i h;have:=rN h;omega
  ·exact bt _
theorem YK:∀(cU:aH) (next:Nat),∀ p∈cU,p.1<A2 next cU
 |q::l,next,p,hp=>by
  show p.1<A2 (if Nat.ble next q.1 then q.1+1 else next) l;rcases ch.1 hp with rfl|hp
  ·refine cC ?_ (GR l _);split
   ·omega
   ·rename_i h;rcases eL p.1 next with h1|h1
    ·exact h1
    ·exact absurd (MO h1) h
  ·exact YK l _ p hp
theorem R3{cc:Nat->Option Obj}{M:aH}{next:Nat}{e:qK}(hn:Ct (ah M) next e)(ha:cV cc M)(hu:eM cc next):
  (∀ p∈e.need,cc p.1=p.2)/\cV (lI cc e.cU) (e.cU++M)/\eM (lI cc e.cU) (A2 next e.cU)/\(∀ k,k<next->ah M k=none->ah (e.cU++M) k=none/\lI cc e.cU k=cc k):=by
 refine⟨λp hp=>?_,λk x hk=>?_,λk hk=>?_,λk hk hM=>?_⟩
 ·rcases hn.1 p hp with ⟨x,h1,h2⟩|⟨h1,h2⟩
  ·rw[h1];exact ha _ _ h2
  ·rw[h1];exact hu _ h2
 ·rw[gZ]at hk;rw[vx];cases h:ah e.cU k with
  |some y=>rw[h]at hk;exact hk
  |none=>rw[h]at hk;exact ha k x hk
 ·rw[vx];cases h:ah e.cU k with
  |some y=>have:=YK e.cU next _ (kj h);dsimp only at this;omega
  |none=>exact hu k (dh (GR _ _) hk)
 ·have:ah e.cU k=none:=by
   cases h:ah e.cU k with
   |none=>rfl
   |some y=>
    exfalso;obtain⟨q,hq,wU⟩:=hn.2 _ (kj h);dsimp only at wU;rcases hn.1 q hq with ⟨x,h1,h2⟩|⟨h1,h2⟩
    ·rw[wU,hM]at h2;cases h2
    ·omega
  exact⟨by rw[gZ,this];exact hM,by rw[vx,this]⟩
structure qN(P:Program)(B:aa)(N:Nat) where
 fr:aR
 M:aH
 next:Nat
 rs:bI P B N
 tr:vy
 nK:List (List Nat×List Nat)
def keys{α:Type}(l:List (Nat×α)):List Nat:=l.map (·.1)
def qN.more{P:Program}{B:aa}{N:Nat}(r:qN P B N)(tr:vy)(e:List Nat×List Nat):qN P B N:=⟨r.fr,r.M,r.next,r.rs,tr++r.tr,e::r.nK⟩
def yK{P:Program}{B:aa}{N:Nat}(ops:Array Oper):List Oper->aR->aH->Nat->bI P B N->Option (qN P B N)
 |[],fr,M,next,rs=>some ⟨fr,M,next,rs,[],[]⟩
 |o::l,fr,M,next,rs=>
  if Cw N fr ops o then
   if Cv fr ops o then
    match RY (P:=P) (bH fr) (ah M) next o rs with
    |some (e,Ez,EB)=>match yK ops l (JE fr o.dst e.val) (e.cU++M) (A2 next e.cU) Ez with
     |some r=>some (r.more EB (keys e.need,keys e.cU))
     |none=>none
    |none=>none
   else match yK ops l (JE fr o.dst undef) M next rs with
    |some r=>some (r.more [] ([],[]))
    |none=>none
  else none
def wW(l:List Oper)(t:Nat):Bool:=l.any λo=>match o.dst with|some d=>Nat.beq d t|none=>false
theorem YL{o:Oper}{l:List Oper}{t:Nat}(h:wW (o::l) t=false):o.dst≠some t/\wW l t=false:=by unfold wW at h;rw[List.any_cons,MP]at h;refine⟨λe=>?_,h.2⟩;rw[e]at h;simp at h
def R4{P:Program}(B:aa)(N:Nat)(cc:Nat->Option Obj)(M:aH)(next:Nat)(ι:Map)(a:Act)(wr:Nat->Bool)(r:qN P B N)(K:Act->World->Prop):Prop:=
 ∀ aw bZ a' w',Map.le ι aw->fp B aw (bH r.fr) N a'->aO B aw bZ w'->cV bZ r.M->eM bZ r.next->(∀ k,k<next->ah M k=none->bZ k=cc k)->
  (∀ t,wr t=false->a'.tmps.getD t undef=a.tmps.getD t undef)->K a' w'
theorem R5{R:Option Nat}{P:Program}{B:aa}{N:Nat}{ops:Array Oper}{Q:Exit->Act->World->Prop}:∀(l:List Oper) {fr:aR} {M:aH} {next:Nat} {rs:bI P B N} {r:qN P B N} {ι:Map} {cc:Nat->Option Obj} {a:Act} {w:World},
  yK ops l fr M next rs=some r->rR r.tr->fp B ι (bH fr) N a->aO B ι cc w->cV cc M->eM cc next->
  R4 B N cc M next ι a (wW l) r (Q .normal)->wpListIn (FW R) 0 P ops Q l a w
 |[],fr,M,next,rs,r,ι,cc,a,w,h,_,hf,hm,ha,hu,hQ=>by injection h with h;subst h;exact hQ ι cc a w (Map.le.refl _) hf hm ha hu (λ_ _ _=>rfl) (λ_ _=>rfl)
 |o::l,fr,M,next,rs,r,ι,cc,a,w,h,hs,hf,hm,ha,hu,hQ=>by
  unfold yK at h;unfold wpListIn;by_cases ox:Cw N fr ops o=true
  case neg=>rw[au ox]at h;cases h
  rw[ax ox]at h;have Cx:=YJ ox;rw[YI hf ops o ox λ_ _ _ _ _=>rfl];split at h
  ·rename_i hw;rw[ax hw];split at h
   ·rename_i e Ez EB bM;split at h
    ·rename_i r2 uA;injection h with h;subst h;have wX:rR EB:=λp hp=>hs p (dX.2 (.inl hp));have R6:rR r2.tr:=λp hp=>hs p (dX.2 (.inr hp));obtain⟨az,vz,oN⟩:=RZ (B:=B) bM wX;simp only[AV,de,bh,AZ]at az;obtain⟨q1,q2,q3,q4⟩:=R3 oN ha hu;refine(vz R ι cc a w (RX hf _ λx hx=>az.1 x hx) hm q1 _ _ λaw v' w' hle hv bj=>?_);refine R5 l uA R6 (hf.put hle (.inr hv) o.dst Cx λt=>R0 _ _ _ _) bj q2 q3 λdH rS a2 w2 lk jt dC iA fD fN rT=>?_;refine hQ dH rS a2 w2 (hle.trans lk) jt dC iA fD (λk hk hM=>?_) λt ht=>?_
     ·obtain⟨q5,q6⟩:=q4 k hk hM;rw[fN k (cC hk (GR _ _)) q5,q6]
     ·obtain⟨t1,t2⟩:=YL ht;rw[rT t t2,R2 _ _ _ t1]
    ·cases h
   ·cases h
  ·rename_i hw;rw[au hw];split at h
   ·rename_i r2 uA;injection h with h;subst h;refine⟨λ_ _=>trivial,?_⟩;refine R5 l uA (λp hp=>hs p (dX.2 (.inr hp))) (hf.put (Map.le.refl _) (v:=undef) (v':=undef) (.inr (.same rfl)) o.dst Cx λt=>R0 _ _ _ _) hm ha hu λdH rS a2 w2 lk jt dC iA fD fN rT=>?_;refine hQ dH rS a2 w2 lk jt dC iA fD fN λt ht=>?_;obtain⟨t1,t2⟩:=YL ht;rw[rT t t2,R2 _ _ _ t1]
   ·cases h
theorem aHA{R:Option Nat}{P:Program}{ops:Array Oper}{Q:Exit->Act->World->Prop}(Inv:(Nat->Bool)->Act->World->Prop)
  (aHB:∀ i o,ops[i]?=some o->∀ e∈o.after,Region.binds .any e=true->e.on<i)
  (step:∀ L a w i o,Inv L a w->ops[i]?=some o->L i=false->(∀ e∈o.after,Region.binds .any e=true->L e.on=true)->wpOpIn (FW R) 0 P ops Q i (λa' w'=>Inv (λj=>L j||j==i) a' w') a w)
  (fin:∀ L a w,(∀ i,i<ops.size->L i=true)->Inv L a w->Q .normal a w)
  (aHC:∀ L L' a w,(∀ j,L j=L' j)->Inv L a w->Inv L' a w) :
  ∀(fuel:Nat) (listed:Array Bool) (a:Act) (w:World),listed.size=ops.size->(listed.toList.countP (λb=>b=false))=fuel->Inv (λj=>listed.getD j false) a w->
   wpAnyIn (FW R) 0 P .any ops Q fuel listed a w:=by
 have aHD:∀ listed:Array Bool,listed.size=ops.size->Region.ready .any ops listed=[]->∀ i,i<ops.size->listed.getD i false=true:=by
  intro listed bw hr i;induction i using Nat.strongRecOn with
  |_ i ih=>
   intro hi;cases h:listed.getD i false with
   |true=>rfl
   |false=>
    exfalso;have:i∈Region.ready .any ops listed:=by
     rw[mem_ready];refine⟨?_,ops[i],yJ hi,λe he hb=>?_⟩
     ·have iB:i<listed.size:=by omega
      simp[qc,iB]at h ⊢;exact h
     ·have:=aHB i ops[i] (yJ hi) e he hb;exact ih e.on this o_
    rw[hr]at this;cases this
 intro fuel;induction fuel with
 |zero=>
  intro listed a w bw hc hI;have aY:∀ i,i<ops.size->listed.getD i false=true:=by
   intro i hi;have iB:i<listed.size:=by omega
   have h0:=List.countP_eq_zero.1 hc listed[i] s_;simp[qc,iB];simpa using h0
  refine⟨?_,fin _ a w aY hI⟩;cases hr:Region.ready .any ops listed with
  |nil=>rfl
  |cons i l=>
   have:i∈Region.ready .any ops listed:=by rw[hr];exact aU ..
   rw[mem_ready]at this;obtain⟨h1,o,ho,_⟩:=this;have hi:i<ops.size:=by
    rcases eL i ops.size with h|h
    ·exact h
    ·rw[YM h]at ho;cases ho
   have h2:=aY i hi;have iB:i<listed.size:=by omega
   simp[qc,iB]at h1 h2;rw[h1]at h2;cases h2
 |succ fuel ih=>
  intro listed a w bw hc hI;refine⟨λhr=>fin _ a w (aHD listed bw hr) hI,λi hi=>?_⟩;rw[mem_ready]at hi;obtain⟨h1,o,ho,aY⟩:=hi;have hi:i<ops.size:=by
   rcases eL i ops.size with h|h
   ·exact h
   ·rw[YM h]at ho;cases ho
  have iB:i<listed.size:=by omega
  have pX:listed.getD i false=false:=by simp[qc,iB]at h1 ⊢;exact h1
  refine wpOpIn_mono (λa' w' h=>?_) (step _ a w i o hI ho pX aY);refine ih (listed.setIfInBounds i true) a' w' (by simp[bw]) ?_ (aHC _ _ a' w' (λj=>?_) h)
  ·have ak:i<listed.toList.length:=by simpa using iB
   have JF:listed.toList[i]=false:=by simp[qc,iB]at pX;simpa using pX
   rw[aHE];have key:∀(l:List Bool) (i:Nat) (h:i<l.length),l[i]=false->(l.set i true).countP (λb=>b=false)+1=l.countP (λb=>b=false):=by
    intro l;induction l with
    |nil=>intro i h;simp at h
    |cons b l ih=>
     intro i h hb;cases i with
     |zero=>simp at hb;subst hb;simp
     |succ i=>
      simp at hb h;have:=ih i h hb;simp only[List.set_cons_succ,R7];omega
   have:=key listed.toList i ak JF;omega
  ·by_cases pr:j=i
   ·subst pr;simp[qc,iB]
   ·have:(listed.setIfInBounds i true).getD j false=listed.getD j false:=by simp[qc,R1 (mP pr)]
    rw[this];simp[pr]
def JG(acc:List Nat)(o:Oper):Nat:=o.after.toList.foldl (λs e=>if Region.binds .any e then s||| (2^e.on||| acc.getD e.on 0)else s) 0
def Cy:List Oper->List Nat->List Nat
 |[],acc=>acc
 |o::l,acc=>Cy l (acc++[JG acc o])
def JH(o:Oper):List Nat:=o.op.operands.toList.filterMap λ| .tmp t=>some t|_=>none
theorem YN(acc:List Nat):∀(es:List Edge) (s j:Nat),(es.foldl (λs e=>if Region.binds .any e then s||| (2^e.on||| acc.getD e.on 0)else s) s).testBit j=true->
  s.testBit j=true\/∃ e∈es,Region.binds .any e=true/\(e.on=j\/(acc.getD e.on 0).testBit j=true)
 |[],s,j,h=>.inl h
 |e::es,s,j,h=>by
  rw[vA]at h;rcases YN acc es _ j h with h|⟨e',uB,h⟩
  ·by_cases hb:Region.binds .any e=true
   ·rw[ax hb,YO,YO,Nat.testBit_two_pow]at h;simp only[uC,rU]at h;rcases h with h|h|h
    ·exact .inl h
    ·exact .inr ⟨e,aU ..,hb,.inl h⟩
    ·exact .inr ⟨e,aU ..,hb,.inr h⟩
   ·rw[au hb]at h;exact .inl h
  ·exact .inr ⟨e',bE _ uB,h⟩
def YP(ops:List Oper)(acc:List Nat):Prop:=
 ∀ k,k<acc.length->∀ j,(acc.getD k 0).testBit j=true->∃ o,ops[k]?=some o/\∃ e∈o.after,Region.binds .any e=true/\(e.on=j\/(acc.getD e.on 0).testBit j=true)
theorem YQ:∀(l pre:List Oper) (acc:List Nat),acc.length=pre.length->YP (pre++l) acc->
  (∀ i o,(pre++l)[i]?=some o->∀ e∈o.after,Region.binds .any e=true->e.on<i)->YP (pre++l) (Cy l acc)/\(Cy l acc).length=(pre++l).length
 |[],pre,acc,hl,hg,_=>⟨hg,by simp[Cy,hl]⟩
 |o::l,pre,acc,hl,hg,hd=>by
  have e:pre++o::l=(pre++[o])++l:=by simp
  rw[e]at hg hd ⊢;refine YQ l (pre++[o]) (acc++[JG acc o]) (by simp[hl]) ?_ hd;have cZ:∀ k,k<acc.length->(acc++[JG acc o]).getD k 0=acc.getD k 0:=λk hk=>by rw[EC,EC,JI hk]
  intro k hk j hj;rcases eL k acc.length with ak|dT
  ·rw[cZ k ak]at hj;obtain⟨o',rV,e',uB,hb,h⟩:=hg k ak j hj;refine⟨o',rV,e',uB,hb,?_⟩;rcases h with h|h
   ·exact .inl h
   ·right;have:e'.on<k:=hd k o' rV e' uB hb;rw[cZ _ o_];exact h
  ·have gO:k=acc.length:=by simp at hk;omega
   subst gO;have ho:((pre++[o])++l)[acc.length]?=some o:=by rw[hl];simp
   have hm:(acc++[JG acc o]).getD acc.length 0=JG acc o:=by rw[EC,ED (bt _)];simp
   rw[hm]at hj;rcases YN acc o.after.toList 0 j hj with h|⟨e',uB,hb,h⟩
   ·simp at h
   ·have uB:e'∈o.after:=MJ.1 uB;refine⟨o,ho,e',uB,hb,?_⟩;rcases h with h|h
    ·exact .inl h
    ·right;have:e'.on<acc.length:=hd acc.length o ho e' uB hb;rw[cZ _ this];exact h
def hY{α:Type}(u:Nat->Nat->Option α)(c0:Nat->α)(L:Nat->Bool):Nat->Nat->α
 |0,k=>c0 k
 |i+1,k=>if L i then(match u i k with|some x=>x|none=>hY u c0 L i k)else hY u c0 L i k
theorem YR{α:Type}(u:Nat->Nat->Option α)(c0:Nat->α)(L:Nat->Bool)(i k:Nat):hY u c0 L (i+1) k=if L i then(match u i k with|some x=>x|none=>hY u c0 L i k)else hY u c0 L i k:=rfl
theorem R8{α:Type}{u:Nat->Nat->Option α}{c0:Nat->α}{L:Nat->Bool}{k i:Nat}:∀(n:Nat),i<=n->(∀ j,j<n->u j k≠none->(L j=true↔j<i))->hY u c0 L n k=hY u c0 (λ_=>true) i k:=by
 have below:∀ m,m<=i->(∀ j,j<m->u j k≠none->L j=true)->hY u c0 L m k=hY u c0 (λ_=>true) m k:=by
  intro m;induction m with
  |zero=>intro _ _;rfl
  |succ m ih=>
   intro hm h;show(if L m then _ else _)=(if true then _ else _);have ih:=ih o_ λj hj=>h j o_;cases hu:u m k with
   |none=>simp only[ih];simp
   |some x=>rw[h m o_ (by rw[hu];exact n_)];rfl
 intro n;induction n with
 |zero=>
  intro hi _;have:i=0:=by omega
  subst this;rfl
 |succ n ih=>
  intro hi h;rcases eL n i with ak|dT
  ·have:i=n+1:=by omega
   subst this;exact below (n+1) (bt _) λj hj hu=>(h j hj hu).2 hj
  ·have ih:=ih dT λj hj=>h j o_;show(if L n then _ else _)=_;cases hu:u n k with
   |none=>simp only[ih];simp
   |some x=>
    have:L n=false:=by
     cases hL:L n with
     |false=>rfl
     |true=>have:=(h n o_ (by rw[hu];exact n_)).1 hL;omega
    rw[this,ih];rfl
theorem YS{α:Type}{u:Nat->Nat->Option α}{c0:Nat->α}{L:Nat->Bool}{i k:Nat}{m:Nat}(hi:L i=false)(hk:∀ j,j<m->i<j->L j=true->u i k≠none->u j k=none):
  ∀(n:Nat),n<=m->i<n->hY u c0 (λj=>L j||j==i) n k=match u i k with|some x=>x|none=>hY u c0 L n k:=by
 have before:∀ m,m<=i->hY u c0 (λj=>L j||j==i) m k=hY u c0 L m k:=by
  intro m;induction m with
  |zero=>intro _;rfl
  |succ m ih=>
   intro hm;show(if(L m||m==i)then _ else _)=(if L m then _ else _);rw[ih o_];have:(m==i)=false:=by simp;omega
   rw[this,Bool.or_false]
 intro n;induction n with
 |zero=>intro _ h;omega
 |succ n ih=>
  intro lL h;show(if(L n||n==i)then(match u n k with|some x=>x|none=>hY u c0 (λj=>L j||j==i) n k)else hY u c0 (λj=>L j||j==i) n k)=match u i k with|some x=>x|none=>(if L n then(match u n k with|some x=>x|none=>hY u c0 L n k)else hY u c0 L n k)
  rcases eL i n with ak|dT
  ·rw[ih o_ ak];have e:(n==i)=false:=by simp;omega
   rw[e,Bool.or_false];cases hL:L n with
   |false=>simp
   |true=>
    cases hu:u i k with
    |none=>rfl
    |some x=>rw[hk n o_ ak hL (by rw[hu];exact n_)];rfl
  ·have:i=n:=by omega
   subst this;rw[before i (bt _),hi];simp
def MQ(ops:List Oper)(o:Oper):List Nat:=match o.guard with
 |some (j,_)=>match (ops[j]?).bind (·.dst)with|some t=>[t]|none=>[]
 |none=>[]
def R9(ops:List Oper)(o:Oper)(t:Nat):Bool:=(JH o++MQ ops o).any λs=>Nat.beq s t
def MR(l m:List Nat):Bool:=l.any λa=>m.any λb=>Nat.beq a b
def wY(ops:List Oper)(o:Oper)(e:List Nat×List Nat)(p:Oper)(f:List Nat×List Nat):Bool:=
 (match p.dst with|some t=>R9 ops o t||(match o.dst with|some d=>Nat.beq d t|none=>false)|none=>false)||MR f.2 e.1
def EE(ops:List Oper)(nK:List (List Nat×List Nat)):Bool:=
 (List.range ops.length).all λi=>match ops[i]?,nK[i]? with
  |some o,some e=>(o.after.toList.all λg=>!Region.binds .any g||Nat.blt g.on i)&&
   (List.range i).all λj=>Nat.testBit ((Cy ops []).getD i 0) j||(match ops[j]?,nK[j]? with|some p,some f=>!wY ops o e p f&&!wY ops p f o e|_,_=>false)
  |_,_=>false
section
variable{P:Program}{B:aa}{N:Nat}{ops:Array Oper}
structure Sa(P:Program)(B:aa)(N:Nat)(ops:Array Oper)(l:List Oper)(fr:aR)(M:aH)(next:Nat)(r:qN P B N) where
 rW:Nat->aR
 Ms:Nat->aH
 A3:Nat->Nat
 es:Nat->qK
 YT:rW 0=fr
 Sb:Ms 0=M
 Sc:A3 0=next
 YU:rW l.length=r.fr
 YV:Ms l.length=r.M
 YW:A3 l.length=r.next
 nK:∀ i,i<l.length->r.nK[i]?=some (keys (es i).need,keys (es i).cU)
 step:∀ i o,l[i]?=some o->Cw N (rW i) ops o=true/\rW (i+1)=JE (rW i) o.dst (es i).val/\Ms (i+1)=(es i).cU++Ms i/\A3 (i+1)=A2 (A3 i) (es i).cU/\Ct (ah (Ms i)) (A3 i) (es i)/\
  ((Cv (rW i) ops o=true/\AV (bH (rW i)) o=true/\cD P B o (o.op.operands.toList.map (gk (bH (rW i)))) (es i).need (es i).val (es i).cU)\/(Cv (rW i) ops o=false/\es i=⟨undef,[],[]⟩))
theorem Sd:∀(l:List Oper) {fr:aR} {M:aH} {next:Nat} {rs:bI P B N} {r:qN P B N},yK ops l fr M next rs=some r->rR r.tr->Nonempty (Sa P B N ops l fr M next r)
 |[],fr,M,next,rs,r,h,_=>by injection h with h;subst h;exact⟨⟨λ_=>fr,λ_=>M,λ_=>next,λ_=>⟨undef,[],[]⟩,rfl,rfl,rfl,rfl,rfl,rfl,λi hi=>by simp at hi,λi o h=>by simp at h⟩⟩
 |o::l,fr,M,next,rs,r,h,hs=>by
  unfold yK at h;by_cases ox:Cw N fr ops o=true
  case neg=>rw[au ox]at h;cases h
  rw[ax ox]at h;have build:∀(e:qK) (r2:qN P B N) (tr:vy),r=r2.more tr (keys e.need,keys e.cU)->Ct (ah M) next e->Nonempty (Sa P B N ops l (JE fr o.dst e.val) (e.cU++M) (A2 next e.cU) r2)->
    ((Cv fr ops o=true/\AV (bH fr) o=true/\cD P B o (o.op.operands.toList.map (gk (bH fr))) e.need e.val e.cU)\/(Cv fr ops o=false/\e=⟨undef,[],[]⟩))->Nonempty (Sa P B N ops (o::l) fr M next r):=by
   rintro e r2 tr rfl aV ⟨T⟩ bM
   refine⟨⟨λi=>match i with|0=>fr|i+1=>T.rW i,λi=>match i with|0=>M|i+1=>T.Ms i,λi=>match i with|0=>next|i+1=>T.A3 i,λi=>match i with|0=>e|i+1=>T.es i,rfl,rfl,rfl,T.YU,T.YV,T.YW,λi hi=>?_,λi o' ho=>?_⟩⟩
   ·cases i with
    |zero=>rfl
    |succ i=>exact T.nK i (by simpa using hi)
   ·cases i with
    |zero=>
     simp at ho;subst ho;exact⟨ox,T.YT,T.Sb,T.Sc,aV,bM⟩
    |succ i=>exact T.step i o' (by simpa using ho)
  split at h
  ·rename_i hw;split at h
   ·rename_i e Ez EB bM;split at h
    ·rename_i r2 uA;injection h with h;have pv:rR EB/\rR r2.tr:=by subst h;exact⟨λp hp=>hs p (dX.2 (.inl hp)),λp hp=>hs p (dX.2 (.inr hp))⟩
     obtain⟨az,vz,oN⟩:=RZ (B:=B) bM pv.1;exact build e r2 EB h.symm oN (Sd l uA pv.2) (.inl ⟨hw,az,vz⟩)
    ·cases h
   ·cases h
  ·rename_i hw;split at h
   ·rename_i r2 uA;injection h with h;have pv:rR r2.tr:=by subst h;exact λp hp=>hs p (dX.2 (.inr hp))
    exact build ⟨undef,[],[]⟩ r2 [] h.symm ⟨λp hp=>(by cases hp),λp hp=>(by cases hp)⟩ (Sd l uA pv) (.inr ⟨by simpa using hw,rfl⟩)
   ·cases h
def MS(ops:List Oper)(L:Nat->Bool):Prop:=∀ i o,ops[i]?=some o->L i=true->∀ e∈o.after,Region.binds .any e=true->L e.on=true
theorem GS{α:Type}{l:List α}{i:Nat}{x:α}(h:l[i]?=some x):i<l.length:=by
 rcases eL i l.length with h1|h1
 ·exact h1
 ·rw[wP h1]at h;cases h
theorem Se{l:List Oper}{nK:List (List Nat×List Nat)}(h:EE l nK=true){i:Nat}{o:Oper}(ho:l[i]?=some o):∀ e∈o.after,Region.binds .any e=true->e.on<i:=by
 intro e he hb;unfold EE at h;rw[bh]at h;have:=h i (kA.2 (GS ho));rw[ho]at this;split at this
 ·rename_i o' e' h1 h2;injection h1 with h1;subst h1;simp only[de,bh]at this;have:=this.1 e (MJ.2 he);rw[hb]at this;simpa[A1]using this
 ·cases this
theorem YX{l:List Oper}{nK:List (List Nat×List Nat)}(h:EE l nK=true){i j:Nat}{o p:Oper}{e f:List Nat×List Nat}(ho:l[i]?=some o)(he:nK[i]?=some e)(hp:l[j]?=some p)(hf:nK[j]?=some f)(hj:j<i):
  ((Cy l []).getD i 0).testBit j=true\/(wY l o e p f=false/\wY l p f o e=false):=by
 unfold EE at h;rw[bh]at h;have:=h i (kA.2 (GS ho));rw[ho,he]at this;dsimp only at this;simp only[de,bh]at this;have:=this.2 j (kA.2 hj);rw[hp,hf]at this;simpa using this
theorem YY{l:List Oper}{nK:List (List Nat×List Nat)}(h:EE l nK=true){L:Nat->Bool}(hL:MS l L):∀(i:Nat) (o:Oper),l[i]?=some o->(∀ e∈o.after,Region.binds .any e=true->L e.on=true)->
  ∀ j,((Cy l []).getD i 0).testBit j=true->L j=true/\j<i:=by
 obtain⟨hg,hlen⟩:=YQ l [] [] rfl (λk hk=>by simp at hk) (λi o ho e he hb=>Se h (by simpa using ho) e he hb);simp only[jw]at hg hlen;intro i;induction i using Nat.strongRecOn with
 |_ i ih=>
  intro o ho hd j hj;have hi:i<(Cy l []).length:=by rw[hlen];exact GS ho
  obtain⟨o',rV,e,he,hb,ll⟩:=hg i hi j hj;rw[ho]at rV;injection rV with rV;subst rV;have ak:=Se h ho e he hb;have YZ:=hd e he hb;rcases ll with rfl|ll
  ·exact⟨YZ,ak⟩
  ·have aHF:e.on<l.length:=by
    have:i<l.length:=by rw[<-hlen];exact hi
    omega
   have Y0:=bd aHF;obtain⟨h1,h2⟩:=ih e.on ak _ Y0 (λe' uB jK=>hL e.on _ Y0 YZ e' uB jK) j ll;exact⟨h1,by omega⟩
theorem Y1{l m:List Nat}{a:Nat}(h1:a∈l)(h2:a∈m):MR l m=true:=by unfold MR;rw[qM];refine⟨a,h1,?_⟩;rw[qM];exact⟨a,h2,by simp⟩
theorem aHG{l:List Oper}{o:Oper}{t:Nat}(h:t∈JH o++MQ l o):R9 l o t=true:=by unfold R9;rw[qM];exact⟨t,h,by simp⟩
theorem Sf{α:Type}{l:List (Nat×α)}{p:Nat×α}(h:p∈l):p.1∈keys l:=di.2 ⟨p,h,rfl⟩
theorem aHH{o:Oper}{t:Nat}(h:Operand.tmp t∈o.op.operands):t∈JH o:=by unfold JH;exact YF.2 ⟨.tmp t,MJ.2 h,rfl⟩
def uS(ops:List Oper)(es:Nat->qK)(j t:Nat):Option Value:=match (ops[j]?).bind (·.dst)with|some d=>if d=t then some (es j).val else none|none=>none
def uM(es:Nat->qK)(j k:Nat):Option (Option Obj):=match ah (es j).cU k with|some x=>some (some x)|none=>none
theorem Y2{es:Nat->qK}{i:Nat}{c:Nat->Option Obj}(k:Nat):lI c (es i).cU k=match uM es i k with|some x=>x|none=>c k:=by rw[vx];unfold uM;cases ah (es i).cU k<;>rfl
theorem Sg{es:Nat->qK}{i k:Nat}(h:uM es i k≠none):k∈keys (es i).cU:=by
 unfold uM at h;cases hk:ah (es i).cU k with
 |none=>rw[hk]at h;exact absurd rfl h
 |some x=>exact Sf (kj hk)
theorem Sh{l:List Oper}{es:Nat->qK}{j t:Nat}(h:uS l es j t≠none):∃ p,l[j]?=some p/\p.dst=some t:=by
 unfold uS at h;cases hp:l[j]? with
 |none=>rw[hp]at h;exact absurd rfl h
 |some p=>
  rw[hp]at h;simp only[YH]at h;cases hd:p.dst with
  |none=>rw[hd]at h;exact absurd rfl h
  |some d=>
   rw[hd]at h;dsimp only at h;by_cases EA:d=t
   ·exact⟨p,rfl,by rw[hd,EA]⟩
   ·rw[au EA]at h;exact absurd rfl h
theorem Y3{l:List Oper}{es:Nat->qK}{j t:Nat}{p:Oper}(hp:l[j]?=some p):uS l es j t=if p.dst=some t then some (es j).val else none:=by
 unfold uS;rw[hp];simp only[YH];cases p.dst with
 |none=>rfl
 |some d=>by_cases h:d=t<;>simp[h]
theorem aHI{R:Option Nat}{fr:aR}{M:aH}{next:Nat}{rs:bI P B N}{r:qN P B N}{ι:Map}{cc:Nat->Option Obj}{Q:Exit->Act->World->Prop}{a:Act}{w:World}{id:Nat}(gF:P.follows .mixedOrders=true)
  (hs:yK ops ops.toList fr M next rs=some r) (AP:rR r.tr) (h:EE ops.toList r.nK=true) (hf:fp B ι (bH fr) N a) (hm:aO B ι cc w) (ha:cV cc M) (hu:eM cc next)
  (hQ:R4 B N cc M next ι a (wW ops.toList) r (Q .normal)):(Code.region id ops true).wpIn (FW R) 0 P Q a w:=by
 obtain⟨T⟩:=Sd _ hs AP;have yC:ops.size=ops.toList.length:=by simp
 have JF:∀(i:Nat),ops[i]?=ops.toList[i]?:=λi=>by simp
 generalize hn:ops.toList.length=n at *
 -- the order of the text
 have text:∀ i,i<=n->(∀ t,bH (T.rW i) t=hY (uS ops.toList T.es) (bH fr) (λ_=>true) i t)/\cV (hY (uM T.es) cc (λ_=>true) i) (T.Ms i)/\eM (hY (uM T.es) cc (λ_=>true) i) (T.A3 i)/\next<=T.A3 i/\
   (∀ k,k<next->ah M k=none->ah (T.Ms i) k=none/\hY (uM T.es) cc (λ_=>true) i k=cc k):=by
  intro i;induction i with
  |zero=>intro _;exact⟨λt=>by rw[T.YT];rfl,by rw[T.Sb];exact ha,by rw[T.Sc];exact hu,by rw[T.Sc];exact bt _,λk _ hk=>⟨by rw[T.Sb];exact hk,rfl⟩⟩
  |succ i ih=>
   intro hi;obtain⟨h1,h2,h3,h4,h5⟩:=ih o_;have ho:=bd (l:=ops.toList) (i:=i) o_;obtain⟨_,s2,s3,s4,s5,_⟩:=T.step i _ ho;obtain⟨q1,q2,q3,q4⟩:=R3 s5 h2 h3;have e:hY (uM T.es) cc (λ_=>true) (i+1)=lI (hY (uM T.es) cc (λ_=>true) i) (T.es i).cU:=funext λk=>by rw[Y2,YR];cases uM T.es i k<;>rfl
   refine⟨λt=>?_,by rw[s3,e];exact q2,by rw[s4,e];exact q3,by rw[s4];exact dh h4 (GR _ _),λk hk hM=>?_⟩
   ·rw[s2,R0];rw[YR,Y3 ho,h1 t];by_cases hd:(ops.toList[i]).dst=some t
    ·rw[ax hd,ax hd];rfl
    ·rw[au hd,au hd];rfl
   ·obtain⟨p1,p2⟩:=h5 k hk hM;obtain⟨p3,p4⟩:=q4 k o_ p1;exact⟨by rw[s3];exact p3,by rw[e,p4,p2]⟩
 -- which of two that wY has Y4 up
 have ordered:∀{L:Nat->Bool} (hL:MS ops.toList L) {i:Nat} {o:Oper},ops.toList[i]?=some o->L i=false->(∀ e∈o.after,Region.binds .any e=true->L e.on=true)->∀{j:Nat} {p:Oper},ops.toList[j]?=some p->j≠i->
   wY ops.toList o (keys (T.es i).need,keys (T.es i).cU) p (keys (T.es j).need,keys (T.es j).cU)=true\/wY ops.toList p (keys (T.es j).need,keys (T.es j).cU) o (keys (T.es i).need,keys (T.es i).cU)=true->(L j=true↔j<i):=by
  intro L hL i o ho EF MT j p hp pr tu;have ei:=T.nK i (GS ho);have ej:=T.nK j (GS hp);rcases EG pr with ak|tw
  ·rcases YX h ho ei hp ej ak with hb|⟨mR,gm⟩
   ·have:=(YY h hL i o ho MT j hb).1;exact⟨λ_=>ak,λ_=>this⟩
   ·rcases tu with tu|tu
    ·rw[mR]at tu;cases tu
    ·rw[gm]at tu;cases tu
  ·rcases YX h hp ej ho ei tw with hb|⟨mR,gm⟩
   ·refine⟨λA4=>?_,λak=>by omega⟩;have:=(YY h hL j p hp (λe he EH=>hL j p hp A4 e he EH) i hb).1;rw[EF]at this;cases this
   ·rcases tu with tu|tu
    ·rw[gm]at tu;cases tu
    ·rw[mR]at tu;cases tu
 have Y5:∀{α:Type} (u:Nat->Nat->Option α) (c0:Nat->α) (L:Nat->Bool) (k:Nat),(∀ j,L j=false)->∀ m,hY u c0 L m k=c0 k:=by
  intro α u c0 L k hL m;induction m with
  |zero=>rfl
  |succ m ih=>show(if L m then _ else _)=_;rw[hL m,ih];rfl
 have aVt:∀{α:Type} (u:Nat->Nat->Option α) (c0:Nat->α) (L L':Nat->Bool) (k:Nat),(∀ j,L j=L' j)->∀ m,hY u c0 L m k=hY u c0 L' m k:=by intro α u c0 L L' k hL m;rw[show L=L' from funext hL]
 refine wpIn_region_any gF (aHA (λL a' w'=>∃ aw,Map.le ι aw/\fp B aw (hY (uS ops.toList T.es) (bH fr) L n) N a'/\MS ops.toList L/\aO B aw (hY (uM T.es) cc L n) w'/\(∀ t,wW ops.toList t=false->a'.tmps.getD t undef=a.tmps.getD t undef))
  (λi o ho e he hb=>Se h (by rw[<-JF];exact ho) e he hb) ?_ ?_ ?_ ops.size _ a _ s_ (by simp[List.countP_replicate]) ?_)
 ·-- one operation
  rintro L a' w' i o ⟨aw,hle,mS,iR,EI,yL⟩ ho EF MT
  have rV:ops.toList[i]?=some o:=by rw[<-JF];exact ho
  have ct:i<n:=by rw[<-hn];exact GS rV
  obtain⟨t1,t2,t3,t4,t5⟩:=text i o_;obtain⟨s1,s2,s3,s4,s5,s6⟩:=T.step i o rV;have ord:=λ{j:Nat} {p:Oper}=>ordered iR rV EF MT (j:=j) (p:=p)
  -- the jL that it looks at
  have slot:∀ t,t∈JH o++MQ ops.toList o->hY (uS ops.toList T.es) (bH fr) L n t=bH (T.rW i) t:=by
   intro t ht;rw[t1 t];refine R8 n o_ λj hj hu=>?_;obtain⟨p,hp,GV⟩:=Sh hu;by_cases pr:j=i
   ·subst pr;rw[EF];exact⟨λe=>(by cases e),λe=>o_⟩
   ·refine ord hp pr (.inl ?_);unfold wY;rw[GV];simp only[aHG ht,GW]
  have marks:∀ p∈(T.es i).need,hY (uM T.es) cc L n p.1=p.2:=by
   intro q hq;rw[<-(R3 s5 t2 t3).1 q hq];refine R8 n o_ λj hj hu=>?_;have hk:=Sg hu;by_cases pr:j=i
   ·subst pr;rw[EF];exact⟨λe=>(by cases e),λe=>o_⟩
   ·have hp:=bd (l:=ops.toList) (i:=j) o_;refine ord hp pr (.inl ?_);unfold wY;rw[Y1 hk (Sf hq),Bool.or_true]
  -- what stands behind it
  have Y6:MS ops.toList (λj=>L j||j==i):=by
   intro k p hp vB e he hb;simp only[uC,beq_iff_eq]at vB ⊢;rcases vB with vB|rfl
   ·exact .inl (iR k p hp vB e he hb)
   ·rw[rV]at hp;injection hp with hp;subst hp;exact .inl (MT e he hb)
  have Y7:∀ t,hY (uS ops.toList T.es) (bH fr) (λj=>L j||j==i) n t=if o.dst=some t then(T.es i).val else hY (uS ops.toList T.es) (bH fr) L n t:=by
   intro t;rw[YS (i:=i) (m:=n) EF (λj Si hj A4 hu=>?_) n (bt _) ct,Y3 rV]
   ·by_cases hd:o.dst=some t<;>simp[hd]
   ·obtain⟨q,hq,hqd⟩:=Sh hu;rw[rV]at hq;injection hq with hq;subst hq;apply gP;intro aV;obtain⟨p,hp,GV⟩:=Sh aV;have:=(ord hp o_ (.inl (by unfold wY;rw[GV,hqd];simp))).1 A4;omega
  have Y8:hY (uM T.es) cc (λj=>L j||j==i) n=lI (hY (uM T.es) cc L n) (T.es i).cU:=by
   funext k
   rw[YS (i:=i) (m:=n) EF (λj Si hj A4 hu=>?_) n (bt _) ct,Y2]
   ·cases uM T.es i k<;>rfl
   ·apply gP;intro aV;have hp:=bd (l:=ops.toList) (i:=j) o_;have hk:=Sg aV;have fN:=Sg hu;obtain⟨q,hq,wU⟩:=di.1 fN;obtain⟨q2,nL,aHJ⟩:=s5.2 q hq;have:=(ord hp o_ (.inl (by unfold wY;rw[Y1 hk (by rw[<-wU,<-aHJ];exact Sf nL),Bool.or_true]))).1 A4;omega
  have other:∀ v,∀ t,wW ops.toList t=false->(a'.put o.dst v).tmps.getD t undef=a.tmps.getD t undef:=by intro v t ht;rw[R2 _ _ _ λhd=>?_,yL t ht];unfold wW at ht;rw[JJ]at ht;have:=ht o (cJ rV);rw[hd]at this;simp at this
  have Cx:=YJ s1;have aHK:Region.wanted o (yielded ops a'.tmps)=Cv (T.rW i) ops o:=by refine YI mS ops o s1 λj b hg t ht=>slot t (dX.2 (.inr ?_));unfold MQ;rw[hg];dsimp only;rw[<-JF,ht];exact aU ..
  unfold wpOpIn;rw[ho];dsimp only;rw[aHK];rcases s6 with ⟨hw,az,vz⟩|⟨hw,he⟩
  ·rw[ax hw];simp only[AV,de,bh,AZ]at az;have EJ:∀ x∈o.op.operands.toList,gk (hY (uS ops.toList T.es) (bH fr) L n) x=gk (bH (T.rW i)) x:=by
    intro x hx;cases x with
    |tmp t=>exact slot t (dX.2 (.inl (aHH (MJ.1 hx))))
    |_=>rfl
   have Y9:=RX mS o.op.operands.toList (λx hx=>by rw[EJ x hx];exact az.1 x hx);rw[yM EJ]at Y9;refine vz R aw _ a' w' Y9 EI marks _ _ λdH v2 w2 lk iJ dC=>?_;exact⟨dH,hle.trans lk,mS.put lk (.inr iJ) o.dst Cx Y7,Y6,by rw[Y8];exact dC,other v2⟩
  ·rw[au (by rw[hw];decide)];refine⟨λ_ _=>trivial,?_⟩;refine⟨aw,hle,mS.put (Map.le.refl _) (v':=undef) (.inr (by rw[he];exact .same rfl)) o.dst Cx Y7,Y6,by rw[Y8,he];exact EI,other undef⟩
 ·-- all have Y4 up
  rintro L a' w' aY ⟨aw,hle,mS,iR,EI,yL⟩
  obtain⟨t1,t2,t3,t4,t5⟩:=text n (bt _);have eN:∀{α:Type} (u:Nat->Nat->Option α) (c0:Nat->α),hY u c0 L n=hY u c0 (λ_=>true) n:=λu c0=>funext λk=>
   R8 n (bt _) λj hj _=>⟨λ_=>hj,λ_=>aY j o_⟩
  have e1:T.rW n=r.fr:=by rw[<-hn];exact T.YU
  have e2:T.Ms n=r.M:=by rw[<-hn];exact T.YV
  have e3:T.A3 n=r.next:=by rw[<-hn];exact T.YW
  rw[eN]at EI;refine hQ aw _ a' w' hle ⟨mS.defers,mS.size,λt=>?_⟩ EI (by rw[<-e2];exact t2) (by rw[<-e3];exact t3) (λk hk hM=>(t5 k hk hM).2) yL;rw[<-e1,t1 t,<-eN];exact mS.slot t
 ·-- the numbers alone
  rintro L L' a' w' Za ⟨aw,hle,mS,iR,EI,yL⟩
  have e:L=L':=funext Za;subst e;exact⟨aw,hle,mS,iR,EI,yL⟩
 ·-- none has Y4 up
  have hL:∀ j,(Array.replicate ops.size false).getD j false=false:=λj=>by simp[qc,Array.getElem?_replicate];split<;>rfl
  refine⟨ι,Map.le.refl _,⟨hf.defers,hf.size,λt=>?_⟩,λi o _ hi=>?_,?_,λ_ _=>rfl⟩
  ·rw[Y5 _ _ _ _ hL];exact hf.slot t
  ·have:=(hL i).symm.trans hi;cases this
  ·exact(hm.drew _ (yI _)).ext λk=>Y5 _ _ _ _ hL n
end
def EK(M:aH)(ks:aH):aH:=M.filter λp=>match ah ks p.1 with|some _=>false|none=>true
theorem Sj{ks:aH}:∀(M:aH) (k:Nat),ah (EK M ks) k=match ah ks k with|some _=>none|none=>ah M k
 |[],k=>by cases h:ah ks k<;>simp[EK,ah]
 |(j,x)::M,k=>by
  have ih:=Sj (ks:=ks) M k;unfold EK at ih ⊢;by_cases hj:j=k
  ·subst hj;cases h:ah ks j with
   |some y=>rw[h]at ih;rw[MU,au (by simp[h])];exact ih
   |none=>rw[MU,ax (by simp[h])];simp[ah]
  ·have e:∀ M,ah ((j,x)::M) k=ah M k:=λM=>by show(if Nat.beq j k then _ else _)=_;rw[ou hj];rfl
   rw[e,<-ih];cases h:ah ks j with
   |some y=>rw[MU,au (by simp[h])]
   |none=>rw[MU,ax (by simp[h]),e]
theorem aHL{cc bZ:Nat->Option Obj}{M M0 M1:aH}{next:Nat}(ha:cV cc M)(hu:eM cc next)(h1:cV bZ M1)(hk:∀ k,k<next->ah M0 k=none->bZ k=cc k):cV bZ (M1++EK M M0):=by
 intro k x hx;rw[gZ]at hx;cases h:ah M1 k with
 |some y=>rw[h]at hx;exact h1 k x (by rw[h];exact hx)
 |none=>
  rw[h]at hx;dsimp only at hx;rw[Sj]at hx;cases h0:ah M0 k with
  |some y=>rw[h0]at hx;cases hx
  |none=>
   rw[h0]at hx;have hc:=ha k x hx;have:k<next:=by
    rcases eL k next with h|h
    ·exact h
    ·rw[hu k h]at hc;cases hc
   rw[hk k this h0];exact hc
structure jY(P:Program)(B:aa)(N:Nat) where
 ex:Ex
 fr:aR
 M:aH
 next:Nat
 rs:bI P B N
 tr:vy
section
variable{P:Program}{B:aa}{N:Nat}
def jY.more(r:jY P B N)(tr:vy):jY P B N:=⟨r.ex,r.fr,r.M,r.next,r.rs,tr++r.tr⟩
def jY.after(o:Option (jY P B N))(tr:vy):Option (jY P B N):=match o with|some r=>some (r.more tr)|none=>none
def jY.aHM(r:jY P B N)(e:Ex):jY P B N:=⟨e,r.fr,r.M,r.next,r.rs,r.tr⟩
def jY.out(r:jY P B N):mz:=⟨r.ex,r.fr,r.M,r.next⟩
def Keys(M:aH)(next:Nat)(M':aH)(next':Nat):Prop:=next<=next'/\∀ k,k<next->ah M k=none->ah M' k=none
theorem Keys.refl(M:aH)(next:Nat):Keys M next M next:=⟨bt _,λ_ _ h=>h⟩
theorem Keys.trans{M M1 M2:aH}{n n1 n2:Nat}(h:Keys M n M1 n1)(k:Keys M1 n1 M2 n2):Keys M n M2 n2:=⟨dh h.1 k.1,λj hj hM=>k.2 j (cC hj h.1) (h.2 j hj hM)⟩
def MV(fr:aR)(M:aH)(next:Nat)(c:Code)(key:Nat)(rs:bI P B N):Option (jY P B N):=
 match rs with
 |.code Zb c' JK M0 Sk r _::wR=>
  if Nat.beq Zb key&&(Nat.ble next r.next&&r.M.all λp=>Nat.ble next p.1||(match ah M0 p.1 with|some _=>true|none=>false))then
   some ⟨r.ex,r.fr++((wl c).map λt=>(t,GL))++fr,r.M++EK M M0,r.next,wR,(.code c,.code c')::(.nat next,.nat Sk)::(JK.map λp=>(ow.eF [bH fr p.1],ow.eF [p.2]))++M0.map λp=>(ow.obj (ah M p.1),ow.obj (some p.2))⟩
  else none
 |_=>none
def aHN:Bool->List Oper->List (List Nat×List Nat)->Bool
 |true,ops,nK=>EE ops nK
 |false,_,_=>true
def jc:Nat->Code->aR->aH->Nat->bI P B N->Option (jY P B N)
 |0,_,_,_,_,_=>none
 |n+1,c,fr,M,next,rs=>
  match c with
  |.skip=>some ⟨.normal,fr,M,next,rs,[]⟩
  |.exit id=>some ⟨.exit id,fr,M,next,rs,[]⟩
  |.ret=>some ⟨.ret,fr,M,next,rs,[]⟩
  |.region id ops draw=>
   match MV fr M next (.region id ops draw) (200000+id) rs with
   |some r=>some r
   |none=>
    match yK ops ops.toList fr M next rs with
    |some r=>if aHN draw ops.toList r.nK then some ⟨.normal,r.fr,r.M,r.next,r.rs,r.tr⟩else none
    |none=>none
  |.seq x y=>match jc n x fr M next rs with
   |some r=>match r.ex with
    |.normal=>jY.after (jc n y r.fr r.M r.next r.rs) r.tr
    |_=>some r
   |none=>none
  |.cond c x y=>match gk (bH fr) c with
   |.bool b=>if b then jc n x fr M next rs else jc n y fr M next rs
   |_=>none
  |.block id b=>
   match MV fr M next (.block id b) id rs with
   |some r=>some r
   |none=>match jc n b fr M next rs with
    |some r=>match r.ex with
     |.exit k=>some (r.aHM (if Nat.beq k id then .normal else .exit k))
     |_=>some r
    |none=>none
  |.loop b=>match jc n b fr M next rs with
   |some r=>match r.ex with
    |.normal=>jY.after (jc n (.loop b) r.fr r.M r.next r.rs) r.tr
    |_=>some r
   |none=>none
  |_=>none
theorem Zc{o:Option (jY P B N)}{tr:vy}{r:jY P B N}(h:jY.after o tr=some r):∃ r',o=some r'/\r=r'.more tr:=by
 cases o with
 |none=>cases h
 |some r'=>injection h with h;exact⟨r',rfl,h.symm⟩
theorem Sl:∀(l m:aR) (t:Nat),(∃ v,(t,v)∈l/\bH (l++m) t=v/\bH l t=v)\/((∀ v,(t,v)∉l)/\bH (l++m) t=bH m t)
 |[],m,t=>.inr ⟨λv h=>(by cases h),rfl⟩
 |(s,v)::l,m,t=>by
  by_cases h:s=t
  ·subst h;exact .inl ⟨v,aU ..,by simp[bH],by simp[bH]⟩
  ·have e1:bH ((s,v)::l++m) t=bH (l++m) t:=by show(if Nat.beq s t then _ else _)=_;rw[ou h];rfl
   have e2:bH ((s,v)::l) t=bH l t:=by show(if Nat.beq s t then _ else _)=_;rw[ou h];rfl
   rcases Sl l m t with ⟨u,h1,h2,h3⟩|⟨h1,h2⟩
   ·exact .inl ⟨u,bE _ h1,by rw[e1,h2],by rw[e2,h3]⟩
   ·refine .inr ⟨λu hu=>?_,by rw[e1,h2]⟩;rcases ch.1 hu with hu|hu
    ·injection hu with dR fD;exact h dR.symm
    ·exact h1 u hu
theorem aHO{c:Code}{t:Nat}(h:t∈wl c):uz c t=true:=by unfold uz;rw[qM];exact⟨t,h,by simp⟩
theorem MW{c:Code}{t:Nat}(h:uz c t=false):t∉wl c:=λhm=>by rw[aHO hm]at h;cases h
theorem JL{c:Code}{t:Nat}(h:t∉wl c):uz c t=false:=by
 cases hb:uz c t with
 |false=>rfl
 |true=>
  unfold uz at hb;rw[qM]at hb;obtain⟨d,hd,he⟩:=hb;exact absurd (ki he▸hd) h
theorem aHP{ι aw:Map}{c:Code}{fr A5:aR}{a a':Act}(hle:Map.le ι aw)(hf:fp B ι (bH fr) N a)(h1:fp B aw (bH A5) N a')(ht:∀ t,uz c t=false->a'.tmps.getD t undef=a.tmps.getD t undef):
  fp B aw (bH (A5++((wl c).map λt=>(t,GL))++fr)) N a':=by
 refine⟨h1.defers,h1.size,λt=>?_⟩;rw[EL];rcases Sl A5 (((wl c).map λt=>(t,GL))++fr) t with ⟨v,_,h2,h3⟩|⟨_,h2⟩
 ·rw[h2,<-h3];exact h1.slot t
 ·rw[h2];rcases Sl ((wl c).map λt=>(t,GL)) fr t with ⟨v,hv,h3,_⟩|⟨hn,h3⟩
  ·obtain⟨s,_,he⟩:=di.1 hv;injection he with _ he;rw[h3,<-he];exact .inl rfl
  ·rw[h3,ht t (JL λhm=>hn GL (di.2 ⟨t,hm,rfl⟩))];exact(hf.slot t).mono hle
theorem Zd{fr:aR}{M:aH}{next:Nat}{c:Code}{key:Nat}{rs:bI P B N}{r:jY P B N}(h:MV fr M next c key rs=some r)(hs:rR r.tr):ag P B N c fr M next r.out/\Keys M next r.M r.next:=by
 unfold MV at h;split at h
 ·rename_i Zb c' JK M0 Sk r0 ok wR;split at h
  ·rename_i qa;injection h with h;subst h;simp only[de,bh,uC]at qa;have e1:ow.code c=.code c':=hs _ (aU ..);have e2:ow.nat next=.nat Sk:=hs _ (bE _ (aU ..));injection e1 with e1;injection e2 with e2;subst e1;subst e2;have e3:∀ p∈JK,bH fr p.1=p.2:=λp hp=>by have:ow.eF [bH fr p.1]=.eF [p.2]:=hs _ (dX.2 (.inl (bE _ (bE _ (di.2 ⟨p,hp,rfl⟩)))));injection this with this;injection this
   have e4:∀ p∈M0,ah M p.1=some p.2:=λp hp=>by have:ow.obj (ah M p.1)=.obj (some p.2):=hs _ (dX.2 (.inr (di.2 ⟨p,hp,rfl⟩)));injection this
   refine⟨?_,rN qa.2.1,λk hk hM=>?_⟩;rotate_left
   ·show ah (r0.M++EK M M0) k=none;rw[gZ];have h1:ah r0.M k=none:=by
     cases h1:ah r0.M k with
     |none=>rfl
     |some x=>
      rcases qa.2.2 _ (kj h1)with h2|h2
      ·have:=rN h2;dsimp only at this;omega
      ·dsimp only at h2;cases h0:ah M0 k with
       |none=>rw[h0]at h2;cases h2
       |some y=>have:=e4 _ (kj h0);dsimp only at this;rw[hM]at this;cases this
    rw[h1];show ah (EK M M0) k=none;rw[Sj,hM];cases ah M0 k<;>rfl
   intro R ι cc a w Q hf hm ha hu hQ;have EM:fp B ι (bH JK) N a:=⟨hf.defers,hf.size,λt=>by
    have:∀(l:aR),(∀ p∈l,bH fr p.1=p.2)->nI ι (bH l t) (a.tmps.getD t undef):=by
     intro l;induction l with
     |nil=>intro _;exact .inl rfl
     |cons p l ih=>
      intro hl;obtain⟨s,v⟩:=p;by_cases bM:s=t
      ·subst bM;have this:bH fr s=v:=hl _ (aU ..);have e:bH ((s,v)::l) s=v:=by simp[bH]
       rw[e,<-this];exact hf.slot s
      ·have e:bH ((s,v)::l) t=bH l t:=by show(if Nat.beq s t then _ else _)=_;rw[ou bM];rfl
       rw[e];exact ih λp hp=>hl p (bE _ hp)
    exact this JK e3⟩
   have oO:cV cc M0:=λk x hk=>ha k x (by have:=e4 _ (kj hk);exact this);refine ok R ι cc a w Q EM hm oO hu λaw bZ a' w' hle uD bj jd jX gO wZ=>?_;refine hQ aw bZ a' w' hle (aHP hle hf uD wZ) bj (aHL ha hu jd gO) jX (λk hk hM=>gO k hk ?_) wZ;cases h0:ah M0 k with
   |none=>rfl
   |some x=>have:=e4 _ (kj h0);dsimp only at this;rw[hM]at this;cases this
  ·cases h
 ·cases h
theorem Sn{ops:Array Oper}:∀(l:List Oper) {fr:aR} {M:aH} {next:Nat} {rs:bI P B N} {r:qN P B N},yK ops l fr M next rs=some r->rR r.tr->Keys M next r.M r.next
 |[],fr,M,next,rs,r,h,_=>by injection h with h;subst h;exact Keys.refl _ _
 |o::l,fr,M,next,rs,r,h,hs=>by
  unfold yK at h;split at h
  ·split at h
   ·split at h
    ·rename_i e Ez EB bM;split at h
     ·rename_i r2 uA;injection h with h;subst h;obtain⟨_,_,oN⟩:=RZ (B:=B) bM (λp hp=>hs p (dX.2 (.inl hp)));have k2:=Sn l uA λp hp=>hs p (dX.2 (.inr hp));refine Keys.trans (M1:=e.cU++M) (n1:=A2 next e.cU) ⟨GR _ _,λk hk hM=>?_⟩ k2;rw[gZ];cases h1:ah e.cU k with
      |none=>exact hM
      |some x=>
       exfalso;obtain⟨q,hq,wU⟩:=oN.2 _ (kj h1);dsimp only at wU;rcases oN.1 q hq with ⟨y,h2,h3⟩|⟨h2,h3⟩
       ·rw[wU,hM]at h3;cases h3
       ·omega
     ·cases h
    ·cases h
   ·split at h
    ·rename_i r2 uA;injection h with h;subst h;have k2:=Sn l uA λp hp=>hs p (dX.2 (.inr hp));exact k2
    ·cases h
  ·cases h
theorem aHQ{x y:Code}{fr:aR}{M:aH}{next:Nat}{r1 r2:mz}(h1:ag P B N x fr M next r1)(hn:r1.ex=.normal)(hk:Keys M next r1.M r1.next)(h2:ag P B N y r1.fr r1.M r1.next r2):ag P B N (.seq x y) fr M next r2:=by intro R ι cc a w Q hf hm ha hu hQ;refine lM (h1 R ι cc a w _ hf hm ha hu λbP gB a1 w1 jy iT c7 eG dR iC jZ=>?_);rw[hn];refine h2 R bP gB a1 w1 Q iT c7 eG dR λdH rS a2 w2 lk jt dC iA fD fN rT=>?_;refine hQ dH rS a2 w2 (jy.trans lk) jt dC iA fD (λk mT hM=>by rw[fN k (cC mT hk.1) (hk.2 k mT hM),iC k mT hM]) λt ht=>?_;have Cz:t∉wl x++wl y:=MW ht;rw[rT t (JL λh=>Cz (dX.2 (.inr h))),jZ t (JL λh=>Cz (dX.2 (.inl h)))]
theorem Ze{x y:Code}{fr:aR}{M:aH}{next:Nat}{r1:mz}(h1:ag P B N x fr M next r1)(hn:r1.ex≠.normal):ag P B N (.seq x y) fr M next r1:=by
 intro R ι cc a w Q hf hm ha hu hQ;refine lM (h1 R ι cc a w _ hf hm ha hu λbP gB a1 w1 jy iT c7 eG dR iC jZ=>?_);have:=hQ bP gB a1 w1 jy iT c7 eG dR iC λt ht=>jZ t (JL λh=>(MW ht:t∉wl x++wl y) (dX.2 (.inl h)));cases hx:r1.ex with
 |normal=>exact absurd hx hn
 |exit id=>rw[hx]at this;exact this
 |ret=>rw[hx]at this;exact this
theorem bT{b:Code}{id:Nat}{fr:aR}{M:aH}{next:Nat}{r1:mz}(h1:ag P B N b fr M next r1):
  ag P B N (.block id b) fr M next ⟨(match r1.ex with|.exit k=>if Nat.beq k id then .normal else .exit k|e=>e),r1.fr,r1.M,r1.next⟩:=by
 intro R ι cc a w Q hf hm ha hu hQ;refine JM (h1 R ι cc a w _ hf hm ha hu λbP gB a1 w1 jy iT c7 eG dR iC jZ=>?_);have:=hQ bP gB a1 w1 jy iT c7 eG dR iC jZ;cases hx:r1.ex with
 |normal=>rw[hx]at this;exact this
 |ret=>rw[hx]at this;exact this
 |exit k=>
  rw[hx]at this;dsimp only at this;show(if k=id then Q .normal a1 w1 else Q (.exit k) a1 w1);by_cases hk:k=id
  ·rw[ax hk];subst hk;rw[show Nat.beq k k=true from EN k]at this;exact this
  ·rw[au hk];rw[ou hk]at this;exact this
theorem Sp(gF:P.follows .mixedOrders=true):∀(n:Nat),
  (∀(c:Code) (fr:aR) (M:aH) (next:Nat) (rs:bI P B N) (r:jY P B N),jc n c fr M next rs=some r->rR r.tr->ag P B N c fr M next r.out/\Keys M next r.M r.next)/\
  (∀(b:Code) (fr:aR) (M:aH) (next:Nat) (rs:bI P B N) (r:jY P B N),jc n (.loop b) fr M next rs=some r->rR r.tr->Keys M next r.M r.next/\∀(R:Option Nat) (ι:Map) (cc:Nat->Option Obj) (a:Act) (w:World) (Q:Exit->Act->World->Prop),fp B ι (bH fr) N a->aO B ι cc w->cV cc M->eM cc next->(∀ aw bZ a' w',Map.le ι aw->fp B aw (bH r.fr) N a'->aO B aw bZ w'->cV bZ r.M->eM bZ r.next->(∀ k,k<next->ah M k=none->bZ k=cc k)->(∀ t,uz b t=false->a'.tmps.getD t undef=a.tmps.getD t undef)->Q r.ex.AY a' w')->Code.roundsIn (FW R) 0 P b Q n a w):=by
 intro n;induction n with
 |zero=>exact⟨λc fr M next rs r h=>by simp[jc]at h,λb fr M next rs r h=>by simp[jc]at h⟩
 |succ n ih=>
  obtain⟨w7,ihl⟩:=ih;have loop:∀(b:Code) (fr:aR) (M:aH) (next:Nat) (rs:bI P B N) (r:jY P B N),jc (n+1) (.loop b) fr M next rs=some r->rR r.tr->
   Keys M next r.M r.next/\∀(R:Option Nat) (ι:Map) (cc:Nat->Option Obj) (a:Act) (w:World) (Q:Exit->Act->World->Prop),fp B ι (bH fr) N a->aO B ι cc w->cV cc M->eM cc next->
  (∀ aw bZ a' w',Map.le ι aw->fp B aw (bH r.fr) N a'->aO B aw bZ w'->cV bZ r.M->eM bZ r.next->(∀ k,k<next->ah M k=none->bZ k=cc k)->(∀ t,uz b t=false->a'.tmps.getD t undef=a.tmps.getD t undef)->Q r.ex.AY a' w')->Code.roundsIn (FW R) 0 P b Q (n+1) a w:=by
   intro b fr M next rs r h hs;simp only[jc]at h;cases hb:jc n b fr M next rs with
   |none=>rw[hb]at h;cases h
   |some r1=>
    rw[hb]at h;dsimp only at h;have out:r1.ex≠.normal->r=r1->_:=λaV (e:r=r1)=>by
     subst e;obtain⟨g1,k1⟩:=w7 b fr M next rs r hb hs;refine(⟨k1,λR ι cc a w Q hf hm ha hu hQ=>?_⟩:Keys M next r.M r.next/\∀(R:Option Nat) (ι:Map) (cc:Nat->Option Obj) (a:Act) (w:World) (Q:Exit->Act->World->Prop),fp B ι (bH fr) N a->aO B ι cc w->cV cc M->eM cc next->(∀ aw bZ a' w',Map.le ι aw->fp B aw (bH r.fr) N a'->aO B aw bZ w'->cV bZ r.M->eM bZ r.next->(∀ k,k<next->ah M k=none->bZ k=cc k)->(∀ t,uz b t=false->a'.tmps.getD t undef=a.tmps.getD t undef)->Q r.ex.AY a' w')->Code.roundsIn (FW R) 0 P b Q (n+1) a w);rw[EO];refine g1 R ι cc a w _ hf hm ha hu λbP gB a1 w1 jy iT c7 eG dR iC jZ=>?_;have:=hQ bP gB a1 w1 jy iT c7 eG dR iC jZ;show Exit.then _ Q r.ex.AY a1 w1;cases hx:r.ex with
     |normal=>exact absurd hx aV
     |exit id=>rw[hx]at this;exact this
     |ret=>rw[hx]at this;exact this
    cases hex:r1.ex with
    |normal=>
     rw[hex]at h;obtain⟨r2,h2,he⟩:=Zc h;subst he;obtain⟨g1,k1⟩:=w7 b fr M next rs r1 hb (λp hp=>hs p (dX.2 (.inl hp)));obtain⟨k2,g2⟩:=ihl b r1.fr r1.M r1.next r1.rs r2 h2 (λp hp=>hs p (dX.2 (.inr hp)));refine⟨k1.trans k2,λR ι cc a w Q hf hm ha hu hQ=>?_⟩;rw[EO];refine g1 R ι cc a w _ hf hm ha hu λbP gB a1 w1 jy iT c7 eG dR iC jZ=>?_;show Exit.then _ Q r1.ex.AY a1 w1;rw[hex];refine g2 R bP gB a1 w1 Q iT c7 eG dR λdH rS a2 w2 lk jt dC iA fD fN rT=>?_;exact hQ dH rS a2 w2 (jy.trans lk) jt dC iA fD (λk mT hM=>(fN k (cC mT k1.1) (k1.2 k mT hM)).trans (iC k mT hM)) λt ht=>(rT t ht).trans (jZ t ht)
    |exit id=>rw[hex]at h;injection h with h;exact out (by rw[hex];exact n_) h.symm
    |ret=>rw[hex]at h;injection h with h;exact out (by rw[hex];exact n_) h.symm
  refine⟨λc fr M next rs r h hs=>?_,loop⟩;cases c with
  |skip=>
   simp only[jc]at h;injection h with h;subst h;exact⟨λR ι cc a w Q hf hm ha hu hQ=>wpIn_skip (hQ ι cc a w (Map.le.refl _) hf hm ha hu (λ_ _ _=>rfl) λ_ _=>rfl),Keys.refl _ _⟩
  |exit id=>
   simp only[jc]at h;injection h with h;subst h;exact⟨λR ι cc a w Q hf hm ha hu hQ=>wpIn_exit (hQ ι cc a w (Map.le.refl _) hf hm ha hu (λ_ _ _=>rfl) λ_ _=>rfl),Keys.refl _ _⟩
  |ret=>
   simp only[jc]at h;injection h with h;subst h;exact⟨λR ι cc a w Q hf hm ha hu hQ=>JN (hQ ι cc a w (Map.le.refl _) hf hm ha hu (λ_ _ _=>rfl) λ_ _=>rfl),Keys.refl _ _⟩
  |region id ops draw=>
   simp only[jc]at h;split at h
   ·rename_i r1 h1;injection h with h;subst h;exact Zd h1 hs
   ·split at h
    ·rename_i r1 h1;split at h
     ·rename_i hd;injection h with h;subst h;refine⟨λR ι cc a w Q hf hm ha hu hQ=>?_,Sn _ h1 hs⟩;have Zf:R4 B N cc M next ι a (wW ops.toList) r1 (Q .normal):=λaw bZ a' w' hle uD bj jd jX gO wZ=>hQ aw bZ a' w' hle uD bj jd jX gO λt ht=>wZ t (by
       have hn:t∉ops.toList.filterMap (·.dst):=MW ht;cases hb:wW ops.toList t with
       |false=>rfl
       |true=>
        unfold wW at hb;rw[qM]at hb;obtain⟨o,ho,MX⟩:=hb;exfalso;refine hn (YF.2 ⟨o,ho,?_⟩);cases Cx:o.dst with
        |none=>rw[Cx]at MX;cases MX
        |some d=>rw[Cx]at MX;rw[ki MX])
      cases draw with
      |false=>exact wpIn_region_list (R5 _ h1 hs hf hm ha hu Zf)
      |true=>exact aHI gF h1 hs hd hf hm ha hu Zf
     ·cases h
    ·cases h
  |seq x y=>
   simp only[jc]at h;cases hx:jc n x fr M next rs with
   |none=>rw[hx]at h;cases h
   |some r1=>
    rw[hx]at h;dsimp only at h;cases hex:r1.ex with
    |normal=>
     rw[hex]at h;obtain⟨r2,h2,he⟩:=Zc h;subst he;obtain⟨g1,k1⟩:=w7 x fr M next rs r1 hx (λp hp=>hs p (dX.2 (.inl hp)));obtain⟨g2,k2⟩:=w7 y r1.fr r1.M r1.next r1.rs r2 h2 (λp hp=>hs p (dX.2 (.inr hp)));exact⟨aHQ g1 hex k1 g2,k1.trans k2⟩
    |exit id=>
     rw[hex]at h;injection h with h;subst h;obtain⟨g1,k1⟩:=w7 x fr M next rs r1 hx hs;exact⟨Ze g1 (by show r1.ex≠_;rw[hex];exact n_),k1⟩
    |ret=>
     rw[hex]at h;injection h with h;subst h;obtain⟨g1,k1⟩:=w7 x fr M next rs r1 hx hs;exact⟨Ze g1 (by show r1.ex≠_;rw[hex];exact n_),k1⟩
  |cond EP x y=>
   simp only[jc]at h;cases hc:gk (bH fr) EP with
   |bool b=>
    rw[hc]at h;have he:∀(ι:Map) (a:Act),fp B ι (bH fr) N a->a.eval EP=.bool b:=by
     intro ι a hf;cases EP with
     |tmp t=>
      have:bH fr t=.bool b:=hc;have hs:=hf.slot t;rw[this]at hs;exact(hs.AO rfl).bool
     |const v=>exact hc
     |global g=>exact hc
     |func f=>exact hc
    have fin:∀ z:Code,(∀ t,t∈wl z->t∈wl (Code.cond EP x y))->ag P B N z fr M next r.out->(∀(R:Option Nat) (Q:Exit->Act->World->Prop) (a:Act) (w:World),a.eval EP=.bool b->z.wpIn (FW R) 0 P Q a w->(Code.cond EP x y).wpIn (FW R) 0 P Q a w)->ag P B N (.cond EP x y) fr M next r.out:=by intro z hz g hw R ι cc a w Q hf hm ha hu hQ;refine hw R Q a w (he ι a hf) (g R ι cc a w Q hf hm ha hu λbP gB a1 w1 jy iT c7 eG dR iC jZ=>hQ bP gB a1 w1 jy iT c7 eG dR iC λt ht=>jZ t (JL λhm=>MW ht (hz t hm)))
    cases b with
    |true=>
     obtain⟨g1,k1⟩:=w7 x fr M next rs r h hs;exact⟨fin x (λt ht=>dX.2 (.inl ht)) g1 (λR Q a w e h=>wpIn_cond e h),k1⟩
    |false=>
     obtain⟨g1,k1⟩:=w7 y fr M next rs r h hs;exact⟨fin y (λt ht=>dX.2 (.inr ht)) g1 (λR Q a w e h=>wpIn_cond e h),k1⟩
   |_=>rw[hc]at h;cases h
  |block id b=>
   simp only[jc]at h;split at h
   ·rename_i r1 h1;injection h with h;subst h;exact Zd h1 hs
   ·cases hb:jc n b fr M next rs with
    |none=>rw[hb]at h;cases h
    |some r1=>
     rw[hb]at h;dsimp only at h;cases hex:r1.ex with
     |normal=>
      rw[hex]at h;injection h with h;subst h;obtain⟨g1,k1⟩:=w7 b fr M next rs r1 hb hs;have:=bT (id:=id) g1;rw[show r1.out.ex=Ex.normal from hex]at this;refine⟨?_,k1⟩;have e:r1.out=⟨.normal,r1.fr,r1.M,r1.next⟩:=by unfold jY.out;rw[hex]
      rw[e];exact this
     |ret=>
      rw[hex]at h;injection h with h;subst h;obtain⟨g1,k1⟩:=w7 b fr M next rs r1 hb hs;have:=bT (id:=id) g1;rw[show r1.out.ex=Ex.ret from hex]at this;refine⟨?_,k1⟩;have e:r1.out=⟨.ret,r1.fr,r1.M,r1.next⟩:=by unfold jY.out;rw[hex]
      rw[e];exact this
     |exit k=>
      rw[hex]at h;injection h with h;subst h;obtain⟨g1,k1⟩:=w7 b fr M next rs r1 hb hs;have:=bT (id:=id) g1;rw[show r1.out.ex=Ex.exit k from hex]at this;exact⟨this,k1⟩
  |loop b=>
   obtain⟨k1,g1⟩:=loop b fr M next rs r h hs;exact⟨λR ι cc a w Q hf hm ha hu hQ=>Sq (n+1) (g1 R ι cc a w Q hf hm ha hu hQ),k1⟩
  |_=>simp[jc]at h
end
section
variable{P:Program}{B:aa}{N:Nat}
theorem Zg{ι:Map}{fr Sr:aR}{a:Act}(hf:fp B ι (bH fr) N a)(h:∀ p∈Sr,bH fr p.1=p.2):fp B ι (bH Sr) N a:=by
 refine⟨hf.defers,hf.size,λt=>?_⟩;induction Sr with
 |nil=>exact .inl rfl
 |cons p l ih=>
  obtain⟨s,v⟩:=p;by_cases bM:s=t
  ·subst bM;have this:bH fr s=v:=h _ (aU ..);have e:bH ((s,v)::l) s=v:=by simp[bH]
   rw[e,<-this];exact hf.slot s
  ·have e:bH ((s,v)::l) t=bH l t:=by show(if Nat.beq s t then _ else _)=_;rw[ou bM];rfl
   rw[e];exact ih λp hp=>h p (bE _ hp)
theorem ag.to{c:Code}{fr:aR}{M:aH}{next:Nat}{r1 r2:mz}(h:ag P B N c fr M next r1)(hex:r1.ex=r2.ex)(mS:∀ p∈r2.fr,bH r1.fr p.1=p.2)
  (hM:∀ p∈r2.M,ah r1.M p.1=some p.2) (hn:r1.next<=r2.next):ag P B N c fr M next r2:=by
 intro R ι cc a w Q hf hm ha hu hQ;refine h R ι cc a w Q hf hm ha hu λbP gB a1 w1 jy iT c7 eG dR iC jZ=>?_;rw[hex];exact hQ bP gB a1 w1 jy (Zg iT mS) c7 (λk x hk=>eG k x (hM _ (kj hk))) (λk hk=>dR k (dh hn hk)) iC jZ
theorem j0:∀{l m:aH},keys l=keys m->∀ k,(ah l k=none↔ah m k=none)
 |[],[],_,k=>Iff.rfl
 |[],_::_,h,k=>by cases h
 |_::_,[],h,k=>by cases h
 |(i,x)::l,(j,y)::m,h,k=>by
  injection h with h1 h2;dsimp only at h1;subst h1;show(if Nat.beq i k then some x else ah l k)=none↔(if Nat.beq i k then some y else ah m k)=none;cases Nat.beq i k
  ·exact j0 h2 k
  ·simp
theorem cd{b:Code}{next:Nat}{r:mz}(n:Nat)(I:Nat->aR)(J:Nat->aH)(j4:∀ i k,i<=n->(ah (J i) k=none↔ah (J 0) k=none))
  (body:∀ i,i<n->ag P B N b (I i) (J i) next ⟨.normal,I (i+1),J (i+1),next⟩) (last:ag P B N b (I n) (J n) next r) (hr:r.ex≠.normal):ag P B N (.loop b) (I 0) (J 0) next r:=by
 intro R ι cc a w Q hf hm ha hu hQ;refine Sq (n+1) ?_;have key:∀ d i,i+d=n->∀(bP:Map) (gB:Nat->Option Obj) (a1:Act) (w1:World),Map.le ι bP->fp B bP (bH (I i)) N a1->aO B bP gB w1->cV gB (J i)->eM gB next->(∀ k,k<next->ah (J 0) k=none->gB k=cc k)->
   (∀ t,uz (.loop b) t=false->a1.tmps.getD t undef=a.tmps.getD t undef)->Code.roundsIn (FW R) 0 P b Q (d+1) a1 w1:=by
  intro d;induction d with
  |zero=>
   intro i hi bP gB a1 w1 jy iT c7 eG dR iC jZ;have:i=n:=by omega
   subst this;rw[EO];refine last R bP gB a1 w1 _ iT c7 eG dR λdH rS a2 w2 lk jt dC iA fD fN rT=>?_;have:=hQ dH rS a2 w2 (jy.trans lk) jt dC iA fD (λk hk h0=>(fN k hk ((j4 i k (bt _)).2 h0)).trans (iC k hk h0)) λt ht=>(rT t ht).trans (jZ t ht);show Exit.then _ Q r.ex.AY a2 w2;cases hx:r.ex with
   |normal=>exact absurd hx hr
   |exit id=>rw[hx]at this;exact this
   |ret=>rw[hx]at this;exact this
  |succ d ih=>
   intro i hi bP gB a1 w1 jy iT c7 eG dR iC jZ;rw[EO];refine body i o_ R bP gB a1 w1 _ iT c7 eG dR λdH rS a2 w2 lk jt dC iA fD fN rT=>?_;exact ih (i+1) o_ dH rS a2 w2 (jy.trans lk) jt dC iA fD (λk hk h0=>(fN k hk ((j4 i k o_).2 h0)).trans (iC k hk h0)) λt ht=>(rT t ht).trans (jZ t ht)
 exact key n 0 o_ ι cc a w (Map.le.refl _) hf hm ha hu (λ_ _ _=>rfl) λ_ _=>rfl
theorem JO{ι:Map}:∀{v v1 v2:Value},aG ι v v1->aG ι v v2->v1=v2:=by
 intro v v1 v2 h;revert v2;apply aG.rec (motive_1:=λv v1 _=>∀ v2,aG ι v v2->v1=v2) (motive_2:=λl l1 _=>∀ l2,bL (aG ι) l l2->l1=l2) (t:=h)
 case same=>intro v hf v2 h2;exact(h2.eY hf).symm
 case ptr=>
  intro k off b o cap hk v2 h2;obtain⟨b',o',aQ,h3,h4⟩:=h2.yB rfl;rw[hk]at h3;injection h3 with h3;injection h3 with h3 h5 _;subst h3;subst h5;rw[h4]
 case slc=>
  intro k off b o n c c' cap hk h1 h2 v2 h3;rcases h3.iw rfl with ⟨h4,_⟩|⟨b',o',aQ,c2,h4,_,h6,h7⟩
  ·rw[hk]at h4;cases h4
  ·rw[hk]at h4;injection h4 with h4;injection h4 with h4 h5 h8;subst h4;subst h5;subst h8;rw[h7,show c'=c2 by omega]
 case slcN=>
  intro k hk v2 h3;rcases h3.iw rfl with ⟨_,_,_,_,h4⟩|⟨b',o',aQ,c2,h4,_⟩
  ·exact h4.symm
  ·rw[hk]at h4;cases h4
 case opq=>
  intro k v hk h1 h2 v2 h3;cases h3 with
  |same hf=>simp[flat,qE,od,l9,mN]at hf
  |opq gO _ _=>rw[hk]at gO;injection gO with gO;injection gO
 case fn=>
  intro f fi kv ca fe _ _ Ss Su v2 h3;obtain⟨fi2,Zh,e,h4,h5⟩:=h3.Co;rw[e,Ss _ h4,Su _ h5]
 case agg=>
  intro cs bA _ ih v2 h3;obtain⟨cs2,e,h4⟩:=h3.Jt;rw[e,ih _ h4]
 case tup=>
  intro cs bA _ ih v2 h3;obtain⟨cs2,e,h4⟩:=h3.um;rw[e,ih _ h4]
 case nil=>intro l2 h2;cases h2;rfl
 case cons=>
  intro a b l m _ _ Ss Su l2 h2;cases h2 with
  |cons h3 h4=>rw[Ss _ h3,Su _ h4]
theorem ER{ι:Map}:∀{l l1 l2:aj},bL (aG ι) l l1->bL (aG ι) l l2->l1=l2
 |_,_,_,.nil,h=>by cases h;rfl
 |_,_,_,.cons h t,h2=>by cases h2 with|cons h3 t3=>rw[JO h h3,ER t t3]
def GX(m:Nat)(a:Addr):Bool:=mN a||Nat.blt a.block m
def CA(m:Nat):Value->Bool
 |.pointer (some a)=>GX m a
 |.slice (some a) _ _=>GX m a
 |.agg _=>false
 |.tuple _=>false
 |.func _ _ _=>false
 |_=>true
def CB(m:Nat):Value->Bool
 |.func _ fi ca=>fi.toList.all (CA m)&&ca.toList.all (CA m)
 |v=>CA m v
def ES(m:Nat):Value->Bool
 |.agg cs=>cs.toList.all (CB m)
 |v=>CB m v
def nM(m:Nat):Value->Bool
 |.tuple vs=>vs.toList.all (ES m)
 |v=>ES m v
theorem MY{m:Nat}{v:Value}(h:l9 v=true):CA m v=true:=by
 cases v with
 |pointer a=>cases a with
  |none=>rfl
  |some a=>show(mN a||_)=true;rw[show mN a=true from h];rfl
 |slice a n c=>cases a with
  |none=>rfl
  |some a=>show(mN a||_)=true;rw[show mN a=true from h];rfl
 |_=>exact h
theorem MZ{m:Nat}{v:Value}(h:od v=true):CB m v=true:=by
 cases v with
 |func f fi ca=>
  simp only[od,de,bh]at h;simp only[CB,de,bh];exact⟨λc hc=>MY (h.1 c hc),λc hc=>MY (h.2 c hc)⟩
 |pointer a=>exact MY (v:=.pointer a) h
 |slice a n c=>exact MY (v:=.slice a n c) h
 |_=>first|rfl|exact h
theorem JP{m:Nat}{v:Value}(h:qE v=true):ES m v=true:=by
 cases v with
 |agg cs=>
  simp only[qE,bh]at h;simp only[ES,bh];exact λc hc=>MZ (h c hc)
 |pointer a=>exact MZ (v:=.pointer a) h
 |slice a n c=>exact MZ (v:=.slice a n c) h
 |func f fi ca=>exact MZ (v:=.func f fi ca) h
 |_=>first|rfl|exact h
theorem gQ{m:Nat}{v:Value}(h:flat v=true):nM m v=true:=by
 cases v with
 |tuple cs=>
  simp only[flat,bh]at h;simp only[nM,bh];exact λc hc=>JP (h c hc)
 |pointer a=>exact JP (v:=.pointer a) h
 |slice a n c=>exact JP (v:=.slice a n c) h
 |func f fi ca=>exact JP (v:=.func f fi ca) h
 |agg cs=>exact JP (v:=.agg cs) h
 |_=>first|rfl|exact h
theorem aG.low{ι κ:Map}{m:Nat}(rX:∀ k,k<m->∀ l,ι k=some l->κ k=some l){v v':Value}(h:aG ι v v')(hb:nM m v=true):aG κ v v':=by
 have addr:∀(a:Addr) (s:Nat),a.spot=some s->GX m a=true->a.block<m:=by intro a s hs h;unfold GX mN at h;rw[hs]at h;simpa[A1]using h
 have hP:∀ v v',aG ι v v'->CA m v=true->aG κ v v':=by
  intro v v' h hb;cases h with
  |same hf=>exact .same hf
  |ptr hk=>exact .ptr (rX _ (addr _ 7 rfl hb) _ hk)
  |slc hk h1 h2=>exact .slc (rX _ (addr _ 7 rfl hb) _ hk) h1 h2
  |slcN hk=>exact .slcN (rX _ (addr _ 7 rfl hb) _ hk)
  |opq hk h1 h2=>exact .opq (rX _ (addr _ 9 rfl hb) _ hk) h1 h2
  |_=>simp[CA]at hb
 have uk:∀(Q:Value->Bool),(∀ v v',aG ι v v'->Q v=true->aG κ v v')->∀ l l',bL (aG ι) l l'->(∀ c∈l,Q c=true)->bL (aG κ) l l':=by
  intro Q hQ l l' h;induction h with
  |nil=>intro _;exact .nil
  |cons h t ih=>
   intro hl;exact .cons (hQ _ _ h (hl _ (aU ..))) (ih λc hc=>hl c (bE _ hc))
 have h0:∀ v v',aG ι v v'->CB m v=true->aG κ v v':=by
  intro v v' h hb;cases h with
  |fn h1 h2=>
   simp only[CB,de,bh]at hb;exact .fn (uk _ hP _ _ h1 hb.1) (uk _ hP _ _ h2 hb.2)
  |same hf=>exact .same hf
  |ptr hk=>exact hP _ _ (.ptr hk) hb
  |slc hk h1 h2=>exact hP _ _ (.slc hk h1 h2) hb
  |slcN hk=>exact hP _ _ (.slcN hk) hb
  |opq hk h1 h2=>exact hP _ _ (.opq hk h1 h2) hb
  |_=>simp[CB,CA]at hb
 have h1:∀ v v',aG ι v v'->ES m v=true->aG κ v v':=by
  intro v v' h hb;cases h with
  |agg h1=>
   simp only[ES,bh]at hb;exact .agg (uk _ h0 _ _ h1 hb)
  |same hf=>exact .same hf
  |ptr hk=>exact h0 _ _ (.ptr hk) hb
  |slc hk h1 h2=>exact h0 _ _ (.slc hk h1 h2) hb
  |slcN hk=>exact h0 _ _ (.slcN hk) hb
  |opq hk h1 h2=>exact h0 _ _ (.opq hk h1 h2) hb
  |fn h1 h2=>exact h0 _ _ (.fn h1 h2) hb
  |_=>simp[ES,CB,CA]at hb
 cases h with
 |tup h2=>
  simp only[nM,bh]at hb;exact .tup (uk _ h1 _ _ h2 hb)
 |same hf=>exact .same hf
 |ptr hk=>exact h1 _ _ (.ptr hk) hb
 |slc hk q1 q2=>exact h1 _ _ (.slc hk q1 q2) hb
 |slcN hk=>exact h1 _ _ (.slcN hk) hb
 |opq hk q1 q2=>exact h1 _ _ (.opq hk q1 q2) hb
 |fn q1 q2=>exact h1 _ _ (.fn q1 q2) hb
 |agg q1=>exact h1 _ _ (.agg q1) hb
def eA(m:Nat)(x:Obj):Prop:=∀ v∈x.cells,nM m v=true
theorem jG.below{ι κ:Map}{m:Nat}(rX:∀ k,k<m->∀ l,ι k=some l->κ k=some l){w:World}{l:po}{x:Obj}(h:jG ι w l x)(hb:eA m x):jG κ w l x:=by
 have uk:∀{l l':aj},bL (aG ι) l l'->(∀ c∈l,nM m c=true)->bL (aG κ) l l':=by
  intro l l' h hl;induction h with
  |nil=>exact .nil
  |cons h t ih=>exact .cons (h.low rX (hl _ (aU ..))) (ih λc hc=>hl c (bE _ hc))
 cases x with
 |aI cells ty=>obtain⟨b,bA,h1,h2,h3⟩:=h;exact⟨b,bA,h1,uk h2 hb,h3⟩
 |row cells ty size=>
  rcases h with h|⟨b,cap,cur,h1,h2,h3,h4,h5⟩
  ·exact .inl h
  ·exact .inr ⟨b,cap,cur,h1,h2,h3,h4,uk h5 hb⟩
 |view cells=>
  rcases h with h|⟨b,o,cap,bA,h1,h2,h3⟩
  ·exact .inl h
  ·exact .inr ⟨b,o,cap,bA,h1,uk h2 hb,h3⟩
 |fact F=>exact h
 |dead=>trivial
theorem ag.reset{c:Code}{fr:aR}{M:aH}{next:Nat}{r1 r2:mz}(h:ag P B N c fr M next r1)(hex:r1.ex=r2.ex)(mS:∀ p∈r2.fr,bH r1.fr p.1=p.2)(M3:∀ p∈r2.fr,nM next p.2=true)
  (hM:∀ p∈r2.M,ah r1.M p.1=some p.2) (Sv:∀ p∈r2.M,eA next p.2) (M4:∀ p∈r2.M,p.1<next) (hn:next<=r2.next):ag P B N c fr M next r2:=by
 intro R ι cc a w Q hf hm ha hu hQ;refine h R ι cc a w Q hf hm ha hu λbP gB a1 w1 jy iT c7 eG dR iC jZ=>?_;rw[hex];have rX:∀ k,k<next->∀ l,bP k=some l->(λk=>if k<next then bP k else none) k=some l:=λk hk l e=>by simp[hk,e]
 have A6:∀ k l,(λk=>if k<next then bP k else none) k=some l->k<next/\bP k=some l:=λk l e=>by
  dsimp only at e;split at e
  ·rename_i hk;exact⟨hk,e⟩
  ·cases e
 generalize (λk=>if k<next then bP k else none)=κ at rX A6;have hle:Map.le ι κ:=λk l e=>by
  have hk:k<next:=by
   rcases eL k next with h|h
   ·exact h
   ·rw[hm.du k (hu k h)]at e;cases e
  exact rX k hk l (jy k l e)
 -- what is kept: what Zi not looked at,and what is known;the rest is dead
 have aHR:∃ c2:Nat->Option Obj,(∀ k,c2 k=none↔(next<=k\/gB k=none))/\(∀ k x,c2 k=some x->x=.dead\/(gB k=some x/\((ah M k=none)\/ah r2.M k=some x)))/\(∀ k x,ah r2.M k=some x->c2 k=some x)/\(∀ k,k<next->ah M k=none->ah r2.M k=none->c2 k=gB k):=by
  refine⟨λk=>if k<next then(match gB k with|none=>none|some x=>match ah r2.M k with|some y=>some y|none=>match ah M k with|none=>some x|some _=>some .dead)else none,?_,?_,?_,?_⟩
  ·intro k;dsimp only;by_cases hk:k<next
   ·rw[ax hk];cases hc:gB k with
    |none=>simp
    |some x=>cases h2:ah r2.M k<;>cases h3:ah M k<;>simp<;>omega
   ·rw[au hk];simp;left;omega
  ·intro k x hx;dsimp only at hx;split at hx
   ·cases hc:gB k with
    |none=>rw[hc]at hx;cases hx
    |some y=>
     rw[hc]at hx;dsimp only at hx;cases h2:ah r2.M k with
     |some z=>
      rw[h2]at hx;injection hx with hx;subst hx;have:=eG k z (hM _ (kj h2));rw[hc]at this;exact .inr ⟨this,.inr rfl⟩
     |none=>
      rw[h2]at hx;dsimp only at hx;cases h3:ah M k with
      |none=>rw[h3]at hx;injection hx with hx;subst hx;exact .inr ⟨rfl,.inl rfl⟩
      |some z=>rw[h3]at hx;injection hx with hx;exact .inl hx.symm
   ·cases hx
  ·intro k x hx;have h1:=eG k x (hM _ (kj hx));have h2:=M4 _ (kj hx);dsimp only at h2 ⊢;rw[ax h2,h1];dsimp only;rw[hx]
  ·intro k hk h1 h2;dsimp only;rw[ax hk];cases hc:gB k with
   |none=>rfl
   |some x=>rw[h2,h1]
 obtain⟨c2,d1,d2,d3,d4⟩:=aHR;have ET:∀ k x,c2 k=some x->x.owns=true->gB k=some x:=λk x hk hx=>by
  rcases d2 k x hk with rfl|⟨h1,_⟩
  ·cases hx
  ·exact h1
 have dC:aO B κ c2 w1:=by
  refine⟨c7.base,?_,?_,?_,?_,?_,?_,?_,?_,hm.oL.trans hle⟩
  ·intro k hk;cases aHS:κ k with
   |none=>rfl
   |some l=>
    obtain⟨q1,q2⟩:=A6 k l aHS;rcases(d1 k).1 hk with q|q
    ·omega
    ·rw[c7.du k q]at q2;cases q2
  ·intro k x hk;have mT:k<next:=by
    rcases eL k next with h|h
    ·exact h
    ·rw[(d1 k).2 (.inl h)]at hk;cases hk
   have gA:∃ y,gB k=some y:=by
    cases hc:gB k with
    |some y=>exact⟨y,rfl⟩
    |none=>rw[(d1 k).2 (.inr hc)]at hk;cases hk
   obtain⟨y,hy⟩:=gA;obtain⟨l,q1,q2⟩:=c7.born k y hy;refine⟨l,rX k mT l q1,?_⟩;rcases d2 k x hk with rfl|⟨h1,h2⟩
   ·trivial
   ·rw[hy]at h1;injection h1 with h1;subst h1;rcases h2 with h2|h2
    ·-- as it Zi
     have e0:cc k=some y:=(iC k mT h2).symm.trans hy;obtain⟨l0,p1,p2⟩:=hm.born k y e0;have p3:=jy k l0 p1;rw[q1]at p3;injection p3 with p3;subst p3;cases y with
     |aI cells ty=>
      obtain⟨b,bA,e1,e2,e3⟩:=q2;obtain⟨b0,Zj,f1,f2,f3⟩:=p2;rw[e1]at f1;injection f1 with f1 _ _;subst f1;have:bA=Zj:=ER e2 (oe jy f2);subst this;exact⟨b,bA,e1,oe hle f2,e3⟩
     |row cells ty size=>
      rcases q2 with q2|⟨b,cap,cur,e1,e2,e3,e4,e5⟩
      ·exact .inl q2
      ·rcases p2 with p2|⟨b0,aHT,aVu,f1,f2,f3,f4,f5⟩
       ·rw[e1]at p2;cases p2.1
       ·have:=ER e5 (oe jy f5);exact .inr ⟨b,cap,cur,e1,e2,e3,e4,by rw[this];exact oe hle f5⟩
     |view cells=>
      rcases q2 with q2|⟨b,o,cap,bA,e1,e2,e3⟩
      ·exact .inl q2
      ·rcases p2 with p2|⟨b0,o0,aHT,Zj,f1,f2,f3⟩
       ·rw[e1]at p2;cases p2.1
       ·have:=ER e2 (oe jy f2);subst this;exact .inr ⟨b,o,cap,bA,e1,oe hle f2,e3⟩
     |fact F=>exact q2
     |dead=>trivial
    ·exact q2.below rX (Sv _ (kj h2))
  ·intro k x b o cap hk hx hl;exact c7.own k x b o cap (ET k x hk hx) hx (A6 k _ hl).2
  ·intro i j x y b o1 c1 o3 c3 hi hx hj hy hl cv;exact c7.inj i j x y b o1 c1 o3 c3 (ET i x hi hx) hx (ET j y hj hy) hy (A6 i _ hl).2 (A6 j _ cv).2
  ·intro i j x F b o cap v hi hx hl hj hv;have iH:gB j=some (.fact F):=by
    rcases d2 j _ hj with h|⟨h,_⟩
    ·cases h
    ·exact h
   exact c7.apart i j x F b o cap v (ET i x hi hx) hx (A6 i _ hl).2 iH (A6 j _ hv).2
  ·intro k x b o cap hk hx hl;have aHU:gB k=some x:=by
    rcases d2 k x hk with rfl|⟨h1,_⟩
    ·cases hx
    ·exact h1
   obtain⟨q1,q2⟩:=c7.seen k x b o cap aHU hx (A6 k _ hl).2;exact⟨q1,λj y o' aQ hj hy hm=>q2 j y o' aQ (ET j y hj hy) hy (A6 j _ hm).2⟩
  ·intro j F hj;rcases d2 j _ hj with h|⟨h,_⟩
   ·cases h
   ·exact c7.fa j F h
  ·intro i j F F' hi hj;rcases d2 i _ hi with h|⟨h,_⟩
   ·cases h
   ·rcases d2 j _ hj with h'|⟨h',_⟩
    ·cases h'
    ·exact c7.one i j F F' h h'
 refine hQ κ c2 a1 w1 hle ⟨iT.defers,iT.size,λt=>?_⟩ dC (λk x hk=>d3 k x hk) (λk hk=>(d1 k).2 (.inl (dh hn hk))) (λk hk h1=>?_) jZ
 ·have hs:=(Zg iT mS).slot t;have:∀(l:aR),(∀ p∈l,nM next p.2=true)->nI bP (bH l t) (a1.tmps.getD t undef)->nI κ (bH l t) (a1.tmps.getD t undef):=by
   intro l;induction l with
   |nil=>intro _ _;exact .inl rfl
   |cons p l ih=>
    intro hl hc;obtain⟨s,v⟩:=p;by_cases bM:s=t
    ·subst bM;have e:bH ((s,v)::l) s=v:=by simp[bH]
     rw[e]at hc ⊢;exact hc.imp id λhc=>hc.low rX (hl _ (aU ..))
    ·have e:bH ((s,v)::l) t=bH l t:=by show(if Nat.beq s t then _ else _)=_;rw[ou bM];rfl
     rw[e]at hc ⊢;exact ih (λp hp=>hl p (bE _ hp)) hc
  exact this r2.fr M3 hs
 ·cases h2:ah r2.M k with
  |none=>rw[d4 k hk h1 h2,iC k hk h1]
  |some x=>rw[d3 k x h2,<-iC k hk h1];exact(eG k x (hM _ (kj h2))).symm
end
section
variable{P:Program}{B:aa}{N:Nat}
def M5(P:Program)(fr:aR)(M:aH):ResultVar->Option Value
 |.tmp t=>if mf (bH fr t)then none else some (bH fr t)
 |.cell t ty=>match bH fr t with
  |.pointer (some ad)=>if nH ad then(match ah M ad.block with|some x=>if x.reads then dw P ty x.cells ad.off else none|none=>none)else none
  |_=>none
def JQ(P:Program)(fr:aR)(M:aH):List ResultVar->Option aj
 |[]=>some []
 |r::l=>match M5 P fr M r with
  |some v=>match JQ P fr M l with|some vs=>some (v::vs)|none=>none
  |none=>none
def A7(P:Program)(fn:Func)(fr:aR)(M:aH):Option Value:=
 match JQ P fr M fn.results.toList with
 |some [v]=>some v
 |some vs=>some (.tuple vs.toArray)
 |none=>none
def rv(tmps:Array Value):ResultVar->Sem Value
 |.tmp t=>pure (tmps.getD t undef)
 |.cell x t=>do loadVar t (<-asAddr (tmps.getD x undef))
theorem aHV{ι:Map}{cc:Nat->Option Obj}{fr:aR}{M:aH}{a:Act}{w:World}(hf:fp B ι (bH fr) N a)(hm:aO B ι cc w)(ha:cV cc M){r:ResultVar}{v:Value}
  (h:M5 P fr M r=some v):∃ v',aG ι v v'/\(rv a.tmps r).run P w=.ok v' w:=by
 cases r with
 |tmp t=>
  unfold M5 at h;dsimp only at h;split at h
  ·cases h
  ·rename_i hn;injection h with h;subst h;exact⟨_,(hf.slot t).AO (by simpa using hn),rfl⟩
 |cell t ty=>
  unfold M5 at h;dsimp only at h;split at h
  ·rename_i ad hx;split at h
   ·rename_i dO;split at h
    ·rename_i x hblk;split at h
     ·rename_i hrd;have hc:=hf.slot t;rw[hx]at hc;have hc:=hc.AO rfl;rw[Cu dO]at hc;obtain⟨v',a',he,tt,pY⟩:=Yk hm (ha _ _ hblk) hrd h hc;refine⟨v',tt,?_⟩;unfold rv;dsimp only;rw[he];simp[asAddr,pY]
     ·cases h
    ·cases h
   ·cases h
  ·cases h
theorem Zk{ι:Map}{cc:Nat->Option Obj}{fr:aR}{M:aH}{a:Act}{w:World}(hf:fp B ι (bH fr) N a)(hm:aO B ι cc w)(ha:cV cc M):∀(l:List ResultVar) {vs:aj},
  JQ P fr M l=some vs->∃ cP,bL (aG ι) vs cP/\(l.mapM (rv a.tmps)).run P w=.ok cP w
 |[],vs,h=>by injection h with h;subst h;exact⟨[],.nil,rfl⟩
 |r::l,vs,h=>by
  unfold JQ at h;split at h
  ·rename_i v hv;split at h
   ·rename_i vs1 aP;injection h with h;subst h;obtain⟨v',hc,pY⟩:=aHV hf hm ha hv;obtain⟨cP,gj,aHW⟩:=Zk hf hm ha l aP;refine⟨v'::cP,.cons hc gj,?_⟩;rw[JR,Jz,pY,Result.andThen_ok,Jz,aHW,Result.andThen_ok];rfl
   ·cases h
  ·cases h
theorem M6{ι:Map}{cc:Nat->Option Obj}{fn:Func}{fr:aR}{M:aH}{a:Act}{w:World}(hf:fp B ι (bH fr) N a)(hm:aO B ι cc w)(ha:cV cc M){v:Value}
  (h:A7 P fn fr M=some v):∃ v',aG ι v v'/\(results fn a.tmps).run P w=.ok v' w:=by
 unfold A7 at h;cases hr:JQ P fr M fn.results.toList with
 |none=>rw[hr]at h;cases h
 |some vs=>
  obtain⟨cP,gj,pY⟩:=Zk hf hm ha _ hr;have e:(results fn a.tmps).run P w=.ok (if h:cP.toArray.size=1 then cP.toArray[0]else .tuple cP.toArray) w:=by
   have e0:results fn a.tmps=(do let vs <-fn.results.mapM (rv a.tmps);pure (if h:vs.size=1 then vs[0]else .tuple vs)):=by
    unfold results
    congr 1
   rw[e0];rw[Array.mapM_eq_mapM_toList,Jz,Sem.run_map,pY];rfl
  rw[e];rw[hr]at h;cases gj with
  |nil=>injection h with h;subst h;exact⟨_,.same rfl,by simp⟩
  |cons h1 t1=>
   cases t1 with
   |nil=>injection h with h;subst h;exact⟨_,h1,by simp⟩
   |cons h2 t2=>injection h with h;subst h;exact⟨_,.tup (.cons h1 (.cons h2 t2)),by simp⟩
def jL:Nat->aj->aR
 |_,[]=>[]
 |i,v::l=>(i,v)::jL (i+1) l
theorem M7{ι:Map}:∀{l l':aj},bL (aG ι) l l'->∀(i t:Nat) (tail:aj),nI ι (bH (jL i l) t) (if i<=t then(l'++tail).getD (t-i) undef else undef)\/mf (bH (jL i l) t)=true
 |_,_,.nil,i,t,tail=>.inr rfl
 |_,_,.cons (a:=v) (b:=v') (l:=l) (m:=m) h k,i,t,tail=>by
  by_cases yN:i=t
  ·subst yN;left;right;have e:bH (jL i (v::l)) i=v:=by simp[jL,bH]
   rw[e];simpa using h
  ·have e:bH (jL i (v::l)) t=bH (jL (i+1) l) t:=by show(if Nat.beq i t then _ else _)=_;rw[ou yN];rfl
   rw[e];rcases M7 k (i+1) t tail with h1|h1
   ·left;by_cases ak:i+1<=t
    ·rw[ax ak]at h1;rw[ax o_];have:t-i=(t-(i+1))+1:=by omega
     rw[this];simpa using h1
    ·by_cases hle:i<=t
     ·omega
     ·rw[au ak]at h1;rw[au hle];exact h1
   ·exact .inr h1
theorem Zl{c:Code}{Q:Exit->Act->World->Prop}{a:Act}{w:World}{n:Nat}(h:c.wpIn (FW none) n P Q a w):c.wp P Q a w:=wpIn_wide.1 h
theorem aHX{f:FuncId}{fn:Func}{c:Code}{args args':aj}{M:aH}{next:Nat}{r:mz}{v:Value}{ι:Map}{cc:Nat->Option Obj}{w:World}{Q:Ending->World->Prop}
  (hf:P.funcs[f]?=some fn) (hb:fn.body=some c) (hN:N=args.length+(fn.ntmps-args.length)) (g:ag P B N c (jL 0 args) M next r) (hex:(match r.ex with|.exit _=>false|_=>true)=true)
  (hv:A7 P fn r.fr r.M=some v) (dj:bL (aG ι) args args') (hm:aO B ι cc w) (ha:cV cc M) (hu:eM cc next)
  (hQ:∀ aw bZ v' w',Map.le ι aw->aG aw v v'->aO B aw bZ w'->cV bZ r.M->eM bZ r.next->(∀ k,k<next->ah M k=none->bZ k=cc k)->Q (.returned v') w') (mU:B.ds=[]:=by rfl):Calls P f args'.toArray w Q:=by
 refine calls_of_wp hf hb ?_;have mS:fp B ι (bH (jL 0 args)) N { tmps:=args'.toArray++Array.replicate (fn.ntmps-args'.toArray.size) undef,defers:=[]}:=by
  refine⟨mU.symm,by simp[hN,dj.length],λt=>?_⟩;rcases M7 dj 0 t (List.replicate (fn.ntmps-args'.length) undef)with h|h
  ·simp only[lh,qG,GY]at h;have e:(args'.toArray++Array.replicate (fn.ntmps-args'.toArray.size) undef).getD t undef=(args'++List.replicate (fn.ntmps-args'.length) undef).getD t undef:=by simp[qc,EC,<-Array.getElem?_toList]
   dsimp only;rw[e];exact h
  ·exact .inl h
 refine Zl (g none ι cc _ w _ mS hm ha hu λaw bZ a' w' hle uD bj jd jX gO _=>by
  obtain⟨v',hc,pY⟩:=M6 (fn:=fn) uD bj jd hv;have fin:=hQ aw bZ v' w' hle hc bj jd jX gO;cases hx:r.ex with
  |normal=>exact⟨uD.defers.trans mU,v',pY,fin⟩
  |ret=>exact⟨uD.defers.trans mU,v',pY,fin⟩
  |exit id=>rw[hx]at hex;cases hex)
def fW(fn:Func)(n:Nat)(args:aj)(M:aH)(next:Nat)(rs:bI P B N):Option (Value×jY P B N):=
 match fn.body with
 |some c=>match jc n c (jL 0 args) M next rs with
  |some r=>match (match r.ex with|.exit _=>none|_=>A7 P fn r.fr r.M)with
   |some v=>some (v,r)
   |none=>none
  |none=>none
 |none=>none
def nN(o:Option (Value×jY P B N))(ms:aH):Bool×Option (Value×List (Option Obj)×List ow):=
 match o with
 |some r=>(true,some (r.1,ms.map λp=>ah r.2.M p.1,r.2.tr.map (·.1)))
 |none=>(true,none)
def nO(o:Option (Value×jY P B N))(v:Value)(ms:aH):Bool×Option (Value×List (Option Obj)×List ow):=
 match o with
 |some r=>(true,some (v,ms.map λp=>some p.2,r.2.tr.map (·.2)))
 |none=>(false,none)
theorem M8:∀{tr:vy},tr.map (·.1)=tr.map (·.2)->rR tr
 |[],_=>λp hp=>by cases hp
 |q::l,h=>by
  simp only[qO]at h;injection h with h1 h2;intro p hp;rcases ch.1 hp with rfl|hp
  ·exact h1
  ·exact M8 h2 p hp
theorem M9{M:aH}:∀{ms:aH},(ms.map λp=>ah M p.1)=(ms.map λp=>some p.2)->∀ p∈ms,ah M p.1=some p.2
 |[],_=>λp hp=>by cases hp
 |q::l,h=>by
  simp only[qO]at h;injection h with h1 h2;intro p hp;rcases ch.1 hp with rfl|hp
  ·exact h1
  ·exact M9 h2 p hp
theorem Sw{f:FuncId}{fn:Func}{args args':aj}{M:aH}{next:Nat}{rs:bI P B N}{v:Value}{ms:aH}{ι:Map}{cc:Nat->Option Obj}{w:World}{Q:Ending->World->Prop}(gF:P.follows .mixedOrders=true)
  (hf:P.funcs[f]?=some fn) (hN:N=args.length+(fn.ntmps-args.length)) (n:Nat) (h:nN (fW (P:=P) fn n args M next rs) ms=nO (fW fn n args M next rs) v ms)
  (dj:bL (aG ι) args args') (hm:aO B ι cc w) (ha:cV cc M) (hu:eM cc next)
  (hQ:∀ aw bZ v' w',Map.le ι aw->aG aw v v'->aO B aw bZ w'->(∀ p∈ms,bZ p.1=some p.2)->(∀ k,k<next->ah M k=none->bZ k=cc k)->Q (.returned v') w') (mU:B.ds=[]:=by rfl):Calls P f args'.toArray w Q:=by
 cases ho:fW (P:=P) fn n args M next rs with
 |none=>rw[ho]at h;cases h
 |some r=>
  rw[ho]at h;unfold nN nO at h;dsimp only at h;injection h with _ h;injection h with h;injection h with h1 h;injection h with h2 h3;have hs:=M8 h3;have dE:=M9 h2;unfold fW at ho;split at ho
  ·rename_i c hb;split at ho
   ·rename_i r' hr;split at ho
    ·rename_i v' hv;injection ho with ho;subst ho;dsimp only at h1 hs dE;subst h1;have g:=((Sp (P:=P) (B:=B) (N:=N) gF n).1 c _ M next rs r' hr hs).1;have hex:(match r'.out.ex with|.exit _=>false|_=>true)=true:=by
      show(match r'.ex with|.exit _=>false|_=>true)=true;cases hx:r'.ex with
      |exit id=>rw[hx]at hv;cases hv
      |normal=>rfl
      |ret=>rfl
     have qI:A7 P fn r'.out.fr r'.out.M=some v':=by
      show A7 P fn r'.fr r'.M=some v';cases hx:r'.ex with
      |exit id=>rw[hx]at hv;cases hv
      |normal=>rw[hx]at hv;exact hv
      |ret=>rw[hx]at hv;exact hv
     exact aHX hf hb hN g hex qI dj hm ha hu (λaw bZ v2 w' hle hc bj jd jX gO=>hQ aw bZ v2 w' hle hc bj (λp hp=>jd _ _ (dE p hp)) gO) mU
    ·cases ho
   ·cases ho
  ·cases ho
theorem rY{f:FuncId}{fn:Func}{args args':aj}{M:aH}{next:Nat}{rs:bI P B N}{v:Value}{ms:aH}{ι:Map}{cc:Nat->Option Obj}{w:World}{Q:Ending->World->Prop}(gF:P.follows .mixedOrders=true)
  (hf:P.funcs[f]?=some fn) (hN:N=args.length+(fn.ntmps-args.length)) (n:Nat) (h:nN (fW (P:=P) fn n args M next rs) ms=nO (fW fn n args M next rs) v ms)
  (dj:bL (aG ι) args args') (hm:aO B ι cc w) (ha:cV cc M) (hu:eM cc next)
  (hQ:∀ aw bZ v' w',Map.le ι aw->aG aw v v'->aO B aw bZ w'->(∀ p∈ms,bZ p.1=some p.2)->Q (.returned v') w') (mU:B.ds=[]:=by rfl):Calls P f args'.toArray w Q:=
 Sw gF hf hN n h dj hm ha hu (λaw bZ v' w' h1 h2 h3 h4 _=>hQ aw bZ v' w' h1 h2 h3 h4) mU
def JS(o:Option (jY P B N))(fr:aR)(M:aH):Bool×Option (Ex×aj×List (Option Obj)×Bool×List ow):=
 match o with
 |some r=>(true,some (r.ex,fr.map λp=>bH r.fr p.1,M.map λp=>ah r.M p.1,true,r.tr.map (·.1)))
 |none=>(true,none)
def JT(o:Option (jY P B N))(ex:Ex)(fr:aR)(M:aH)(next:Nat):Bool×Option (Ex×aj×List (Option Obj)×Bool×List ow):=
 match o with
 |some r=>(true,some (ex,fr.map λp=>p.2,M.map λp=>some p.2,Nat.ble r.next next,r.tr.map (·.2)))
 |none=>(false,none)
theorem Na{A5:aR}:∀{fr:aR},(fr.map λp=>bH A5 p.1)=(fr.map λp=>p.2)->∀ p∈fr,bH A5 p.1=p.2
 |[],_=>λp hp=>by cases hp
 |q::l,h=>by
  simp only[qO]at h;injection h with h1 h2;intro p hp;rcases ch.1 hp with rfl|hp
  ·exact h1
  ·exact Na h2 p hp
theorem fq(gF:P.follows .mixedOrders=true){c:Code}{fr:aR}{M:aH}{next:Nat}(n:Nat)(rs:bI P B N){r:mz}
  (h:JS (jc n c fr M next rs) r.fr r.M=JT (jc n c fr M next rs) r.ex r.fr r.M r.next):ag P B N c fr M next r:=by
 cases ho:jc n c fr M next rs with
 |none=>rw[ho]at h;cases h
 |some r1=>
  rw[ho]at h;unfold JS JT at h;dsimp only at h;injection h with _ h;injection h with h;injection h with h1 h;injection h with h2 h;injection h with h3 h;injection h with h4 h5;obtain⟨g,_⟩:=(Sp (P:=P) (B:=B) (N:=N) gF n).1 c fr M next rs r1 ho (M8 h5);exact g.to h1 (Na h2) (M9 h3) (rN h4.symm)
theorem mV(gF:P.follows .mixedOrders=true){c:Code}{fr:aR}{M:aH}{next:Nat}(n:Nat)(rs:bI P B N){r:mz}{ft:Nat}
  (h:JS (jc n c fr M next rs) r.fr r.M=JT (jc n c fr M next rs) r.ex r.fr r.M ft) (hn:r.next=next) (M3:(r.fr.all λp=>nM next p.2)=true) (Sv:∀ p∈r.M,eA next p.2) (M4:(r.M.all λp=>Nat.blt p.1 next)=true) :
  ag P B N c fr M next r:=by
 cases ho:jc n c fr M next rs with
 |none=>rw[ho]at h;cases h
 |some r1=>
  rw[ho]at h;unfold JS JT at h;dsimp only at h;injection h with _ h;injection h with h;injection h with h1 h;injection h with h2 h;injection h with h3 h;injection h with h4 h5;obtain⟨g,_⟩:=(Sp (P:=P) (B:=B) (N:=N) gF n).1 c fr M next rs r1 ho (M8 h5);rw[bh]at M3 M4;exact g.reset h1 (Na h2) M3 (M9 h3) Sv (λp hp=>by simpa[A1]using M4 p hp) (vn hn.symm)
def aE(P:Program)(f:FuncId)(args:aj)(res:Value):Prop:=
 ∀ w:World,Calls P f args.toArray w λe w'=>e=.returned res/\Below w.heap.size w w'
theorem qP(w:World):aO (aa.at w) (λ_=>none) (λ_=>none) w:=
 ⟨Below.refl _ _,λ_ _=>rfl,λk x h=>(by cases h),λk x b o cap h=>(by cases h),λk j x y b o cap o' aQ h=>(by cases h),λk j x F b o cap v h=>(by cases h),λk x b o cap h=>(by cases h),λj F h=>(by cases h),λj k F F' h=>(by cases h),λ_ _ h=>(by cases h)⟩
theorem gR{f:FuncId}{fn:Func}{args:aj}{v:Value}(gF:P.follows .mixedOrders=true)(hf:P.funcs[f]?=some fn)(n:Nat)(rs:∀ w,bI P (aa.at w) (args.length+(fn.ntmps-args.length)))
  (h:∀ w,nN (fW (P:=P) fn n args [] 0 (rs w)) []=nO (fW fn n args [] 0 (rs w)) v []) (dj:args.all flat=true) (hv:flat v=true):aE P f args v:=by
 intro w;rw[bh]at dj;exact rY gF hf rfl n (h w) (kx dj) (qP w) n_ (λ_ _=>rfl) λaw bZ v' w' _ hc hm _=>⟨by rw[hc.eY hv],hm.base⟩
def aE.at{f:FuncId}{args:aj}{res:Value}(h:aE P f args res)(key:Nat):aX P B N:=.call key f args res λw _=>h w
end
def cO(w:World)(v:Value)(n:Nat)(xs:aj):Prop:=
 (v=.slice none 0 0/\n=0/\xs=[])\/∃ b o c',v=.slice (some ⟨b,o,none⟩) n c'/\n<=c'/\b<w.heap.size/\∀ j u,xs[j]?=some u->w.cell? ⟨b,o+j,none⟩=some u
section
variable{P:Program}{B:aa}{N:Nat}
theorem cO.gM{w w':World}{v:Value}{n:Nat}{xs:aj}(h:cO w v n xs)(hb:Below w.heap.size w w'):cO w' v n xs:=by
 rcases h with h|⟨b,o,c',h1,h2,h3,h4⟩
 ·exact .inl h
 ·exact .inr ⟨b,o,c',h1,h2,cC h3 hb.size,λj u hj=>by rw[hb.cell h3];exact h4 j u hj⟩
theorem cO.Zm{w:World}{base:Nat}{ty:TypeId}{size:Nat}{v:Value}{n:Nat}{xs:aj}(h:w.ownsRow base ty size v n xs):cO w v n xs:=by
 rcases h.2 with ⟨h1,h2⟩|⟨g,cap,cur,h1,h2,h3,h4,h5,h6,h7⟩
 ·have:=h.1;rw[h2,lN]at this;exact .inl ⟨h1,h2,lK this⟩
 ·refine .inr ⟨g,0,cap,h1,h4,(yO.1 h3).1,λj u hj=>?_⟩;rw[<-h7,ur]at hj;split at hj
  ·have:cur[j]?=some u:=by simpa using hj
   simp[World.cell?,h3,this]
  ·cases hj
theorem oP{ι:Map}{c:Nat->Option Obj}{w:World}(hm:aO B ι c w){k off n cc len:Nat}{x:Obj}{v:Value}(hk:c k=some x)(hx:x.reads=true)(cQ:∀ u∈x.cells,flat u=true)
  (hlen:n=0->len=0) (hc:aG ι (.slice (some ⟨k,off,some 7⟩) n cc) v):cO w v n ((x.cells.drop off).take len):=by
 rcases hc.iw rfl with ⟨hb,ky,qb,yG,he⟩|⟨b,oo,cap,c',hb,lJ,mO,he⟩
 ·exact .inl ⟨he,ky,by rw[hlen ky];rfl⟩
 ·dsimp only at hb he;obtain⟨l,h1,h2⟩:=hm.born k x hk;rw[hb]at h1;injection h1 with h1;subst h1;obtain⟨bA,gj,mn⟩:=h2.at hx;have gj:=nJ gj cQ;subst gj;refine .inr ⟨b,oo+off,c',he,lJ,?_,λj u hj=>?_⟩
  ·by_cases ho:x.owns=true
   ·exact(hm.own k x b oo cap hk ho hb).1
   ·have hv:x.gw=true:=by unfold Obj.reads at hx;rw[uC]at hx;exact hx.resolve_left ho
    exact(hm.seen k x b oo cap hk hv hb).1
  ·rw[ur]at hj;split at hj
   ·rw[Et]at hj;rw[ux];exact mn _ _ hj
   ·cases hj
theorem yP{ι:Map}{c:Nat->Option Obj}{w:World}(hm:aO B ι c w){k n:Nat}{v:Value}{xs:aj}(hk:c k=none)(h:cO w v n xs)(cQ:∀ u∈xs,flat u=true)
  (gC:∀ b o c',v=.slice (some ⟨b,o,none⟩) n c'->∀ j y o' aQ,c j=some y->y.owns=true->ι j≠some (.at b o' aQ)) :
  ∃ aw,Map.le ι aw/\aO B aw (aZ c k (.view xs)) w/\aG aw (.slice (some ⟨k,0,some 7⟩) n 0) v:=by
 rcases h with ⟨h1,h2,h3⟩|⟨b,o,c',h1,h2,h3,h4⟩
 ·subst h1;subst h2;subst h3;exact⟨dG ι k .nil,gN (hm.du k hk),hm.add hk (.inl ⟨rfl,rfl⟩) n_ n_ n_,.slcN (fK _ _ _)⟩
 ·subst h1;refine⟨dG ι k (.at b o c'),gN (hm.du k hk),hm.add hk (.inr ⟨b,o,c',xs,rfl,kx cQ,h4⟩) n_ n_ (λb1 o1 mh _ e=>?_),.slc (off:=0) (fK _ _ _) h2 o_⟩;injection e with e1 e2 e3;subst e1;exact⟨h3,λj y o' aQ hj hy=>gC b o c' rfl j y o' aQ hj hy⟩
theorem EU{ι:Map}{c:Nat->Option Obj}{w w':World}(hm:aO B ι c w)(hb:Below w.heap.size w w'){k n size:Nat}{ty:TypeId}{v:Value}{xs:aj}(hk:c k=none)(h:w'.ownsRow w.heap.size ty size v n xs)(cQ:∀ u∈xs,flat u=true):
  ∃ aw,Map.le ι aw/\aO B aw (aZ c k (.row xs ty size)) w'/\aG aw (.slice (some ⟨k,0,some 7⟩) n 0) v:=by
 have bj:=hm.call hb;rcases h.2 with ⟨h1,h2⟩|⟨g,cap,cur,h1,h2,h3,h4,h5,h6,h7⟩
 ·have hl:=h.1;rw[h2,lN]at hl;have hx:xs=[]:=lK hl;subst h1;subst h2;subst hx;exact⟨dG ι k .nil,gN (hm.du k hk),bj.add hk (.inl ⟨rfl,rfl⟩) n_ n_ n_,.slcN (fK _ _ _)⟩
 ·subst h1;refine⟨dG ι k (.at g 0 cap),gN (hm.du k hk),hm.new hb hk (.inr ⟨g,cap,cur,rfl,h3,h5,h6,?_⟩) (λb o cap _ e=>?_) n_ rfl,.slc (o:=0) (off:=0) (fK _ _ _) h4 o_⟩
  ·rw[h.1,h7];exact kx cQ
  ·injection e with e1 e2 e3;subst e1;exact⟨h2,(yO.1 h3).1⟩
theorem Zn{ι:Map}{c:Nat->Option Obj}{w w':World}(hm:aO B ι c w)(hb:Below w.heap.size w w'){k n size:Nat}{ty:TypeId}{v:Value}{xs:aj}(hk:c k=none)(h:w'.ownsRow w.heap.size ty size v n xs)(cQ:∀ u∈xs,flat u=true):
  ∃ aw,Map.le ι aw/\aO B aw (aZ c k (.view xs)) w'/\aG aw (.slice (some ⟨k,0,some 7⟩) n 0) v:=by
 refine yP (hm.call hb) hk (.Zm h) cQ λb o c' e j y o' aQ hj hy he=>?_;have h1:=(hm.own j y b o' aQ hj hy he).1;rcases h.2 with ⟨h2,_⟩|⟨g,cap,cur,h2,h3,_⟩
 ·rw[h2]at e;cases e
 ·rw[h2]at e;injection e with e1 e2;injection e1 with e1;injection e1 with e1;omega
theorem vC{w w':World}{ι:Map}{c:Nat->Option Obj}(hm:aO (aa.at w) ι c w'){k n size:Nat}{ty:TypeId}{cells:aj}{v:Value}(hk:c k=some (.row cells ty size))(hv:aG ι (.slice (some ⟨k,0,some 7⟩) n 0) v)
  (hn:n*size<=cells.length) (cQ:∀ u∈cells,flat u=true):w'.ownsRow w.heap.size ty size v n (cells.take (n*size)):=by
 have hl:(cells.take (n*size)).length=n*size:=by rw[ji];omega
 refine⟨hl,?_⟩;rcases hv.iw rfl with ⟨hb,ky,qb,yG,he⟩|⟨b,oo,cap,c',hb,lJ,mO,he⟩
 ·exact .inl ⟨he,ky⟩
 ·dsimp only at hb he;have kz:c'=cap:=by omega
  subst kz;obtain⟨l,h1,h2⟩:=hm.born k _ hk;rw[hb]at h1;injection h1 with h1;subst h1;have dO:=hm.own k _ b oo c' hk rfl hb;rcases h2 with h2|⟨b',aQ,cur,e1,mo,dD,gj,jk⟩
  ·cases h2.1
  ·injection e1 with e1 e2 e3;subst e1;subst e2;subst e3;refine .inr ⟨b,c',cur,by rw[he],?_,mo,lJ,dD,gj,?_⟩
   ·rcases eL b w.heap.size with h|h
    ·exact absurd h dO.2
    ·exact h
   ·have:=nJ jk cQ;have h3:=cM (List.take (n*size)) this;rw[ME,oq hn]at h3;exact h3
inductive cE where
 |plain (v:Value)
 |row (v:Value) (n:Nat) (xs:aj)
def cE.real:cE->Value
 |.plain v=>v
 |.row v _ _=>v
def cE.OK(w:World):cE->Prop
 |.plain v=>flat v=true
 |.row v n xs=>cO w v n xs/\∀ u∈xs,flat u=true
def rZ:Nat->List cE->aj
 |_,[]=>[]
 |k,.plain v::l=>v::rZ k l
 |k,.row _ n _::l=>.slice (some ⟨k,0,some 7⟩) n 0::rZ (k+1) l
def uE:Nat->List cE->aH
 |_,[]=>[]
 |k,.plain _::l=>uE k l
 |k,.row _ _ xs::l=>(k,.view xs)::uE (k+1) l
def tx:Nat->List cE->Nat
 |k,[]=>k
 |k,.plain _::l=>tx k l
 |k,.row _ _ _::l=>tx (k+1) l
theorem Sx{w:World}:∀(l:List cE) (k:Nat) (ι:Map) (c:Nat->Option Obj),aO B ι c w->(∀ j x,c j=some x->x.owns=false)->eM c k->(∀ s∈l,cE.OK w s)->
  ∃ aw c',Map.le ι aw/\aO B aw c' w/\(∀ j x,c' j=some x->x.owns=false)/\eM c' (tx k l)/\cV c' (uE k l)/\(∀ j,j<k->c' j=c j)/\bL (aG aw) (rZ k l) (l.map cE.real)/\k<=tx k l
 |[],k,ι,c,hm,ho,hu,_=>⟨ι,c,Map.le.refl _,hm,ho,hu,λk x h=>(by cases h),λ_ _=>rfl,.nil,bt _⟩
 |.plain v::l,k,ι,c,hm,ho,hu,hl=>by obtain⟨aw,c',h1,h2,h3,h4,h5,h6,h7,h8⟩:=Sx l k ι c hm ho hu λs hs=>hl s (bE _ hs);exact⟨aw,c',h1,h2,h3,h4,h5,h6,.cons (.same (hl _ (aU ..))) h7,h8⟩
 |.row v n xs::l,k,ι,c,hm,ho,hu,hl=>by
  obtain⟨hr,cQ⟩:=hl _ (aU ..);obtain⟨bP,q1,q2,q3⟩:=yP hm (hu k (bt _)) hr cQ λb o c' _ j y o' aQ hj hy=>by rw[ho j y hj]at hy;cases hy
  obtain⟨aw,c',h1,h2,h3,h4,h5,h6,h7,h8⟩:=Sx l (k+1) bP _ q2 (λj x hj=>by
   unfold aZ at hj;split at hj
   ·injection hj with hj;subst hj;rfl
   ·exact ho j x hj) (λj hj=>by
   unfold aZ;rw[au o_];exact hu j o_) λs hs=>hl s (bE _ hs)
  refine⟨aw,c',q1.trans h1,h2,h3,h4,λj x hj=>?_,λj hj=>?_,.cons (q3.mono h1) h7,by show k<=tx (k+1) l;omega⟩
  ·unfold uE ah at hj;split at hj
   ·rename_i hb;injection hj with hj;subst hj;rw[<-ki hb,h6 k o_];unfold aZ;rw[ax rfl]
   ·exact h5 j x hj
  ·rw[h6 j o_];unfold aZ;rw[au o_]
theorem lO{f:FuncId}{fn:Func}{w:World}{v:Value}{ms:aH}{Q:Ending->World->Prop}(gF:P.follows .mixedOrders=true)(hf:P.funcs[f]?=some fn)(l:List cE)(hl:∀ s∈l,cE.OK w s)(n:Nat){N:Nat}(hN:N=(rZ 0 l).length+(fn.ntmps-(rZ 0 l).length))
  {rs:bI P (aa.at w) N}
  (h:nN (fW (P:=P) fn n (rZ 0 l) (uE 0 l) (tx 0 l) rs) ms=nO (fW fn n (rZ 0 l) (uE 0 l) (tx 0 l) rs) v ms)
  (hQ:∀ aw bZ v' w',aG aw v v'->aO (aa.at w) aw bZ w'->(∀ p∈ms,bZ p.1=some p.2)->bL (aG aw) (rZ 0 l) (l.map cE.real)->Q (.returned v') w'):Calls P f (l.map cE.real).toArray w Q:=by
 obtain⟨ι,c,h1,h2,h3,h4,h5,h6,h7,h8⟩:=Sx (B:=aa.at w) l 0 _ _ (qP w) n_ (λ_ _=>rfl) hl;exact rY gF hf hN n h h7 h2 h5 h4 λaw bZ v' w' hle hc hm dE=>hQ aw bZ v' w' hc hm dE (h7.imp λ_ _ _ h=>h.mono hle)
def dx:Op->Option Operand
 |.call ⟨.value x,_,_⟩=>some x
 |_=>none
theorem jM{o:Oper}{x:Operand}{f:FuncId}{fi args ca:aj}{need:List (Nat×Option Obj)}{val:Value}{cU:aH}(ho:dx o.op=some x)(eQ:gz P f=true)
  (h:∀ ι c w,aO B ι c w->(∀ p∈need,c p.1=p.2)->∀ args',bL (aG ι) (fi++args++ca) args'->Calls P f args'.toArray w λe w'=>∃ aw v',e=.returned v'/\Map.le ι aw/\aG aw val v'/\aO B aw (lI c cU) w') :
  cD P B o (.func (.func f) fi.toArray ca.toArray::args) need val cU:=by
 intro R ι c a w hv hm hn K Q hK;obtain⟨dst,op,ty,pos,after,guard⟩:=o;dsimp only at ho hv;unfold dx at ho;split at ho
 ·rename_i x' lj wS;injection ho with ho;subst ho;have yF:(Op.operands (.call ⟨.value x',lj,wS⟩)).toList=x'::lj.toList:=by simp[Op.operands,Call.operands]
  rw[yF]at hv;cases hv with
  |cons hx rP=>
  obtain⟨kv,fe,he,h1,h2⟩:=hx.Co;have aY:=(h1.append rP).append h2;dsimp only at aY;have e3:execOp a.eval ⟨dst,.call ⟨.value x',lj,wS⟩,ty,pos,after,guard⟩=callFunc f (kv++lj.map a.eval++fe):=by have:execOp a.eval ⟨dst,.call ⟨.value x',lj,wS⟩,ty,pos,after,guard⟩=(do let d <-Deferred.ofValue (a.eval x') (lj.map a.eval);invoke d.target d.args):=rfl;rw[this,he];rfl
  have e4:(kv++lj.map a.eval++fe:Array Value)=(kv.toList++List.map a.eval lj.toList++fe.toList).toArray:=by apply GQ;simp
  refine⟨λ_ _=>trivial,?_⟩;rw[Mx _ _ _ n_,e3,e4,ML eQ,Oper.uponIn_enter];refine⟨λe=>(by cases e),MM.2 ((h ι c w hm hn _ aY).mono ?_)⟩
  rintro e w' ⟨aw,v',rfl,q1,q2,q3⟩
  exact hK aw v' w' q1 q2 q3
 ·cases ho
end
def yQ:Code->Nat->Option Oper
 |.region _ ops _,k=>ops.toList.find? λo=>Nat.beq (MK o) k
 |.seq x y,k=>match yQ x k with|some o=>some o|none=>yQ y k
 |.cond _ x y,k=>match yQ x k with|some o=>some o|none=>yQ y k
 |.block _ b,k=>yQ b k
 |.loop b,k=>yQ b k
 |.scope b,k=>yQ b k
 |.rangeFunc _ _ x y,k=>match yQ x k with|some o=>some o|none=>yQ y k
 |_,_=>none
def av(fn:Func)(k:Nat):Oper:=match fn.body with|some c=>(match yQ c k with|some o=>o|none=>default)|none=>default
def yR:Code->Nat->Option Code
 |.seq x y,k=>match yR x k with|some o=>some o|none=>yR y k
 |.cond _ x y,k=>match yR x k with|some o=>some o|none=>yR y k
 |.block id b,k=>if Nat.beq id k then some b else yR b k
 |.loop b,k=>yR b k
 |.scope b,k=>yR b k
 |.rangeFunc _ _ x y,k=>match yR x k with|some o=>some o|none=>yR y k
 |_,_=>none
def af(fn:Func)(k:Nat):Code:=match fn.body with|some c=>(match yR c k with|some o=>o|none=>.skip)|none=>.skip
def aF(c:Code):Code:=match c with|.loop b=>b|_=>.skip
section
variable{P:Program}{B:aa}{N:Nat}
def vI(n:Nat):Value:=.int .i64 n
def aX.sum(key i j s:Nat)(h:s=i+j)(hs:s<9223372036854775808):aX P B N:=
 .rw key (.int .i64 (IntKind.i64.wrap ((i:Int)+(j:Int)))) (vI s) (by
  have e:IntKind.i64.wrap ((i:Int)+(j:Int))=(s:Int):=by rw[db];omega
  rw[e];rfl)
def aX.e7(key i j s:Nat)(h:i=s+j)(hs:i<9223372036854775808):aX P B N:=
 .rw key (.int .i64 (IntKind.i64.wrap ((i:Int)-(j:Int)))) (vI s) (by
  have e:IntKind.i64.wrap ((i:Int)-(j:Int))=(s:Int):=by rw[db];omega
  rw[e];rfl)
def aX.lt(key i n:Nat)(b:Bool)(h:decide (i<n)=b):aX P B N:=
 .rw key (.bool (decide ((i:Int)<(n:Int)))) (.bool b) (by rw[<-h];congr 1;rw[oQ];omega)
def aX.gt(key i n:Nat)(b:Bool)(h:decide (n<i)=b):aX P B N:=
 .rw key (.bool (decide ((i:Int)>(n:Int)))) (.bool b) (by rw[<-h];congr 1;rw[oQ];omega)
def aX.ge(key i n:Nat)(b:Bool)(h:decide (n<=i)=b):aX P B N:=
 .rw key (.bool (decide ((i:Int)>=(n:Int)))) (.bool b) (by rw[<-h];congr 1;rw[oQ];omega)
def aX.fv(key i n:Nat)(b:Bool)(h:decide (i=n)=b):aX P B N:=
 .rw key (.bool ((i:Int)==(n:Int))) (.bool b) (by
  rw[<-h];congr 1
  by_cases hi:i=n
  ·subst hi;simp
  ·have:¬((i:Int)=(n:Int)):=by omega
   rw[aJ hi];simpa using this)
def aX.wr(key:Nat)(k:IntKind)(m m':Int)(h:k.wrap m=m'):aX P B N:=.rw key (.int k (k.wrap m)) (.int k m') (by rw[h])
def aX.quo(key:Nat)(k:IntKind)(m m':Int)(h:m=m'):aX P B N:=.rw key (.int k m) (.int k m') (by rw[h])
def A8(P:Program)(o:Oper):Option Nat:=match o.op with
 |.indexAddr t _ _=>match P.underlying t with|some (.slice e)=>(match P.info? e with|some i=>some i.size|none=>none)|_=>none
 |_=>none
theorem Nb{o:Oper}{s:Nat}(ho:A8 P o=some s){k off n cc i:Nat}{kd:IntKind}(hi:i<n):
  cD P B o [.slice (some ⟨k,off,some 7⟩) n cc,.int kd i] [] (.pointer (some ⟨k,off+i*s,some 7⟩)) []:=by
 unfold A8 at ho;split at ho
 ·rename_i t x y bW;split at ho
  ·rename_i e ht;split at ho
   ·rename_i inf Ev;injection ho with ho;have:=Yr (P:=P) (B:=B) bW ht Ev (kd:=kd) (n:=(i:Int)) (len:=n) (cc:=cc) o_ o_ k off;rw[RS,ho]at this;exact this.step
   ·cases ho
  ·cases ho
 ·cases ho
def aX.ix(fn:Func)(key k n i:Nat)(hi:i<n)(ho:A8 P (av fn key)=some 1):aX P B N:=
 .step key (av fn key) [.slice (some ⟨k,0,some 7⟩) n 0,vI i] [] (.pointer (some ⟨k,i,some 7⟩)) [] (by have:=Nb (B:=B) ho (k:=k) (off:=0) (cc:=0) (kd:=.i64) hi;rw[kh,fX]at this;exact this)
def aX.w9(fn:Func)(key k off n cc i:Nat)(hi:i<n)(ho:A8 P (av fn key)=some 1):aX P B N:=
 .step key (av fn key) [.slice (some ⟨k,off,some 7⟩) n cc,vI i] [] (.pointer (some ⟨k,off+i,some 7⟩)) [] (by have:=Nb (B:=B) ho (k:=k) (off:=off) (cc:=cc) (kd:=.i64) hi;rw[fX]at this;exact this)
def aX.cT(fn:Func)(key k n i s:Nat)(hi:i<n)(ho:A8 P (av fn key)=some s):aX P B N:=
 .step key (av fn key) [.slice (some ⟨k,0,some 7⟩) n 0,vI i] [] (.pointer (some ⟨k,i*s,some 7⟩)) [] (by have:=Nb (B:=B) ho (k:=k) (off:=0) (cc:=0) (kd:=.i64) hi;rw[kh]at this;exact this)
def Sy(o:Oper):Option TypeId:=match o.op with|.load t _=>some t|_=>none
theorem aHY{o:Oper}{t:TypeId}(ho:Sy o=some t){k off:Nat}{x:Obj}{v:Value}(hx:x.reads=true)(hv:dw P t x.cells off=some v):cD P B o [.pointer (some ⟨k,off,some 7⟩)] [(k,some x)] v []:=by
 unfold Sy at ho;split at ho
 ·rename_i t' y bW;injection ho with ho;subst ho;exact(Ym bW hx hv).step
 ·cases ho
def aX.ld(fn:Func)(key t k off:Nat)(x:Obj)(v:Value)(hx:x.reads=true)(hv:dw P t x.cells off=some v)(ho:Sy (av fn key)=some t):aX P B N:=
 .step key (av fn key) [.pointer (some ⟨k,off,some 7⟩)] [(k,some x)] v [] (aHY ho hx hv)
def Zo(o:Oper):Option TypeId:=match o.op with|.store t _ _=>some t|_=>none
def aX.st(fn:Func)(key t k off:Nat)(x:Obj)(v:Value)(y:Obj)(hx:x.owns=true)(hv:e6 P t x.cells off v=some y.cells)(hy:y=x.Mw y.cells)(ho:Zo (av fn key)=some t):aX P B N:=
 .step key (av fn key) [.pointer (some ⟨k,off,some 7⟩),v] [(k,some x)] undef [(k,y)] (by
  unfold Zo at ho;split at ho
  ·rename_i t' a b bW;injection ho with ho;subst ho;rw[hy];exact(Yn bW hx hv).step
  ·cases ho)
def Nc(P:Program)(o:Oper):Option (TypeId×Nat×Nat×Value):=match o.op with
 |.makeSlice t _ _=>match P.underlying t with
  |some (.slice e)=>(match P.info? e with|some i=>(match i.zero with|some z=>some (e,i.size,i.bytes,z)|none=>none)|none=>none)
  |_=>none
 |_=>none
def aX.qd(fn:Func)(key k n e bytes:Nat)(z:Value)(cells:aj)(hc:List.replicate n z=cells)(hf:flat z=true)(hz:z.cells=#[z])(hb:bytes*n<=281474976710656)(hn:n<=maxLen)(ho:Nc P (av fn key)=some (e,1,bytes,z)):aX P B N:=
 .step key (av fn key) [vI n,vI n] [(k,none)] (.slice (some ⟨k,0,some 7⟩) n 0) [(k,.row cells e 1)] (by
  subst hc;unfold Nc at ho;split at ho
  ·rename_i t a b bW;split at ho
   ·rename_i e' ht;split at ho
    ·rename_i i hi;split at ho
     ·rename_i z' oj;injection ho with ho;injection ho with h1 ho;injection ho with h2 ho;injection ho with h3 h4;subst h1;subst h4;have:=Yt (P:=P) (B:=B) bW ht hi oj (kl:=.i64) (kc:=.i64) (l:=n) (cp:=n) (bt _) (by rw[h3];exact hb) hn (cells:=List.replicate n z') (by rw[h2,fX,hz,toList_madeCells_one,kB s_]) (by rw[h2];simp) (λv hv=>by rw[List.eq_of_mem_replicate hv];exact hf) k
      rw[h2]at this;exact this.step
     ·cases ho
    ·cases ho
   ·cases ho
  ·cases ho)
def r5(P:Program)(o:Oper):Option (Bool×Bool×Nat):=match o.op with
 |.slice t _ lo hi none=>match P.underlying t with
  |some (.slice e)=>(match P.info? e with|some i=>some (lo.isSome,hi.isSome,i.size)|none=>none)
  |_=>none
 |_=>none
theorem GZ{o:Oper}{lo hi:Bool}{s:Nat}(ho:r5 P o=some (lo,hi,s)){k off n cc l h:Nat}(hl:lo=false->l=0)(hh:hi=false->h=n)(Mz:l<=h)(Ys:h<=n)(hz:l<h\/l=0):
  cD P B o (.slice (some ⟨k,off,some 7⟩) n cc::((if lo then[vI l]else[])++(if hi then[vI h]else[]))) [] (.slice (some ⟨k,off+l*s,some 7⟩) (h-l) (cc+l)) []:=by
 unfold r5 at ho;split at ho
 ·rename_i t x CC iB bW;split at ho
  ·rename_i e ht;split at ho
   ·rename_i i SA;injection ho with ho;injection ho with h1 ho;injection ho with h2 h3;have:=aHs (P:=P) (B:=B) bW ht SA (k:=k) (off:=off) (n:=n) (cc:=cc) (l:=l) (h:=h) (λe=>hl (by rw[<-h1,e];rfl)) (λe=>hh (by rw[<-h2,e];rfl)) Mz Ys hz;rw[h3]at this;have e1:bound CC l=if lo then[vI l]else[]:=by rw[<-h1];cases CC<;>rfl
    have e2:bound iB h=if hi then[vI h]else[]:=by rw[<-h2];cases iB<;>rfl
    rw[e1,e2]at this;exact this.step
   ·cases ho
  ·cases ho
 ·cases ho
def aX.upto(fn:Func)(key k n h s:Nat)(hh:h<=n)(ho:r5 P (av fn key)=some (false,true,s)):aX P B N:=
 .step key (av fn key) [.slice (some ⟨k,0,some 7⟩) n 0,vI h] [] (.slice (some ⟨k,0,some 7⟩) h 0) [] (by have:=GZ (B:=B) ho (k:=k) (off:=0) (n:=n) (cc:=0) (l:=0) (h:=h) (λ_=>rfl) n_ (lh _) hh (.inr rfl);simpa using this)
end
def ae(B n a:Nat):List Nat:=(List.range n).map λi=>a/B^i%B
def nd(B a:Nat):Nat:=if h:2<=B/\a≠0 then nd B (a/B)+1 else 0
termination_by a
decreasing_by exact Zp (tA h.2) h.1
section
variable{B:Nat}
theorem oR(n a:Nat):(ae B n a).length=n:=by simp[ae]
theorem eB{n a i:Nat}(h:i<n):(ae B n a)[i]?=some (a/B^i%B):=by simp[ae,h]
theorem JU{n m a:Nat}(h:m<=n):(ae B n a).take m=ae B m a:=by unfold ae;rw[<-CD,List.take_range,oq h]
theorem pw:nd B 0=0:=by unfold nd;simp
theorem SB(hB:2<=B){a:Nat}(ha:a≠0):nd B a=nd B (a/B)+1:=by rw[nd,dif_pos ⟨hB,ha⟩]
theorem dU(hB:2<=B):∀ a,a<B^nd B a:=by
 intro a;induction a using Nat.strongRecOn with
 |_ a ih=>
  by_cases ha:a=0
  ·subst ha;rw[pw];simp
  ·rw[SB hB ha,dy];have:=ih (a/B) (Zp (tA ha) hB);exact(iK o_).1 this
theorem jl(hB:2<=B):∀{a n:Nat},a<B^n->nd B a<=n:=by
 intro a;induction a using Nat.strongRecOn with
 |_ a ih=>
  intro n h;by_cases ha:a=0
  ·subst ha;rw[pw];omega
  ·cases n with
   |zero=>simp at h;omega
   |succ n=>
    rw[SB hB ha];rw[dy]at h;have:=ih (a/B) (Zp (tA ha) hB) (n:=n) ((iK o_).2 h);omega
theorem Zq(hB:2<=B){a n:Nat}(h:n<nd B a):B^n<=a:=by
 rcases eL a (B^n)with h1|h1
 ·have:=jl hB h1;omega
 ·exact h1
theorem iU(hB:2<=B){a b:Nat}(h:a<=b):nd B a<=nd B b:=jl hB (e8 h (dU hB b))
theorem uF(hB:2<=B){a:Nat}(h:a≠0):0<nd B a:=by rw[SB hB h];omega
theorem EV{n a:Nat}(h:a<B^(n+1)):a/B^n%B=a/B^n:=by
 refine dK ?_;have hp:0<B^n:=by
  rcases oy B with hB|hB
  ·subst hB;simp at h
  ·exact cK hB
 rw[iK hp,cS,<-dy];exact h
theorem G1(hB:2<=B){n a:Nat}(h:a<B^(n+1)):a/B^n%B=0↔a<B^n:=by
 rw[EV h,Nat.div_eq_zero_iff];have:B^n≠0:=by have:=cK (n:=n) (show 0<B by omega);omega
 exact⟨λh=>h.resolve_left this,.inr⟩
def eR(B a b i:Nat):Nat:=(a%B^i+b%B^i)/B^i
def eC(B n i a:Nat):List Nat:=(List.range n).map λj=>if j<i then a/B^j%B else 0
theorem Nd(n i a:Nat):(eC B n i a).length=n:=by simp[eC]
theorem SC(n a:Nat):eC B n 0 a=List.replicate n 0:=by apply xa<;>simp[eC]
theorem G2(n a:Nat):eC B n n a=ae B n a:=by unfold eC ae;exact yM λj hj=>by rw[ax (kA.1 hj)]
theorem Nf{n i a d:Nat}(h:i<n)(hd:d=a/B^i%B):(eC B n i a).set i d=eC B n (i+1) a:=by
 subst hd;apply xa
 ·simp[eC]
 ·intro j h1 h2;simp only[eC,eO,xb]at h2;rw[G3];simp only[eC,CE,CF];by_cases hj:i=j
  ·subst hj;simp
  ·rw[au hj];by_cases h3:j<i
   ·rw[ax h3,ax o_]
   ·rw[au h3,au o_]
theorem pz(a i:Nat):a%B^(i+1)=a%B^i+a/B^i%B*B^i:=by rw[dy,Ng];rw[cS]
theorem Nh(a b:Nat):eR B a b 0=0:=by simp[eR,tB]
theorem EW(hB:0<B)(a b i:Nat):(a/B^i%B+b/B^i%B+eR B a b i)/B=eR B a b (i+1):=by
 unfold eR;rw[pz a i,pz b i];have hp:0<B^i:=cK hB;have e:a%B^i+a/B^i%B*B^i+(b%B^i+b/B^i%B*B^i)=(a%B^i+b%B^i)+(a/B^i%B+b/B^i%B)*B^i:=by rw[fE];omega
 rw[e,dy,<-kQ,pA _ _ hp,mW]
theorem G4(hB:0<B)(a b i:Nat):(a/B^i%B+b/B^i%B+eR B a b i)%B=(a+b)/B^i%B:=by
 unfold eR;have hp:0<B^i:=cK hB;have e:(a+b)/B^i=a/B^i+b/B^i+(a%B^i+b%B^i)/B^i:=by
  have h1:=jm a (B^i);have h2:=jm b (B^i);have e2:a+b=(a%B^i+b%B^i)+(a/B^i+b/B^i)*B^i:=by rw[fE,cS (a/B^i),cS (b/B^i)];omega
  conv=>lhs;rw[e2]
  rw[pA _ _ hp];omega
 rw[e];rw[Nat.add_mod (a/B^i+b/B^i),Nat.add_mod (a/B^i%B+b/B^i%B),<-Nat.add_mod (a/B^i)]
theorem A9(hB:0<B)(a b i:Nat):eR B a b i<=1:=by
 unfold eR;have hp:0<B^i:=cK hB;have h1:=cL a hp;have h2:=cL b hp;have:(a%B^i+b%B^i)/B^i<2:=by rw[iK hp];omega
 omega
theorem hZ(hB:0<B)(a i:Nat):a/B^i%B<B:=cL _ hB
theorem qQ{a m i:Nat}(h:a<B^m)(hi:m<=i)(hB:0<B):a/B^i%B=0:=by rw[mA (cC h (c9 hB hi))];simp
theorem SD{a b n:Nat}(ha:a<B^n)(hb:b<B^n):eR B a b n=(a+b)/B^n:=by unfold eR;rw[dK ha,dK hb]
def kR(B a b i:Nat):Nat:=if a%B^i<b%B^i then 1 else 0
theorem SE(a b:Nat):kR B a b 0=0:=by simp[kR,tB]
theorem Ni(a b i:Nat):kR B a b i<=1:=by unfold kR;split<;>omega
theorem SF(hB:0<B)(a b i:Nat):(if a/B^i%B<b/B^i%B+kR B a b i then 1 else 0)=kR B a b (i+1):=by
 unfold kR;rw[pz a i,pz b i];have hp:0<B^i:=cK hB;have h1:=cL a hp;have h2:=cL b hp;generalize a%B^i=r at *;generalize b%B^i=s at *;generalize a/B^i%B=x at *;generalize b/B^i%B=y at *;generalize B^i=p at *;have lt:∀ u v:Nat,u<v->u*p+p<=v*p:=λu v h=>by rw[<-yS];exact fo _ h
 have le:∀ u v:Nat,u<=v->u*p<=v*p:=λu v h=>fo _ h;by_cases EX:r<s
 ·rw[ax EX];by_cases kC:x<y+1
  ·have:=le x y o_;rw[ax kC,ax o_]
  ·have:=lt y x o_;rw[au kC,au o_]
 ·rw[au EX];by_cases kC:x<y+0
  ·have:=lt x y o_;rw[ax kC,ax o_]
  ·have:=le y x o_;rw[au kC,au o_]
theorem SG(hB:0<B){a b:Nat}(b9:b<=a)(i:Nat):(a/B^i%B+2*B-b/B^i%B-kR B a b i)%B=(a-b)/B^i%B:=by
 unfold kR;have hp:0<B^i:=cK hB;have h1:=cL a hp;have h2:=cL b hp;have ea:=jm a (B^i);have eb:=jm b (B^i);generalize hA:a/B^i=A at *;generalize hA':b/B^i=A' at *;generalize a%B^i=r at *;generalize b%B^i=s at *;generalize B^i=p at *;have lt:∀ u v:Nat,u<v->p*u+p<=p*v:=λu v h=>by rw[<-Nj];exact jz _ h
 have hx:=cL A hB;have hy:=cL A' hB;have dA:=jm A B;have dA':=jm A' B
 -- the quotient of the aVv
 have key:∀ br:Nat,br=(if r<s then 1 else 0)->A'+br<=A/\(a-b)/p=A-A'-br:=by
  intro br JV;by_cases EX:r<s
  ·rw[ax EX]at JV;subst JV;have Nk:A'<A:=by
    rcases eL A' A with h|h
    ·exact h
    ·have:=jz p h;omega
   refine⟨Nk,?_⟩;have e:a-b=(p+r-s)+p*(A-A'-1):=by
    have:=lt A' A Nk;have e2:p*A=p*A'+p+p*(A-A'-1):=by rw[<-Nj,<-oS];congr 1;omega
    omega
   rw[e,JW _ _ hp,mA o_,kh]
  ·rw[au EX]at JV;subst JV;have Nk:A'<=A:=by
    rcases eL A A' with h|h
    ·have:=lt A A' h;omega
    ·exact h
   refine⟨Nk,?_⟩;have e:a-b=(r-s)+p*(A-A'):=by
    have e2:p*A=p*A'+p*(A-A'):=by rw[<-oS];congr 1;omega
    omega
   rw[e,JW _ _ hp,mA o_,kh];rfl
 have JV:(if r<s then 1 else 0)<=1:=by split<;>omega
 obtain⟨k1,k2⟩:=key _ rfl;rw[k2];generalize (if r<s then 1 else 0)=br at *;have e:A%B+2*B-A'%B-br+B*(A/B)=(A-A'-br)+B*(A'/B+2):=by rw[oS];omega
 have:=cM (·%B) e;simpa only[EY]using this
theorem yT(p:Nat->Prop)[DecidablePred p]:∀ n,p n->∃ e,e<=n/\p e/\∀ j,j<e->¬p j
 |0,h=>⟨0,bt _,h,λj hj=>by omega⟩
 |n+1,h=>by
  by_cases h0:p 0
  ·exact⟨0,by omega,h0,λj hj=>by omega⟩
  ·obtain⟨e,h1,h2,h3⟩:=yT (λj=>p (j+1)) n h;refine⟨e+1,by omega,h2,λj hj=>?_⟩;cases j with
   |zero=>exact h0
   |succ j=>exact h3 j o_
def c8(B n i s p:Nat):List Nat:=(List.range n).map λj=>if j<i then s/B^j%B else p/B^j%B
theorem xc(n i s p:Nat):(c8 B n i s p).length=n:=by simp[c8]
theorem CG{n i s p:Nat}{j:Nat}(hj:j<n)(h:i<=j):(c8 B n i s p)[j]?=some (p/B^j%B):=by simp[c8,hj];omega
theorem yU{n i s p d:Nat}(h:i<n)(hd:d=s/B^i%B):(c8 B n i s p).set i d=c8 B n (i+1) s p:=by
 subst hd;apply xa
 ·simp[c8]
 ·intro j h1 h2;simp only[c8,eO,xb]at h2;rw[G3];simp only[c8,CE,CF];by_cases hj:i=j
  ·subst hj;simp
  ·rw[au hj];by_cases h3:j<i
   ·rw[ax h3,ax o_]
   ·rw[au h3,au o_]
theorem aHZ(hB:0<B)(p t i:Nat):(p+t)/B^i=p/B^i+t/B^i+eR B p t i:=by
 have hp:0<B^i:=cK hB;unfold eR;have h1:=jm p (B^i);have h2:=jm t (B^i);have e2:p+t=(p%B^i+t%B^i)+(p/B^i+t/B^i)*B^i:=by rw[fE,cS (p/B^i),cS (t/B^i)];omega
 conv=>lhs;rw[e2]
 rw[pA _ _ hp];omega
theorem Zr(hB:0<B)(n at' p c:Nat):c8 B n at' (p+c*B^at') p=ae B n p:=by
 unfold c8 ae;refine yM λj _=>?_;by_cases h:j<at'
 ·rw[ax h];have e:B^at'=B^j*(B*B^(at'-j-1)):=by rw[<-Nat.pow_succ',<-eD];congr 1;omega
  rw[e,show c*(B^j*(B*B^(at'-j-1)))=B^j*(B*(c*B^(at'-j-1)))by rw[mX,mX c B],JW _ _ (cK hB),EY]
 ·rw[au h]
theorem aH0(hB:0<B)(at' p c:Nat):eR B p (c*B^at') at'=0:=by unfold eR;rw[Zs,jv,mA (cL _ (cK hB))]
theorem aH1(hB:0<B){n i p t:Nat}(ht:t<B^i)(hc:eR B p t i=0):c8 B n i (p+t) p=ae B n (p+t):=by
 unfold c8 ae;refine yM λj _=>?_;by_cases h:j<i
 ·rw[ax h]
 ·rw[au h];have e:=aHZ hB p t i;rw[hc,mA ht,jv]at e;have e2:B^j=B^i*B^(j-i):=by rw[<-eD];congr 1;omega
  rw[e2,<-kQ,<-kQ,e]
theorem aH2(hB:0<B)(at' c:Nat):c*B^at'/B^at'%B=c%B:=by rw[SH _ (cK hB)]
theorem aH3(hB:0<B){at' c:Nat}(h:c<B*B):c*B^at'/B^(at'+1)%B=c/B:=by rw[dy,<-kQ,SH _ (cK hB)];exact dK ((iK hB).2 h)
theorem aH4(hB:0<B){at' c:Nat}(h:c<B*B):c*B^at'<B^(at'+2):=by rw[dy,dy,fO,cS];exact Zt h (cK hB)
def part(B a b i k:Nat):Nat:=(a%B^i)*b+a/B^i%B*(b%B^k)*B^i
theorem CH(a b i:Nat):part B a b i 0=(a%B^i)*b:=by simp[part,tB]
theorem Zu(a b i k:Nat):part B a b i (k+1)=part B a b i k+a/B^i%B*(b/B^k%B)*B^(i+k):=by
 unfold part;rw[pz b k,eD,oS,fE,ux]
 congr 2
 simp only[cS,mX]
theorem aH5{a b i m:Nat}(hb:b<B^m):part B a b i m=part B a b (i+1) 0:=by
 rw[CH,pz a i];unfold part;rw[dK hb,fE]
 congr 1
 simp only[cS,mX]
theorem Zv(hB:0<B)(a b i k:Nat):part B a b i k<=a*b:=by
 have h1:a%B^(i+1)<=a:=JX _ _;have h2:part B a b i k<=(a%B^(i+1))*b:=by
  rw[pz a i];unfold part;rw[fE];refine Nat.add_le_add_left ?_ _;have h3:b%B^k<=b:=JX _ _;have:=jz (a/B^i%B) h3;have:=fo (B^i) this
  calc _<=_:=this
   _=_:=by simp only[cS,mX]
 exact dh h2 (fo _ h1)
theorem Zw{a b n m:Nat}(hB:0<B)(ha:a<B^n)(hb:b<B^m):a*b<B^(n+m+1):=by
 have h1:a*b<B^(n+m):=by rw[eD];exact qe ha hb
 exact cC h1 (c9 hB o_)
theorem Zx(hB:0<B){d:Nat}(hd:0<d)(mY:d<=B)(a j:Nat):(a/B^(j+1)%d*B+a/B^j%B)/d=(a/d)/B^j%B/\(a/B^(j+1)%d*B+a/B^j%B)%d=a/B^j%d:=by
 have e1:a/B^(j+1)=a/B^j/B:=by rw[dy,kQ]
 have e2:a/d/B^j=a/B^j/d:=by rw[kQ,kQ,cS]
 rw[e1,e2];generalize a/B^j=c;have h1:=jm c B;have h2:=jm (c/B) d;have h3:c/B%d<d:=cL _ hd;have h4:c%B<B:=cL _ hB;have h5:c=(c/B%d*B+c%B)+d*(B*(c/B/d)):=by
  have:B*(c/B)=B*(d*(c/B/d)+c/B%d):=by rw[h2]
  rw[oS,mX]at this;rw[cS (c/B%d)];omega
 have h6:(c/B%d*B+c%B)/d<B:=by rw[iK hd];have:=fo B (show c/B%d+1<=d by omega);rw[fE,qf]at this;rw[cS B d];omega
 constructor
 ·conv=>rhs;rw[h5]
  rw[JW _ _ hd,EY,dK h6]
 ·conv=>rhs;rw[h5]
  rw[EY]
def gG(B n i a:Nat):List Nat:=(List.range n).map λj=>if j<i then 0 else a/B^j%B
theorem Nl(n i a:Nat):(gG B n i a).length=n:=by simp[gG]
theorem Nn(n a:Nat):gG B n n a=List.replicate n 0:=by
 apply xa
 ·simp[gG]
 ·intro j h1 h2;simp only[gG,eO,xb]at h1;simp[gG,h1]
theorem JY(n a:Nat):gG B n 0 a=ae B n a:=by unfold gG ae;exact yM λj _=>by rw[au o_]
theorem Np{n j a d:Nat}(h:j<n)(hd:d=a/B^j%B):(gG B n (j+1) a).set j d=gG B n j a:=by
 subst hd;apply xa
 ·simp[gG]
 ·intro i h1 h2;simp only[gG,eO,xb]at h2;rw[G3];simp only[gG,CE,CF];by_cases hi:j=i
  ·subst hi;simp
  ·rw[au hi];by_cases h3:i<j
   ·rw[ax h3,ax o_]
   ·rw[au h3,au o_]
theorem xd(a j:Nat):a/B^j=a/B^(j+1)*B+a/B^j%B:=by have:=jm (a/B^j) B;rw[kQ,<-dy,cS]at this;exact this.symm
theorem Zy{a b n:Nat}(ha:a<B^n)(hb:b<B^n)(t:Nat)(ht:t<=n)(h:∀ s,s<t->a/B^(n-1-s)%B=b/B^(n-1-s)%B):a/B^(n-t)=b/B^(n-t):=by
 induction t with
 |zero=>rw[GY,mA ha,mA hb]
 |succ t ih=>
  have ih:=ih o_ λs hs=>h s o_;have e:n-t=(n-(t+1))+1:=by omega
  rw[e]at ih;have h1:=h t o_;rw[show n-1-t=n-(t+1)by omega]at h1;rw[xd (B:=B) a,xd (B:=B) b,ih,h1]
theorem Nq{a b j:Nat}(h:a/B^(j+1)=b/B^(j+1))(ak:a/B^j%B<b/B^j%B):a<b:=by
 have h1:a/B^j<b/B^j:=by rw[xd (B:=B) a,xd (B:=B) b,h];omega
 rcases eL a b with h2|h2
 ·exact h2
 ·have:=Nat.div_le_div_right (c:=B^j) h2;omega
end
theorem mixed:prog.follows .mixedOrders=true:=by kernel_rfl
def aW(x:Nat):Value:=.int .u32 (x:Int)
def al(l:List Nat):aj:=l.map aW
theorem fF(l:List Nat):∀ u∈al l,flat u=true:=λu hu=>by obtain⟨x,_,rfl⟩:=di.1 hu;rfl
theorem kS{l:List Nat}{i x:Nat}(h:l[i]?=some x):(al l)[i]?=some (aW x):=by simp[al,h]
abbrev base:Nat:=4294967296
theorem fP(cells:aj)(i:Nat):dw prog 176 cells i=cells[i]?:=by kernel_rfl
theorem aC{B:aa}{N:Nat}{c:Code}{fr:aR}{M:aH}{next:Nat}(rs:bI prog B N){r:mz}(h:JS (jc 100 c fr M next rs) r.fr r.M=JT (jc 100 c fr M next rs) r.ex r.fr r.M r.next:=by kernel_rfl):ag prog B N c fr M next r:=fq mixed 100 rs h
theorem aH6{Bs:aa}{n a m:Nat}(hm:m+1<=n)(ha:a<base^m)(h63:n<=9223372036854775807):
  ag prog Bs 21 (aF (af f175 0)) [(0,.slice (some ⟨0,0,some 7⟩) (m+1) 0)] [(0,.view (al (ae base n a)))] 1
   ⟨.normal,[(0,.slice (some ⟨0,0,some 7⟩) m 0)],[(0,.view (al (ae base n a)))],1⟩:=by
 have hd:a/base^m%base=0:=(G1 d_ (cC ha (c9 d_ (yI m)))).2 ha;exact aC [
  .gt 5 (m+1) 0 true s_,
  .e7 10 (m+1) 1 m rfl o_,
  .ix f175 11 0 (m+1) m o_ k_,
  .ld f175 12 176 0 m (.view (al (ae base n a))) (aW (a/base^m%base)) rfl (by rw[fP];exact kS (eB o_)) k_,
  .fv 13 (a/base^m%base) 0 true (by simp[hd]),
  .e7 18 (m+1) 1 m rfl o_,
  .upto f175 19 0 (m+1) m 1 o_ k_]
theorem aH7{Bs:aa}{n a m:Nat}(hm:m<=n)(ha:a<base^m)(hl:m=nd base a)(h63:n<=9223372036854775807):
  ag prog Bs 21 (aF (af f175 0)) [(0,.slice (some ⟨0,0,some 7⟩) m 0)] [(0,.view (al (ae base n a)))] 1
   ⟨.exit 0,[(0,.slice (some ⟨0,0,some 7⟩) m 0)],[(0,.view (al (ae base n a)))],1⟩:=by
 cases m with
 |zero=>exact aC [.gt 5 0 0 false s_]
 |succ m=>
  have hd:a/base^m%base≠0:=λe=>by have:=jl (B:=base) d_ ((G1 d_ ha).1 e);omega
  exact aC [
   .gt 5 (m+1) 0 true s_,
   .e7 10 (m+1) 1 m rfl o_,
   .ix f175 11 0 (m+1) m o_ k_,
   .ld f175 12 176 0 m (.view (al (ae base n a))) (aW (a/base^m%base)) rfl (by rw[fP];exact kS (eB o_)) k_,
   .fv 13 (a/base^m%base) 0 false (by simp[hd])]
theorem aH8{Bs:aa}{n a:Nat}(ha:a<base^n)(h63:n<=9223372036854775807):
  ag prog Bs 21 (.block 0 (af f175 0)) [(0,.slice (some ⟨0,0,some 7⟩) n 0)] [(0,.view (al (ae base n a)))] 1
   ⟨.normal,[(0,.slice (some ⟨0,0,some 7⟩) (nd base a) 0)],[(0,.view (al (ae base n a)))],1⟩:=by
 have hle:=jl (B:=base) d_ ha;have ak:=dU (B:=base) d_ a
 have:=cd (P:=prog) (B:=Bs) (N:=21) (b:=aF (af f175 0)) (next:=1) (n-nd base a) (λi=>[(0,.slice (some ⟨0,0,some 7⟩) (n-i) 0)]) (λ_=>[(0,.view (al (ae base n a)))])
  (r:=⟨.exit 0,[(0,.slice (some ⟨0,0,some 7⟩) (nd base a) 0)],[(0,.view (al (ae base n a)))],1⟩) (λ_ _ _=>Iff.rfl)
  (λi hi=>by
   have e:n-i=(n-(i+1))+1:=by omega
   simp only[e];exact aH6 o_ (cC ak (c9 d_ o_)) h63)
  (by
   have e:n-(n-nd base a)=nd base a:=by omega
   simp only[e];exact aH7 hle ak rfl h63) n_
 exact bT this
def G6(v:Value)(m:Nat):Value:=match v with|.slice a _ c=>.slice a m c|v=>v
theorem Zz{w:World}{v:Value}{n a:Nat}(hv:cO w v n (al (ae base n a)))(ha:a<base^n)(h63:n<=9223372036854775807):
  Calls prog 175 #[v] w λe w'=>e=.returned (G6 v (nd base a))/\Below w.heap.size w w':=by
 refine lO (Q:=λe w'=>e=.returned (G6 v (nd base a))/\Below w.heap.size w w') mixed func175 [.row v n (al (ae base n a))] (λs hs=>by simp at hs;subst hs;exact⟨hv,fF _⟩) 100 (N:=21) k_
  (rs:=[.code 0 _ _ _ _ _ (aH8 ha h63)]) (v:=.slice (some ⟨0,0,some 7⟩) (nd base a) 0) (ms:=[]) k_ λaw bZ v' w' hc hm _ dj=>⟨?_,hm.base⟩
 cases dj with
 |cons h1 _=>
 congr 1
 rcases hc.iw rfl with ⟨q1,q2,_,_,q5⟩|⟨b,o,cap,c',q1,q2,q3,q5⟩<;>rcases h1.iw rfl with ⟨p1,p2,_,_,p5⟩|⟨b2,o2,rM,c2,p1,p2,p3,p5⟩
 ·have p5:v=.slice none 0 0:=p5;rw[q5,p5,q2];rfl
 ·rw[q1]at p1;cases p1
 ·rw[q1]at p1;cases p1
 ·rw[q1]at p1;injection p1 with p1;injection p1 with e1 e2 e3;subst e1;subst e2;subst e3;have p5:v=_:=p5;rw[q5,p5,show c'=c2 by omega];rfl
theorem aM{f:FuncId}{fn:Func}{args:aj}{v:Value}(hf:prog.funcs[f]?=some fn)(rs:∀ w,bI prog (aa.at w) (args.length+(fn.ntmps-args.length)))(h:∀ w,nN (fW (P:=prog) fn 100 args [] 0 (rs w)) []=nO (fW fn 100 args [] 0 (rs w)) v []:=by intro _;kernel_rfl)(dj:args.all flat=true:=by kernel_rfl)(hv:flat v=true:=by kernel_rfl):aE prog f args v:=gR mixed hf 100 rs h dj hv
theorem JZ{x y c:Nat}(hx:x<base)(hy:y<base)(hc:c<base):
  aE prog 222 [aW x,aW y,aW c] (.tuple #[aW ((x+y+c)%base),aW ((x+y+c)/base)]):=
 aM func222 (λ_=>[
  .wr 10 .u64 x x (by rw[j5];unfold base at *;omega),.wr 12 .u64 y y (by rw[j5];unfold base at *;omega),
  .wr 13 .u64 (x+y) ((x+y:Nat):Int) (by rw[j5];unfold base at *;omega),.wr 15 .u64 c c (by rw[j5];unfold base at *;omega),
  .wr 16 .u64 (((x+y:Nat):Int)+c) ((x+y+c:Nat):Int) (by rw[j5];unfold base at *;omega),
  .wr 18 .u32 ((x+y+c:Nat):Int) (((x+y+c)%base:Nat):Int) (by rw[nP];unfold base at *;omega),
  .quo 20 .u64 (((x+y+c:Nat):Int).fdiv (2^32)) (((x+y+c)/base:Nat):Int) (by rw[r6 _ d_];unfold base at *;omega),
  .wr 21 .u32 (((x+y+c)/base:Nat):Int) (((x+y+c)/base:Nat):Int) (by rw[nP];unfold base at *;omega)])
theorem EZ(n:Nat):List.replicate n (aW 0)=al (List.replicate n 0):=by simp[al]
theorem yV(cells:aj)(i d:Nat)(h:i<cells.length):e6 prog 176 cells i (aW d)=some (cells.set i (aW d)):=by
 have e:e6 prog 176 cells i (aW d)=if(Nat.ble (i+1) cells.length&&true)then some (jb cells i [aW d])else none:=by kernel_rfl
 rw[e,MO h];rfl
theorem yW(l:List Nat)(i d:Nat):(al l).set i (aW d)=al (l.set i d):=by simp[al,List.map_set]
theorem aH9{Bs:aa}{o:Oper}{y:Operand}(ho:dx o.op=some y){k n a:Nat}{x:Obj}(hx:x.reads=true)(hc:x.cells=al (ae base n a))(ha:a<base^n)(h63:n<=9223372036854775807):
  cD prog Bs o [.func (.func 175) #[] #[],.slice (some ⟨k,0,some 7⟩) n 0] [(k,some x)] (.slice (some ⟨k,0,some 7⟩) (nd base a) 0) []:=by
 refine jM (fi:=[]) (ca:=[]) ho k_ λι c w hm hn args' dj=>?_;obtain⟨v,rfl,h1⟩:=ml dj;have hk:c k=some x:=hn _ (aU ..);have hr:=oP (len:=n) hm hk hx (by rw[hc];exact fF _) (λh=>h) h1;rw[hc,mB,kB (by simp[al,oR])]at hr;refine(Zz hr ha h63).mono ?_
 rintro e w' ⟨rfl,hb⟩
 refine⟨ι,_,rfl,Map.le.refl _,?_,hm.call hb⟩;have iD:=jl (B:=base) d_ ha;rcases h1.iw rfl with ⟨q1,q2,_,_,q5⟩|⟨b,oo,cap,c',q1,q2,q3,q5⟩
 ·rw[q5];have:nd base a=0:=by omega
  rw[this];exact .slcN q1
 ·rw[q5];exact .slc q1 o_ q3
def aX.trim{Bs:aa}{N:Nat}(fn:Func)(key k n a:Nat)(x:Obj)(hx:x.reads=true)(hc:x.cells=al (ae base n a))(ha:a<base^n)(h63:n<=9223372036854775807){y:Operand}(ho:dx (av fn key).op=some y):aX prog Bs N:=
 .step key (av fn key) [.func (.func 175) #[] #[],.slice (some ⟨k,0,some 7⟩) n 0] [(k,some x)] (.slice (some ⟨k,0,some 7⟩) (nd base a) 0) [] (aH9 ho hx hc ha h63)
section
variable{Bs:aa}{ka kb n m a b:Nat}
def sl(k n:Nat):Value:=.slice (some ⟨k,0,some 7⟩) n 0
def CI(ka kb n m a b i:Nat):aR:=[(23,vI i),(22,vI n),(21,sl ka n),(0,sl ka n),(1,sl kb m),(5,sl 2 (n+1)),(6,aW (eR base a b i))]
def yX(ka kb n m a b i:Nat):aH:=[(ka,.view (al (ae base n a))),(kb,.view (al (ae base m b))),(2,.row (al (eC base (n+1) i (a+b))) 176 1)]
theorem aIa{i:Nat}(hk:(ka=0/\kb=1)\/(ka=1/\kb=0))(hi:i<n)(hb:b<base^m)(hm:m<=n)(h63:n<9223372036854775807):
  ag prog Bs 54 (aF (af f209 0)) (CI ka kb n m a b i) (yX ka kb n m a b i) 3 ⟨.normal,CI ka kb n m a b (i+1),yX ka kb n m a b (i+1),3⟩:=by
 have hx:=hZ (B:=base) d_ a i;have hy:=hZ (B:=base) d_ b i;have hc:=A9 (B:=base) d_ a b i;have yY:=JZ (c:=eR base a b i) hx hy (e8 hc d_);rw[G4 d_,EW d_]at yY;have bM:e6 prog 176 (al (eC base (n+1) i (a+b))) i (aW ((a+b)/base^i%base))=some (al (eC base (n+1) (i+1) (a+b))):=by rw[yV _ i _ (by simp[al,Nd];omega),yW,Nf o_ rfl]
 by_cases jN:i<m
 ·let S:Nat->Nat->bI prog Bs 54:=λka kb=>[.lt 24 i n true (by simp[hi]),.ix f209 26 ka n i hi k_,.ld f209 27 176 ka i (.view (al (ae base n a))) (aW (a/base^i%base)) rfl (by rw[fP];exact kS (eB hi)) k_,.lt 31 i m true (by simp[jN]),.ix f209 34 kb m i jN k_,.ld f209 35 176 kb i (.view (al (ae base m b))) (aW (b/base^i%base)) rfl (by rw[fP];exact kS (eB jN)) k_,yY.at 42,.ix f209 45 2 (n+1) i o_ k_,.st f209 100045 176 2 i (.row (al (eC base (n+1) i (a+b))) 176 1) (aW ((a+b)/base^i%base)) (.row (al (eC base (n+1) (i+1) (a+b))) 176 1) rfl bM rfl k_,.sum 46 i 1 (i+1) rfl o_]
  rcases hk with ⟨rfl,rfl⟩|⟨rfl,rfl⟩
  ·exact aC (S 0 1)
  ·exact aC (S 1 0)
 ·have xe:b/base^i%base=0:=qQ hb o_ d_;rw[xe]at yY
  let S:Nat->Nat->bI prog Bs 54:=λka kb=>[.lt 24 i n true (by simp[hi]),.ix f209 26 ka n i hi k_,.ld f209 27 176 ka i (.view (al (ae base n a))) (aW (a/base^i%base)) rfl (by rw[fP];exact kS (eB hi)) k_,.lt 31 i m false (by simp[jN]),yY.at 42,.ix f209 45 2 (n+1) i o_ k_,.st f209 100045 176 2 i (.row (al (eC base (n+1) i (a+b))) 176 1) (aW ((a+b)/base^i%base)) (.row (al (eC base (n+1) (i+1) (a+b))) 176 1) rfl bM rfl k_,.sum 46 i 1 (i+1) rfl o_]
  rcases hk with ⟨rfl,rfl⟩|⟨rfl,rfl⟩
  ·exact aC (S 0 1)
  ·exact aC (S 1 0)
theorem aIb(hk:(ka=0/\kb=1)\/(ka=1/\kb=0)):
  ag prog Bs 54 (aF (af f209 0)) (CI ka kb n m a b n) (yX ka kb n m a b n) 3 ⟨.exit 0,CI ka kb n m a b n,yX ka kb n m a b n,3⟩:=by
 rcases hk with ⟨rfl,rfl⟩|⟨rfl,rfl⟩
 all_goals exact aC [.lt 24 n n false s_]
theorem aIc(hk:(ka=0/\kb=1)\/(ka=1/\kb=0))(hb:b<base^m)(hm:m<=n)(h63:n<9223372036854775807):
  ag prog Bs 54 (.block 0 (af f209 0)) (CI ka kb n m a b 0) (yX ka kb n m a b 0) 3 ⟨.normal,CI ka kb n m a b n,yX ka kb n m a b n,3⟩:=
 bT (cd (b:=aF (af f209 0)) (r:=⟨.exit 0,CI ka kb n m a b n,yX ka kb n m a b n,3⟩) n (CI ka kb n m a b) (yX ka kb n m a b) (λi k _=>j0 (l:=yX ka kb n m a b i) (m:=yX ka kb n m a b 0) rfl k) (λi hi=>aIa hk hi hb hm h63) (aIb hk) n_)
noncomputable def ZA(hk:(ka=0/\kb=1)\/(ka=1/\kb=0))(ha:a<base^n)(hb:b<base^m)(hm:m<=n)(h63:n<35184372088832)(hs:a+b<base^(n+1))
  (bM:e6 prog 176 (al (eC base (n+1) n (a+b))) n (aW (eR base a b n))=some (al (ae base (n+1) (a+b)))):bI prog Bs 54:=
 [.sum 19 n 1 (n+1) rfl o_,.qd f209 20 2 (n+1) 176 4 (aW 0) (al (eC base (n+1) 0 (a+b))) (by rw[SC,EZ]) rfl rfl o_ (by simp[maxLen];omega) k_,.rw 6 (.int .u32 0) (aW (eR base a b 0)) (by rw[Nh];rfl),.code 0 _ _ _ _ _ (aIc (ka:=ka) (kb:=kb) (a:=a) hk hb hm o_),.ix f209 51 2 (n+1) n o_ k_,.st f209 100051 176 2 n (.row (al (eC base (n+1) n (a+b))) 176 1) (aW (eR base a b n)) (.row (al (ae base (n+1) (a+b))) 176 1) rfl bM rfl k_,.trim f209 53 2 (n+1) (a+b) (.row (al (ae base (n+1) (a+b))) 176 1) rfl rfl hs o_ (y:=.func 175) k_]
end
def jO(w w':World)(v:Value)(a:Nat):Prop:=w'.ownsRow w.heap.size 176 1 v (nd base a) (al (ae base (nd base a) a))
def iL(w:World)(v:Value)(a:Nat):Prop:=cO w v (nd base a) (al (ae base (nd base a) a))
theorem xf{w w':World}{ι:Map}{c:Nat->Option Obj}(hm:aO (aa.at w) ι c w'){k n a:Nat}{v:Value}(hk:c k=some (.row (al (ae base n a)) 176 1))(ha:a<base^n)(hv:aG ι (.slice (some ⟨k,0,some 7⟩) (nd base a) 0) v):jO w w' v a:=by
 have hle:=jl (B:=base) d_ ha;have:=vC hm hk hv (by simp[al,oR];exact hle) (fF _);have e:(al (ae base n a)).take (nd base a*1)=al (ae base (nd base a) a):=by rw[fX];unfold al;rw[<-CD,JU hle]
 rw[e]at this;exact this
theorem J0{a b n:Nat}(ha:a<base^n)(hb:b<base^n):e6 prog 176 (al (eC base (n+1) n (a+b))) n (aW (eR base a b n))=some (al (ae base (n+1) (a+b))):=by have h1:=A9 (B:=base) d_ a b n;have h2:=SD ha hb;rw[yV _ n _ (by simp[al,Nd]),yW,Nf o_ (by rw[<-h2];exact(dK (e8 h1 d_)).symm),G2]
theorem J1{a b n:Nat}(ha:a<base^n)(hb:b<base^n):a+b<base^(n+1):=by have h1:base^n*2<=base^n*base:=jz _ d_;rw[dy];omega
theorem aId{w:World}{va vb:Value}{a b:Nat}(gn:iL w va a)(lp:iL w vb b)(h1:nd base a<35184372088832)(h2:nd base b<35184372088832):
  Calls prog 209 #[va,vb] w λe w'=>∃ v,e=.returned v/\jO w w' v (a+b)/\Below w.heap.size w w':=by
 have ha:=dU (B:=base) d_ a;have hb:=dU (B:=base) d_ b;have hl:∀ s∈[cE.row va (nd base a) (al (ae base (nd base a) a)),cE.row vb (nd base b) (al (ae base (nd base b) b))],s.OK w:=by
  intro s hs;simp at hs;rcases hs with rfl|rfl
  ·exact⟨gn,fF _⟩
  ·exact⟨lp,fF _⟩
 unfold iL at gn lp;generalize nd base a=n at *;generalize nd base b=m at *;by_cases lL:n<m
 ·have hs:=J1 hb (cC ha (c9 d_ o_))
  refine lO (Q:=λe w'=>∃ v,e=.returned v/\jO w w' v (a+b)/\Below w.heap.size w w') mixed func209 [cE.row va n (al (ae base n a)),cE.row vb m (al (ae base m b))] hl 100 (N:=54) k_
   (rs:=(aX.lt 14 n m true (by simp[lL]):aX prog (aa.at w) 54)::ZA (ka:=1) (kb:=0) (a:=b) (b:=a) (.inr ⟨rfl,rfl⟩) hb ha o_ o_ hs (J0 hb (cC ha (c9 d_ o_))))
   (v:=.slice (some ⟨2,0,some 7⟩) (nd base (b+a)) 0) (ms:=[(2,.row (al (ae base (m+1) (b+a))) 176 1)]) k_ λaw bZ v' w' hc bj dE _=>⟨v',rfl,?_,bj.base⟩
  rw[mW a b];exact xf bj (dE _ (aU ..)) hs hc
 ·have hs:=J1 ha (cC hb (c9 d_ (show m<=n by omega)))
  refine lO (Q:=λe w'=>∃ v,e=.returned v/\jO w w' v (a+b)/\Below w.heap.size w w') mixed func209 [cE.row va n (al (ae base n a)),cE.row vb m (al (ae base m b))] hl 100 (N:=54) k_
   (rs:=(aX.lt 14 n m false (by simp[lL]):aX prog (aa.at w) 54)::ZA (ka:=0) (kb:=1) (a:=a) (b:=b) (.inl ⟨rfl,rfl⟩) ha hb o_ o_ hs (J0 ha (cC hb (c9 d_ o_))))
   (v:=.slice (some ⟨2,0,some 7⟩) (nd base (a+b)) 0) (ms:=[(2,.row (al (ae base (n+1) (a+b))) 176 1)]) k_ λaw bZ v' w' hc bj dE _=>⟨v',rfl,?_,bj.base⟩
  exact xf bj (dE _ (aU ..)) hs hc
theorem CJ{x:Nat}(h:x<base):x.testBit 31=decide (2147483648<=x):=by rw[Nat.testBit_eq_decide_div_mod_eq,oQ];unfold base at h;omega
theorem aIe{x:Nat}(h:x<base):x/2147483648=if x.testBit 31 then 1 else 0:=by
 rw[CJ h];unfold base at h;by_cases h1:2147483648<=x
 ·rw[aB h1,ax rfl];omega
 ·rw[aJ h1,au d_];omega
theorem aIf{x y b:Nat}(hx:x<base)(hy:y<base)(hb:b<=1):
  (((base-1-x)&&& y)||| ((base-1-(x ^^^ y))&&& ((x+2*base-y-b)%base)))/2147483648=if x<y+b then 1 else 0:=by
 have kC:x ^^^ y<base:=ZB (n:=32) hx hy;have hd:(x+2*base-y-b)%base<base:=cL _ d_;have h1:base-1-x<base:=by unfold base at *;omega
 have h2:base-1-(x ^^^ y)<base:=by unfold base at *;omega
 rw[aIe (ZC (n:=32) (Nr _ hy) (Nr _ hd))];rw[YO,Nat.testBit_and,Nat.testBit_and,CJ h1,CJ h2,CJ hy,CJ hd];have h3:(decide (2147483648<=x ^^^ y))=((decide (2147483648<=x))!=(decide (2147483648<=y))):=by rw[<-CJ kC,Nat.testBit_xor,CJ hx,CJ hy]
 have h4:decide (2147483648<=base-1-(x ^^^ y))=!(decide (2147483648<=x ^^^ y)):=by
  unfold base at *;by_cases h:2147483648<=x ^^^ y
  ·rw[aB h,aJ o_];rfl
  ·rw[aJ h,aB o_];rfl
 rw[h4,h3];unfold base at *;have e1:decide (2147483648<=4294967296-1-x)=!decide (2147483648<=x):=by
  by_cases h:2147483648<=x
  ·rw[aB h,aJ o_];rfl
  ·rw[aJ h,aB o_];rfl
 rw[e1];have fin:∀ p:Prop,[Decidable p]->(p↔x<y+b)->(if decide p=true then 1 else 0)=(if x<y+b then 1 else 0):=by
  intro p _ h;by_cases hp:p
  ·rw[ax (aB hp),ax (h.1 hp)]
  ·rw[au (by simpa using hp),au λh'=>hp (h.2 h')]
 by_cases c1:2147483648<=x<;>by_cases c2:2147483648<=y
 ·rw[aB c1,aB c2];simp only[J2,yZ,vD,bne_self_eq_false,Ns,lP];exact fin _ o_
 ·rw[aB c1,aJ c2,au (show ¬x<y+b by omega)];rfl
 ·rw[aJ c1,aB c2,ax (show x<y+b by omega)];rfl
 ·rw[aJ c1,aJ c2];simp only[Ns,lP,Nt,vD,bne_self_eq_false];exact fin _ o_
theorem G7{x:Nat}(h:x<base):(BitVec.ofInt 32 (x:Int))=BitVec.ofNat 32 x:=by simp
theorem E0{x:Nat}(h:x<base):(BitVec.ofNat 32 x).toNat=x:=by rw[BitVec.toNat_ofNat];exact dK h
theorem ZD{x y:Nat}(hx:x<base)(hy:y<base):IntKind.u32.wrap (((BitVec.ofInt IntKind.u32.bits (x:Int))&&& (BitVec.ofInt IntKind.u32.bits (y:Int))).toNat:Int)=((x&&& y:Nat):Int):=by show IntKind.u32.wrap (((BitVec.ofInt 32 (x:Int))&&& (BitVec.ofInt 32 (y:Int))).toNat:Int)=_;rw[G7 hx,G7 hy,BitVec.toNat_and,E0 hx,E0 hy,nP];have:x&&& y<base:=Nr (n:=32) _ hy;unfold base at this;omega
theorem SI{x y:Nat}(hx:x<base)(hy:y<base):IntKind.u32.wrap (((BitVec.ofInt IntKind.u32.bits (x:Int))||| (BitVec.ofInt IntKind.u32.bits (y:Int))).toNat:Int)=((x||| y:Nat):Int):=by
 show IntKind.u32.wrap (((BitVec.ofInt 32 (x:Int))||| (BitVec.ofInt 32 (y:Int))).toNat:Int)=_;rw[G7 hx,G7 hy,BitVec.toNat_or,E0 hx,E0 hy,nP];have:x||| y<base:=ZC (n:=32) hx hy
 unfold base at this;omega
theorem ZE{x y:Nat}(hx:x<base)(hy:y<base):IntKind.u32.wrap (((BitVec.ofInt IntKind.u32.bits (x:Int)) ^^^ (BitVec.ofInt IntKind.u32.bits (y:Int))).toNat:Int)=((x ^^^ y:Nat):Int):=by show IntKind.u32.wrap (((BitVec.ofInt 32 (x:Int)) ^^^ (BitVec.ofInt 32 (y:Int))).toNat:Int)=_;rw[G7 hx,G7 hy,BitVec.toNat_xor,E0 hx,E0 hy,nP];have:x ^^^ y<base:=ZB (n:=32) hx hy;unfold base at this;omega
theorem ZF{x:Nat}(hx:x<base):IntKind.u32.wrap (((BitVec.ofInt IntKind.u32.bits (if IntKind.u32.signed then -1 else IntKind.u32.max)) ^^^ (BitVec.ofInt IntKind.u32.bits (x:Int))).toNat:Int)=((base-1-x:Nat):Int):=by
 have h0:(if IntKind.u32.signed then -1 else IntKind.u32.max)=((base-1:Nat):Int):=by decide
 rw[h0,ZE d_ hx]
 congr 1
 have h1:=BitVec.toNat_not (x:=BitVec.ofNat 32 x);rw[show ~~~(BitVec.ofNat 32 x)=BitVec.allOnes 32 ^^^ BitVec.ofNat 32 x from rfl,BitVec.toNat_xor,E0 hx]at h1;have h2:(BitVec.allOnes 32).toNat=base-1:=by decide
 rw[h2]at h1;exact h1
theorem ZG{x y b:Nat}(hx:x<base)(hy:y<base)(hb:b<=1):
  aE prog 221 [aW x,aW y,aW b] (.tuple #[aW ((x+2*base-y-b)%base),aW (if x<y+b then 1 else 0)]):=by
 have hd:(x+2*base-y-b)%base<base:=cL _ d_;have kC:x ^^^ y<base:=ZB (n:=32) hx hy;have h1:base-1-x<base:=by unfold base at *;omega
 have h2:base-1-(x ^^^ y)<base:=by unfold base at *;omega
 have h3:(base-1-x)&&& y<base:=Nr (n:=32) _ hy;have h4:(base-1-(x ^^^ y))&&& ((x+2*base-y-b)%base)<base:=Nr (n:=32) _ hd;exact aM func221 (λ_=>[
  .wr 10 .u32 ((x:Int)-y) (((x+base-y)%base:Nat):Int) (by rw[nP];unfold base at *;omega),
  .wr 12 .u32 ((((x+base-y)%base:Nat):Int)-b) (((x+2*base-y-b)%base:Nat):Int) (by rw[nP];unfold base at *;omega),
  .quo 14 .u32 _ ((base-1-x:Nat):Int) (ZF hx),
  .quo 16 .u32 _ (((base-1-x)&&& y:Nat):Int) (ZD h1 hy),
  .quo 19 .u32 _ ((x ^^^ y:Nat):Int) (ZE hx hy),
  .quo 20 .u32 _ ((base-1-(x ^^^ y):Nat):Int) (ZF kC),
  .quo 22 .u32 _ (((base-1-(x ^^^ y))&&& ((x+2*base-y-b)%base):Nat):Int) (ZD h2 hd),
  .quo 23 .u32 _ ((((base-1-x)&&& y)||| ((base-1-(x ^^^ y))&&& ((x+2*base-y-b)%base)):Nat):Int) (SI h3 h4),
  .quo 24 .u32 (((((base-1-x)&&& y)||| ((base-1-(x ^^^ y))&&& ((x+2*base-y-b)%base)):Nat):Int).fdiv (2^31)) ((if x<y+b then 1 else 0:Nat):Int) (by rw[<-aIf hx hy hb,r6 _ d_];rfl)])
section
variable{Bs:aa}{n m a b:Nat}
def G8(n m a b i:Nat):aR:=[(15,vI i),(14,vI n),(13,sl 0 n),(1,sl 1 m),(5,sl 2 n),(6,aW (kR base a b i))]
def CK(n m a b i:Nat):aH:=[(0,.view (al (ae base n a))),(1,.view (al (ae base m b))),(2,.row (al (eC base n i (a-b))) 176 1)]
theorem aIg{i:Nat}(hi:i<n)(hb:b<base^m)(b9:b<=a)(h63:n<9223372036854775807):
  ag prog Bs 41 (aF (af f210 0)) (G8 n m a b i) (CK n m a b i) 3 ⟨.normal,G8 n m a b (i+1),CK n m a b (i+1),3⟩:=by
 have hx:=hZ (B:=base) d_ a i;have hy:=hZ (B:=base) d_ b i;have hc:=Ni (B:=base) a b i;have xg:=ZG hx hy hc;rw[show a/base^i%base+2*base-b/base^i%base-kR base a b i=a/base^i%base+2*base-b/base^i%base-kR base a b i from rfl,SG d_ b9,SF d_]at xg;have bM:e6 prog 176 (al (eC base n i (a-b))) i (aW ((a-b)/base^i%base))=some (al (eC base n (i+1) (a-b))):=by rw[yV _ i _ (by simp[al,Nd];omega),yW,Nf hi rfl]
 by_cases jN:i<m
 ·exact aC [.lt 16 i n true (by simp[hi]),.ix f210 18 0 n i hi k_,.ld f210 19 176 0 i (.view (al (ae base n a))) (aW (a/base^i%base)) rfl (by rw[fP];exact kS (eB hi)) k_,.lt 23 i m true (by simp[jN]),.ix f210 26 1 m i jN k_,.ld f210 27 176 1 i (.view (al (ae base m b))) (aW (b/base^i%base)) rfl (by rw[fP];exact kS (eB jN)) k_,xg.at 34,.ix f210 37 2 n i hi k_,.st f210 100037 176 2 i (.row (al (eC base n i (a-b))) 176 1) (aW ((a-b)/base^i%base)) (.row (al (eC base n (i+1) (a-b))) 176 1) rfl bM rfl k_,.sum 38 i 1 (i+1) rfl o_]
 ·have xe:b/base^i%base=0:=qQ hb o_ d_;rw[xe]at xg;exact aC [.lt 16 i n true (by simp[hi]),.ix f210 18 0 n i hi k_,.ld f210 19 176 0 i (.view (al (ae base n a))) (aW (a/base^i%base)) rfl (by rw[fP];exact kS (eB hi)) k_,.lt 23 i m false (by simp[jN]),xg.at 34,.ix f210 37 2 n i hi k_,.st f210 100037 176 2 i (.row (al (eC base n i (a-b))) 176 1) (aW ((a-b)/base^i%base)) (.row (al (eC base n (i+1) (a-b))) 176 1) rfl bM rfl k_,.sum 38 i 1 (i+1) rfl o_]
theorem aIh(hb:b<base^m)(b9:b<=a)(h63:n<9223372036854775807):
  ag prog Bs 41 (.block 0 (af f210 0)) (G8 n m a b 0) (CK n m a b 0) 3 ⟨.normal,G8 n m a b n,CK n m a b n,3⟩:=
 bT (cd (b:=aF (af f210 0)) (r:=⟨.exit 0,G8 n m a b n,CK n m a b n,3⟩) n (G8 n m a b) (CK n m a b)
  (λi k _=>j0 (l:=CK n m a b i) (m:=CK n m a b 0) rfl k) (λi hi=>aIg hi hb b9 h63) (aC [.lt 16 n n false s_]) n_)
end
theorem aIi{w:World}{va vb:Value}{a b:Nat}(gn:iL w va a)(lp:iL w vb b)(b9:b<=a)(h1:nd base a<35184372088832):
  Calls prog 210 #[va,vb] w λe w'=>∃ v,e=.returned v/\jO w w' v (a-b)/\Below w.heap.size w w':=by
 have ha:=dU (B:=base) d_ a;have hb:=dU (B:=base) d_ b;have hl:∀ s∈[cE.row va (nd base a) (al (ae base (nd base a) a)),cE.row vb (nd base b) (al (ae base (nd base b) b))],s.OK w:=by
  intro s hs;simp at hs;rcases hs with rfl|rfl
  ·exact⟨gn,fF _⟩
  ·exact⟨lp,fF _⟩
 unfold iL at gn lp;generalize nd base a=n at *;generalize nd base b=m at *;have hs:a-b<base^n:=by omega
 refine lO (Q:=λe w'=>∃ v,e=.returned v/\jO w w' v (a-b)/\Below w.heap.size w w') mixed func210 [cE.row va n (al (ae base n a)),cE.row vb m (al (ae base m b))] hl 100 (N:=41) k_
  (rs:=[(aX.qd f210 12 2 n 176 4 (aW 0) (al (eC base n 0 (a-b))) (by rw[SC,EZ]) rfl rfl o_ (by simp[maxLen];omega) k_:aX prog (aa.at w) 41),.rw 6 (.int .u32 0) (aW (kR base a b 0)) (by rw[SE];rfl),.code 0 _ _ _ _ _ (aIh (n:=n) hb b9 o_),.trim f210 40 2 n (a-b) (.row (al (eC base n n (a-b))) 176 1) rfl (by rw[<-G2];rfl) hs o_ (y:=.func 175) k_])
  (v:=.slice (some ⟨2,0,some 7⟩) (nd base (a-b)) 0) (ms:=[(2,.row (al (eC base n n (a-b))) 176 1)]) k_ λaw bZ v' w' hc bj dE _=>⟨v',rfl,?_,bj.base⟩
 have hk:=dE _ (aU ..);rw[G2]at hk;exact xf bj hk hs hc
structure Ba(g:Nat)(w w':World):Prop where
 os:tj w w'
 tape:w'.tape=w.tape
 output:w'.output=w.output
 size:w.heap.size<=w'.heap.size
 block:∀ k,k<w.heap.size->k≠g->w'.heap[k]?=w.heap[k]?
def aa.vE(w0:World)(g:Nat):aa where
 G w:=Ba g w0 w
 cR k:=k<w0.heap.size/\k≠g
 lt w k h hk:=cC hk.1 h.size
 dep w w' h h1 h2 h3 h4 h5:=⟨h1.trans h.os,h2.trans h.tape,h3.trans h.output,dh h.size h4,λk hk hg=>(h5 k ⟨hk,hg⟩).trans (h.block k hk hg)⟩
section
variable{P:Program}{B:aa}{N:Nat}
theorem SJ{w:World}{g cap size:Nat}{cur:Array Value}{ty:TypeId}{cells:aj}(hg:w.heap[g]?=some (.cells cur ty (0,0)))(jJ:cap<=maxLen)(bw:cur.size=cap*size)(hc:cur.toList.take cells.length=cells)(cQ:∀ v∈cells,flat v=true):
  aO (aa.vE w g) (dG (λ_=>none) 0 (.at g 0 cap)) (aZ (λ_=>none) 0 (.row cells ty size)) w:=by
 have h0:aO (aa.vE w g) (λ_=>none) (λ_=>none) w:=
  ⟨⟨.refl w,rfl,rfl,bt _,λ_ _ _=>rfl⟩,λ_ _=>rfl,λk x h=>(by cases h),λk x b o cap h=>(by cases h),λk j x y b o cap o' aQ h=>(by cases h),λk j x F b o cap v h=>(by cases h),λk x b o cap h=>(by cases h),λj F h=>(by cases h),λj k F F' h=>(by cases h),λ_ _ h=>(by cases h)⟩
 refine h0.add rfl (.inr ⟨g,cap,cur,rfl,hg,jJ,bw,by rw[hc];exact kx cQ⟩) (λb o cp _ e=>?_) n_ n_;injection e with e1 e2 e3;subst e1;exact⟨(yO.1 hg).1,λh=>h.2 rfl,λj y o' aQ h=>(by cases h),λj F v h=>(by cases h),λj y o' aQ h=>(by cases h)⟩
theorem SK{w w':World}{ι:Map}{c:Nat->Option Obj}{g cap size:Nat}{ty:TypeId}{cells:aj}(hm:aO (aa.vE w g) ι c w')(qF:ι 0=some (.at g 0 cap))(hk:c 0=some (.row cells ty size))(cQ:∀ v∈cells,flat v=true):
  Ba g w w'/\∃ cur,w'.heap[g]?=some (.cells cur ty (0,0))/\cur.size=cap*size/\cur.toList.take cells.length=cells:=by
 refine⟨hm.base,?_⟩;obtain⟨l,h1,h2⟩:=hm.born 0 _ hk;rw[qF]at h1;injection h1 with h1;subst h1;rcases h2 with h2|⟨b,aQ,cur,e1,e2,e3,e4,e5⟩
 ·cases h2.1
 ·injection e1 with e1 CL CM;subst e1;subst CM;exact⟨cur,e2,e4,nJ e5 cQ⟩
theorem ZH(c:Nat->Option Obj)(k:Nat)(x:Obj):cV (aZ c k x) [(k,x)]:=by
 intro j y hj;by_cases h:k=j
 ·subst h;have:ah [(k,x)] k=some x:=by simp[ah]
  rw[this]at hj;rw[<-hj];unfold aZ;rw[ax rfl]
 ·have:ah [(k,x)] j=none:=by show(if Nat.beq k j then _ else _)=_;rw[ou h];rfl
  rw[this]at hj;cases hj
theorem aIj{ι:Map}{pre post:aj}{v:Value}(h1:∀ u∈pre,flat u=true)(h2:∀ u∈post,flat u=true):∀{l:aj},bL (aG ι) (pre++v::post) l->∃ v',aG ι v v'/\l=pre++v'::post:=by
 induction pre with
 |nil=>
  intro l h;cases h with
  |cons hv t=>exact⟨_,hv,by rw[nJ t h2];rfl⟩
 |cons u pre ih=>
  intro l h;cases h with
  |cons hu t=>
   obtain⟨v',q1,q2⟩:=ih (λx hx=>h1 x (bE _ hx)) t;exact⟨v',q1,by rw[q2,hu.eY (h1 _ (aU ..))];rfl⟩
theorem aIk{o:Oper}{x:Operand}{f:FuncId}{fi args ca pre post:aj}{k n size:Nat}{ty:TypeId}{cells cells':aj}{val:Value}(ho:dx o.op=some x)(eQ:gz P f=true)
  (dj:fi++args++ca=pre++.slice (some ⟨k,0,some 7⟩) n 0::post) (MD:∀ u∈pre,flat u=true) (SL:∀ u∈post,flat u=true) (hn:0<n) (cQ:∀ v∈cells,flat v=true) (Bb:∀ v∈cells',flat v=true) (oz:flat val=true)
  (h:∀ w g cap cur,w.heap[g]?=some (.cells cur ty (0,0))->n<=cap->cap<=maxLen->cur.size=cap*size->cur.toList.take cells.length=cells->Calls P f (pre++.slice (some ⟨g,0,none⟩) n cap::post).toArray w λe w'=>e=.returned val/\Ba g w w'/\∃ fU,w'.heap[g]?=some (.cells fU ty (0,0))/\fU.size=cap*size/\fU.toList.take cells'.length=cells') :
  cD P B o (.func (.func f) fi.toArray ca.toArray::args) [(k,some (.row cells ty size))] val [(k,.row cells' ty size)]:=by
 refine jM ho eQ λι c w hm iD args' aY=>?_;rw[dj]at aY;have hk:c k=some (.row cells ty size):=iD _ (aU ..);obtain⟨v,hv,rfl⟩:=aIj MD SL aY;rcases hv.iw rfl with ⟨_,h0,_⟩|⟨g,oo,cap,c',hb,lJ,mO,he⟩
 ·omega
 ·dsimp only at hb he;have kz:c'=cap:=by omega
  subst kz;obtain⟨l,q1,q2⟩:=hm.born k _ hk;rw[hb]at q1;injection q1 with q1;subst q1;rcases q2 with q2|⟨b,aQ,cur,e1,mo,dD,gj,jk⟩
  ·cases q2.1
  ·injection e1 with e1 e2 e3;subst e1;subst e2;subst e3;rw[he];refine(h w g c' cur mo lJ dD gj (nJ jk cQ)).mono ?_
   rintro e w' ⟨rfl,qg,fU,p1,p2,p3⟩
   refine⟨ι,val,rfl,Map.le.refl _,.same oz,hm.write hk rfl hb qg.os qg.tape qg.output qg.size (λj hj E1=>qg.block j hj E1) (.inr ⟨g,c',fU,rfl,p1,dD,p2,?_⟩) n_ rfl⟩;rw[p3];exact kx Bb
end
theorem aIl{x y:Nat}(hx:x<base)(hy:y<base):aE prog 233 [aW x,aW y] (.tuple #[aW (x*y/base),aW (x*y%base)]):=by
 have h:x*y<base*base:=qe hx hy;exact aM func233 (λ_=>[
  .wr 8 .u64 x x (by rw[j5];unfold base at *;omega),.wr 10 .u64 y y (by rw[j5];unfold base at *;omega),
  .wr 11 .u64 ((x:Int)*y) ((x*y:Nat):Int) (by rw[j5,<-om];unfold base at *;omega),
  .quo 13 .u64 (((x*y:Nat):Int).fdiv (2^32)) ((x*y/base:Nat):Int) (by rw[r6 _ d_];rfl),
  .wr 14 .u32 ((x*y/base:Nat):Int) ((x*y/base:Nat):Int) (by rw[nP];have:x*y/base<base:=(iK d_).2 h;unfold base at *;omega),
  .wr 16 .u32 ((x*y:Nat):Int) ((x*y%base:Nat):Int) (by rw[nP];unfold base at *;omega)])
section
variable{Bs:aa}{n p t:Nat}
def y0(n i p t:Nat):aH:=[(0,.row (al (c8 base n i (p+t) p)) 176 1)]
def J3(n i p t:Nat):aR:=[(0,sl 0 n),(11,vI i),(10,aW (eR base p t i))]
theorem SM{i:Nat}(hi:i<n):e6 prog 176 (al (c8 base n i (p+t) p)) i (aW ((p+t)/base^i%base))=some (al (c8 base n (i+1) (p+t) p)):=by rw[yV _ i _ (by simp[al,xc];omega),yW,yU hi rfl]
theorem aIm{i:Nat}(hi:i<n)(ht:t<base^i)(hc:eR base p t i≠0)(h63:n<9223372036854775807):
  ag prog Bs 63 (aF (af f229 0)) (J3 n i p t) (y0 n i p t) 1 ⟨.normal,J3 n (i+1) p t,y0 n (i+1) p t,1⟩:=by
 have gA:=A9 (B:=base) d_ p t i;have yY:=JZ (x:=p/base^i%base) (y:=t/base^i%base) (c:=eR base p t i) (hZ d_ _ _) (hZ d_ _ _) (e8 gA d_);rw[G4 d_,EW d_,qQ ht (bt _) d_]at yY;exact aC [.rw 48 (.bool (((eR base p t i:Nat):Int)!=0)) (.bool true) (by congr 1;rw[uG];omega),.ix f229 56 0 n i hi k_,.ld f229 57 176 0 i (.row (al (c8 base n i (p+t) p)) 176 1) (aW (p/base^i%base)) rfl (by rw[fP];exact kS (CG hi (bt _))) k_,yY.at 59,.ix f229 62 0 n i hi k_,.st f229 100062 176 0 i (.row (al (c8 base n i (p+t) p)) 176 1) (aW ((p+t)/base^i%base)) (.row (al (c8 base n (i+1) (p+t) p)) 176 1) rfl (SM hi) rfl k_,.sum 50 i 1 (i+1) rfl o_]
theorem aIn{i:Nat}(hc:eR base p t i=0):ag prog Bs 63 (aF (af f229 0)) (J3 n i p t) (y0 n i p t) 1 ⟨.exit 0,[],y0 n i p t,1⟩:=
 aC [.rw 48 (.bool (((eR base p t i:Nat):Int)!=0)) (.bool false) (by rw[hc];rfl)]
theorem aIo{i:Nat}(hi:i<=n)(ht:t<base^i)(hp:p<base^n)(hs:p+t<base^n)(h63:n<9223372036854775807):
  ag prog Bs 63 (.block 0 (af f229 0)) (J3 n i p t) (y0 n i p t) 1 ⟨.normal,[],[(0,.row (al (ae base n (p+t))) 176 1)],1⟩:=by
 have h0:eR base p t (i+(n-i))=0:=by rw[show i+(n-i)=n by omega,SD hp o_,mA hs]
 obtain⟨e,h1,h2,h3⟩:=yT (λj=>eR base p t (i+j)=0) (n-i) h0;have Nu:t<base^(i+e):=cC ht (c9 d_ o_)
 have:=cd (P:=prog) (B:=Bs) (N:=63) (b:=aF (af f229 0)) (next:=1) (r:=⟨.exit 0,[],y0 n (i+e) p t,1⟩) e (λj=>J3 n (i+j) p t) (λj=>y0 n (i+j) p t)
  (λj k _=>j0 (l:=y0 n (i+j) p t) (m:=y0 n (i+0) p t) rfl k)
  (λj hj=>aIm o_ (cC ht (c9 d_ o_)) (h3 j hj) h63) (aIn h2) n_
 have:=bT (id:=0) this;unfold y0 at this;rw[aH1 d_ Nu h2]at this;exact this
end
theorem aIp{w:World}{g cap n at' p x y:Nat}{cur:Array Value}(hg:w.heap[g]?=some (.cells cur 176 (0,0)))(lJ:n<=cap)(jJ:cap<=maxLen)(bw:cur.size=cap*1)(hc:cur.toList.take (al (ae base n p)).length=al (ae base n p))
  (hx:x<base) (hy:y<base) (mQ:at'+1<n) (hp:p<base^n) (hs:p+x*y*base^at'<base^n) (h63:n<35184372088832) :
  Calls prog 229 #[.slice (some ⟨g,0,none⟩) n cap,vI at',aW x,aW y] w λe w'=>e=.returned (.tuple #[])/\Ba g w w'/\∃ fU,w'.heap[g]?=some (.cells fU 176 (0,0))/\fU.size=cap*1/\
   fU.toList.take (al (ae base n (p+x*y*base^at'))).length=al (ae base n (p+x*y*base^at')):=by
 have hm:=SJ hg jJ bw hc (fF _);have kC:x*y<base*base:=qe hx hy;have ht:=aH4 (B:=base) d_ (at':=at') kC;have d0:=aH2 (B:=base) d_ at' (x*y);have d1:=aH3 (B:=base) d_ (at':=at') kC;have c0:=aH0 (B:=base) d_ at' p (x*y);have m0:=Zr (B:=base) d_ n at' p (x*y);have s1:e6 prog 176 (al (c8 base n at' (p+x*y*base^at') p)) at' (aW ((p+x*y*base^at')/base^at'%base))=some (al (c8 base n (at'+1) (p+x*y*base^at') p)):=SM o_;have s2:e6 prog 176 (al (c8 base n (at'+1) (p+x*y*base^at') p)) (at'+1) (aW ((p+x*y*base^at')/base^(at'+1)%base))=some (al (c8 base n (at'+2) (p+x*y*base^at') p)):=SM mQ;have lo:=aIo (Bs:=aa.vE w g) (i:=at'+2) o_ ht hp hs o_;generalize x*y*base^at'=t at *;have ZI:=JZ (x:=p/base^at'%base) (y:=t/base^at'%base) (c:=eR base p t at') (hZ d_ _ _) (hZ d_ _ _) (by rw[c0];decide);rw[G4 d_,EW d_,d0,c0]at ZI;have gA:=A9 (B:=base) d_ p t (at'+1);have ZJ:=JZ (x:=p/base^(at'+1)%base) (y:=t/base^(at'+1)%base) (c:=eR base p t (at'+1)) (hZ d_ _ _) (hZ d_ _ _) (e8 gA d_);rw[G4 d_,EW d_,d1]at ZJ
 refine rY (M:=[(0,.row (al (ae base n p)) 176 1)]) (next:=1) (args:=[sl 0 n,vI at',aW x,aW y]) (args':=[.slice (some ⟨g,0,none⟩) n cap,vI at',aW x,aW y]) (v:=.tuple #[])
  (ms:=[(0,.row (al (ae base n (p+t))) 176 1)]) (N:=63) mixed func229 k_ 100
  (rs:=[((aIl hx hy).at 15:aX prog (aa.vE w g) 63),.ix f229 23 0 n at' o_ k_,.ld f229 24 176 0 at' (.row (al (ae base n p)) 176 1) (aW (p/base^at'%base)) rfl (by rw[fP];exact kS (eB o_)) k_,ZI.at 26,.ix f229 29 0 n at' o_ k_,.st f229 100029 176 0 at' (.row (al (ae base n p)) 176 1) (aW ((p+t)/base^at'%base)) (.row (al (c8 base n (at'+1) (p+t) p)) 176 1) rfl (by rw[<-m0];exact s1) rfl k_,.sum 33 at' 1 (at'+1) rfl o_,.sum 36 at' 1 (at'+1) rfl o_,.ix f229 37 0 n (at'+1) mQ k_,.ld f229 38 176 0 (at'+1) (.row (al (c8 base n (at'+1) (p+t) p)) 176 1) (aW (p/base^(at'+1)%base)) rfl (by rw[fP];exact kS (CG mQ (bt _))) k_,ZJ.at 41,.ix f229 44 0 n (at'+1) mQ k_,.st f229 100044 176 0 (at'+1) (.row (al (c8 base n (at'+1) (p+t) p)) 176 1) (aW ((p+t)/base^(at'+1)%base)) (.row (al (c8 base n (at'+2) (p+t) p)) 176 1) rfl s2 rfl k_,.sum 46 at' 2 (at'+2) rfl o_,.code 0 _ _ _ _ _ lo]) k_ ?_ hm ?_ ?_ ?_
 ·exact .cons (.slc (off:=0) (fK _ _ _) lJ o_) (.cons (.same rfl) (.cons (.same rfl) (.cons (.same rfl) .nil)))
 ·exact ZH _ _ _
 ·intro k hk;unfold aZ;rw[au o_]
 ·intro aw bZ v' w' hle tt bj dE;obtain⟨q1,q2⟩:=SK bj (hle 0 _ (fK _ _ _)) (dE _ (aU ..)) (fF _);exact⟨by rw[tt.eY rfl],q1,q2⟩
section
variable{Bs:aa}{n m a b:Nat}
def y7(n m a b i k:Nat):Obj:=.row (al (ae base (n+m+1) (part base a b i k))) 176 1
def SN(N:Nat):Value:=.func (.func 229) #[sl 2 N] #[]
theorem aIq{o:Oper}{x:Operand}(ho:dx o.op=some x){i k:Nat}(hi:i<n)(hk:k<m)(ha:a<base^n)(hb:b<base^m)(h63:n+m+1<35184372088832):
  cD prog Bs o [SN (n+m+1),vI (i+k),aW (a/base^i%base),aW (b/base^k%base)] [(2,some (y7 n m a b i k))] (.tuple #[]) [(2,y7 n m a b i (k+1))]:=by
 refine aIk (fi:=[sl 2 (n+m+1)]) (args:=[vI (i+k),aW (a/base^i%base),aW (b/base^k%base)]) (ca:=[]) (pre:=[]) (post:=[vI (i+k),aW (a/base^i%base),aW (b/base^k%base)]) ho k_ rfl n_
  (λu hu=>by simp at hu;rcases hu with rfl|rfl|rfl<;>rfl) o_ (fF _) (fF _) rfl λw g cap cur h1 h2 h3 h4 h5=>?_
 have ak:=Zw (B:=base) d_ ha hb;rw[Zu]
 exact aIp h1 h2 h3 h4 h5 (hZ d_ _ _) (hZ d_ _ _) o_ (e8 (Zv d_ _ _ _ _) ak)
  (by rw[<-Zu];exact e8 (Zv d_ _ _ _ _) ak) h63
def G9(n m a b i k:Nat):aR:=[(29,vI k),(28,vI m),(27,sl 1 m),(6,SN (n+m+1)),(7,vI i),(8,aW (a/base^i%base))]
def CN(n m a b i k:Nat):aH:=[(1,.view (al (ae base m b))),(2,y7 n m a b i k)]
theorem aIr{i k:Nat}(hi:i<n)(hk:k<m)(ha:a<base^n)(hb:b<base^m)(h63:n+m+1<35184372088832):
  ag prog Bs 45 (aF (af f217 2)) (G9 n m a b i k) (CN n m a b i k) 3 ⟨.normal,G9 n m a b i (k+1),CN n m a b i (k+1),3⟩:=
 aC [.lt 30 k m true (by simp[hk]),.ix f217 32 1 m k hk k_,.ld f217 33 176 1 k (.view (al (ae base m b))) (aW (b/base^k%base)) rfl (by rw[fP];exact kS (eB hk)) k_,.sum 37 i k (i+k) rfl o_,.step 40 (av f217 40) _ _ _ _ (aIq (x:=.tmp 34) k_ hi hk ha hb h63),.sum 41 k 1 (k+1) rfl o_]
theorem aIs{i:Nat}(hi:i<n)(ha:a<base^n)(hb:b<base^m)(h63:n+m+1<35184372088832):
  ag prog Bs 45 (.block 2 (af f217 2)) (G9 n m a b i 0) (CN n m a b i 0) 3 ⟨.normal,G9 n m a b i m,[(1,.view (al (ae base m b))),(2,y7 n m a b (i+1) 0)],3⟩:=by
 have:=cd (P:=prog) (B:=Bs) (N:=45) (b:=aF (af f217 2)) (r:=⟨.exit 2,G9 n m a b i m,CN n m a b i m,3⟩) m (G9 n m a b i) (CN n m a b i)
  (λk j _=>j0 (l:=CN n m a b i k) (m:=CN n m a b i 0) rfl j) (λk hk=>aIr hi hk ha hb h63) (aC [.lt 30 m m false s_]) n_
 have:=bT (id:=2) this;unfold CN y7 at this;rw[aH5 hb]at this;exact this
def Ha(n m i:Nat):aR:=[(22,vI i),(21,vI n),(20,sl 0 n),(1,sl 1 m),(5,sl 2 (n+m+1)),(6,SN (n+m+1))]
def CO(n m a b i:Nat):aH:=[(0,.view (al (ae base n a))),(1,.view (al (ae base m b))),(2,y7 n m a b i 0)]
theorem aIt{i:Nat}(hi:i<n)(ha:a<base^n)(hb:b<base^m)(h63:n+m+1<35184372088832):
  ag prog Bs 45 (aF (af f217 0)) (Ha n m i) (CO n m a b i) 3 ⟨.normal,Ha n m (i+1),CO n m a b (i+1),3⟩:=
 aC [.lt 23 i n true (by simp[hi]),.ix f217 25 0 n i hi k_,.ld f217 26 176 0 i (.view (al (ae base n a))) (aW (a/base^i%base)) rfl (by rw[fP];exact kS (eB hi)) k_,.code 2 _ _ _ _ _ (aIs hi ha hb h63),.sum 42 i 1 (i+1) rfl o_]
theorem aIu(ha:a<base^n)(hb:b<base^m)(h63:n+m+1<35184372088832):
  ag prog Bs 45 (.block 0 (af f217 0)) (Ha n m 0) (CO n m a b 0) 3 ⟨.normal,Ha n m n,CO n m a b n,3⟩:=
 bT (cd (b:=aF (af f217 0)) (r:=⟨.exit 0,Ha n m n,CO n m a b n,3⟩) n (Ha n m) (CO n m a b)
  (λi k _=>j0 (l:=CO n m a b i) (m:=CO n m a b 0) rfl k) (λi hi=>aIt hi ha hb h63) (aC [.lt 23 n n false s_]) n_)
end
theorem SO(B n:Nat):ae B n 0=List.replicate n 0:=by apply xa<;>simp[ae]
theorem aIv{w:World}{va vb:Value}{a b:Nat}(gn:iL w va a)(lp:iL w vb b)(h63:nd base a+nd base b+1<35184372088832):
  Calls prog 217 #[va,vb] w λe w'=>∃ v,e=.returned v/\jO w w' v (a*b)/\Below w.heap.size w w':=by
 have ha:=dU (B:=base) d_ a;have hb:=dU (B:=base) d_ b;have hl:∀ s∈[cE.row va (nd base a) (al (ae base (nd base a) a)),cE.row vb (nd base b) (al (ae base (nd base b) b))],s.OK w:=by
  intro s hs;simp at hs;rcases hs with rfl|rfl
  ·exact⟨gn,fF _⟩
  ·exact⟨lp,fF _⟩
 unfold iL at gn lp;generalize nd base a=n at *;generalize nd base b=m at *;have hs:=Zw (B:=base) d_ ha hb;have aY:part base a b n 0=a*b:=by rw[CH,dK ha]
 refine lO (Q:=λe w'=>∃ v,e=.returned v/\jO w w' v (a*b)/\Below w.heap.size w w') mixed func217 [cE.row va n (al (ae base n a)),cE.row vb m (al (ae base m b))] hl 100 (N:=45) k_
  (rs:=[(aX.sum 15 n m (n+m) rfl o_:aX prog (aa.at w) 45),.sum 16 (n+m) 1 (n+m+1) rfl o_,.qd f217 17 2 (n+m+1) 176 4 (aW 0) (y7 n m a b 0 0).cells (by show _=al (ae base (n+m+1) (part base a b 0 0));rw[CH,r7,tB,lN,SO,EZ]) rfl rfl o_ (by simp[maxLen];omega) k_,.code 0 _ _ _ _ _ (aIu (n:=n) (m:=m) ha hb h63),.trim f217 44 2 (n+m+1) (a*b) (y7 n m a b n 0) rfl (by rw[<-aY];rfl) hs o_ (y:=.func 175) k_])
  (v:=.slice (some ⟨2,0,some 7⟩) (nd base (a*b)) 0) (ms:=[(2,y7 n m a b n 0)]) k_ λaw bZ v' w' hc bj dE _=>⟨v',rfl,?_,bj.base⟩
 have hk:=dE _ (aU ..);unfold y7 at hk;rw[aY]at hk;exact xf bj hk hs hc
section
variable{P:Program}{B:aa}{N:Nat}
def Hb(o:Oper):Option BinOp:=match o.op with|.binOp b _ _ _ _=>some b|_=>none
theorem Nv{o:Oper}{b:BinOp}(ho:Hb o=some b)(hb:b≠.eql/\b≠.neq){x y v:Value}(hx:flat x=true)(hy:flat y=true)(hv:flat v=true)(h:∀ t w,(binOp b t x y).run P w=.ok v w):
  cD P B o [x,y] [] v []:=by
 unfold Hb at ho;split at ho
 ·rename_i b' t p q t2 bW;injection ho with ho;subst ho;refine(Cq (λu hu=>by simp at hu;rcases hu with rfl|rfl<;>assumption) hv λρ fV w _=>?_).step;rw[bW]at fV;simp[Op.operands]at fV;have hg:(eqGuard b' t p q (ρ p) (ρ q)).run P w=.ok () w:=by unfold eqGuard;cases b'<;>first|rfl|exact absurd rfl hb.1|exact absurd rfl hb.2
  simp only[execOp,bW,fV.1,fV.2];rw[fV.1,fV.2]at hg;simp[hg,h]
 ·cases ho
def aX.shl(fn:Func)(key:Nat)(k:IntKind)(x r:Int)(n:Nat)(hr:k.wrap (x*2^(min n k.bits))=r)(ho:Hb (av fn key)=some .shl):aX P B N:=
 .step key (av fn key) [.int k x,vI n] [] (.int k r) [] (Nv ho ⟨λe=>(by cases e),λe=>(by cases e)⟩ rfl rfl rfl λt w=>by
  have h0:¬((n:Int)<0):=by omega
  simp[binOp,Op.shift,vI,h0,hr])
def aX.shr(fn:Func)(key:Nat)(k:IntKind)(x r:Int)(n:Nat)(hr:x.fdiv (2^(min n k.bits))=r)(ho:Hb (av fn key)=some .shr):aX P B N:=
 .step key (av fn key) [.int k x,vI n] [] (.int k r) [] (Nv ho ⟨λe=>(by cases e),λe=>(by cases e)⟩ rfl rfl rfl λt w=>by
  have h0:¬((n:Int)<0):=by omega
  simp[binOp,Op.shift,vI,h0,hr])
def aX.qh(fn:Func)(key:Nat)(k:IntKind)(x y r:Int)(hy:y≠0)(hr:k.wrap (x.tdiv y)=r)(ho:Hb (av fn key)=some .quo):aX P B N:=
 .step key (av fn key) [.int k x,.int k y] [] (.int k r) [] (Nv ho ⟨λe=>(by cases e),λe=>(by cases e)⟩ rfl rfl rfl λt w=>by simp[binOp,Op.intDiv,hy,hr])
def aX.xh(fn:Func)(key:Nat)(k:IntKind)(x y r:Int)(hy:y≠0)(hr:x.tmod y=r)(ho:Hb (av fn key)=some .rem):aX P B N:=
 .step key (av fn key) [.int k x,.int k y] [] (.int k r) [] (Nv ho ⟨λe=>(by cases e),λe=>(by cases e)⟩ rfl rfl rfl λt w=>by simp[binOp,Op.intDiv,hy,hr])
def Hc(P:Program)(o:Oper):Bool:=match o.op with
 |.index t _ _=>match P.underlying t with|some .string=>true|_=>false
 |_=>false
theorem aIw{o:Oper}(ho:Hc P o=true){s:ByteArray}{i:Nat}{c:UInt8}(hc:s[i]?=some c):cD P B o [.string s,vI i] [] (.int .u8 (c.toNat:Int)) []:=by
 unfold Hc at ho;split at ho
 ·rename_i t p q bW;split at ho
  ·rename_i ht;refine(Cq (λu hu=>by simp at hu;rcases hu with rfl|rfl<;>rfl) rfl λρ fV w _=>?_).step;rw[bW]at fV;simp[Op.operands]at fV;have h0:(0:Int)<=(i:Int):=by omega
   simp[execOp,bW,fV.1,fV.2,Instr.index,vI,asIntOf,iS ht,h0,hc]
  ·cases ho
 ·cases ho
def aX.sx(fn:Func)(key:Nat)(s:ByteArray)(i:Nat)(c:UInt8)(hc:s[i]?=some c)(ho:Hc P (av fn key)=true):aX P B N:=
 .step key (av fn key) [.string s,vI i] [] (.int .u8 (c.toNat:Int)) [] (aIw ho hc)
def SP(P:Program)(o:Oper):Bool:=match o.op with
 |.slice t _ (some _) none none=>match P.underlying t with|some .string=>true|_=>false
 |_=>false
theorem aIx{o:Oper}(ho:SP P o=true){s:ByteArray}{i:Nat}(hi:i<=s.size):cD P B o [.string s,vI i] [] (.string (s.extract i s.size)) []:=by
 unfold SP at ho;split at ho
 ·rename_i t p q bW;split at ho
  ·rename_i ht;refine(Cq (λu hu=>by simp at hu;rcases hu with rfl|rfl<;>rfl) rfl λρ fV w _=>?_).step;rw[bW]at fV;simp[Op.operands]at fV;have h0:(0:Int)<=(i:Int):=by omega
   have h1:(i:Int)<=(s.size:Int):=by omega
   simp[execOp,bW,fV.1,fV.2,Instr.sliceAt,Instr.slice,Instr.sliceBounds,Instr.sliceBound,vI,asIntOf,iS ht,h0,hi]
  ·cases ho
 ·cases ho
def aX.sf(fn:Func)(key:Nat)(s:ByteArray)(i:Nat)(hi:i<=s.size)(ho:SP P (av fn key)=true):aX P B N:=
 .step key (av fn key) [.string s,vI i] [] (.string (s.extract i s.size)) [] (aIx ho hi)
end
def fY(l:List UInt8):Nat:=l.foldl (λa c=>a*256+c.toNat) 0
theorem SQ:∀(l:List UInt8) (a:Nat),l.foldl (λa c=>a*256+c.toNat) a=a*256^l.length+fY l
 |[],a=>by simp[fY]
 |c::l,a=>by have e:fY (c::l)=(0*256+c.toNat)*256^l.length+fY l:=SQ l (0*256+c.toNat);rw[vA,SQ l,e,oM,dy,fE,lN,kh,fO,cS 256];omega
theorem J4(c:UInt8)(l:List UInt8):fY (c::l)=c.toNat*256^l.length+fY l:=by have:=SQ l (0*256+c.toNat);have e:fY (c::l)=List.foldl (λa c=>a*256+c.toNat) (0*256+c.toNat) l:=rfl;rw[e,this,lN,kh]
theorem Bc:∀(l:List UInt8),fY l<256^l.length
 |[]=>by simp[fY]
 |c::l=>by
  have h1:=Bc l;have h2:c.toNat<256:=c.toNat_lt;rw[J4,oM,dy];have:c.toNat*256^l.length+256^l.length<=256^l.length*256:=by rw[<-yS,cS];exact jz _ o_
  omega
theorem ZK:∀(l:List UInt8) (i:Nat),i<l.length->∃ c,l[l.length-1-i]?=some c/\c.toNat=fY l/256^i%256
 |[],i,h=>by simp at h
 |c::l,i,h=>by
  rw[oM]at h;rw[J4];rcases eL i l.length with hi|hi
  ·obtain⟨d,h1,h2⟩:=ZK l i hi;refine⟨d,?_,?_⟩
   ·rw[oM,show l.length+1-1-i=(l.length-1-i)+1 by omega,List.getElem?_cons_succ];exact h1
   ·rw[h2];have e:256^l.length=256^i*(256*256^(l.length-i-1)):=by rw[<-Nat.pow_succ',<-eD];congr 1;omega
    rw[e,show c.toNat*(256^i*(256*256^(l.length-i-1)))=256^i*(256*(c.toNat*256^(l.length-i-1)))by rw[mX,mX c.toNat],mW,JW _ _ (cK d_),EY]
  ·have e:i=l.length:=by omega
   subst e;refine⟨c,by simp,?_⟩;have h1:=Bc l;have h2:c.toNat<256:=c.toNat_lt;rw[cS,mW,JW _ _ (cK d_),mA h1,kh,dK h2]
def kD(s:ByteArray):Nat:=fY s.data.toList
theorem ZL(s:ByteArray)(i:Nat):s[i]?=s.data.toList[i]?:=by
 by_cases h:i<s.size
 ·rw[getElem?_pos s i h,bd (by simpa using h)];rfl
 ·rw[getElem?_neg s i h,wP (by simpa using h)]
theorem ZM(s:ByteArray):kD s<256^s.size:=Bc _
theorem SR(s:ByteArray){i:Nat}(h:i<s.size):∃ c,s[s.size-1-i]?=some c/\c.toNat=kD s/256^i%256:=by rw[ZL];exact ZK s.data.toList i (by simpa using h)
theorem aIy{a i:Nat}:(a%256^i/4294967296^(i/4)%4294967296)||| (a/256^i%256*2^(8*(i%4)))=a%256^(i+1)/4294967296^(i/4)%4294967296:=by
 have hB:(4294967296:Nat)=256^4:=by decide
 have e1:(4294967296:Nat)^(i/4)=256^(4*(i/4)):=by rw[hB,<-r8]
 have e2:(2:Nat)^(8*(i%4))=256^(i%4):=by rw[r8]
 have e3:256^i=256^(4*(i/4))*256^(i%4):=by rw[<-eD];congr 1;omega
 have hq:0<256^(4*(i/4)):=cK d_;have hr:256^(i%4)*256<=4294967296:=by rw[hB,<-dy];exact c9 d_ o_
 rw[e1,e2];have m1:a%256^i/256^(4*(i/4))=a/256^(4*(i/4))%256^(i%4):=by rw[e3,Bd]
 have m2:a%256^(i+1)/256^(4*(i/4))=a/256^(4*(i/4))%(256^(i%4)*256):=by rw[dy,e3,fO,Bd]
 have m3:a/256^i%256=a/256^(4*(i/4))/256^(i%4)%256:=by rw[e3,kQ]
 rw[m1,m2,m3];generalize a/256^(4*(i/4))=c;have hp:0<256^(i%4):=cK d_;have h1:=cL c hp;have h2:c/256^(i%4)%256<256:=cL _ d_;have h3:c%(256^(i%4)*256)=c%256^(i%4)+256^(i%4)*(c/256^(i%4)%256):=Ng;have h4:c%(256^(i%4)*256)<256^(i%4)*256:=cL _ o_;rw[dK (show c%256^(i%4)<4294967296 by omega),dK (show c%(256^(i%4)*256)<4294967296 by omega),h3];have e4:(256:Nat)^(i%4)=2^(8*(i%4)):=by rw[r8]
 rw[e4]at h1 ⊢;rw[Nat.or_comm,cS,<-Nw h1,mW]
theorem aIz{a i j:Nat}(h:j≠i/4):a%256^i/4294967296^j%4294967296=a%256^(i+1)/4294967296^j%4294967296:=by
 have hB:(4294967296:Nat)=256^4:=by decide
 have e1:(4294967296:Nat)^j=256^(4*j):=by rw[hB,<-r8]
 rw[e1];rcases EG h with h1|h1
 ·-- lower digits
  have k:∀ i,4*j+4<=i->a%256^i/256^(4*j)%4294967296=a/256^(4*j)%4294967296:=by
   intro i hi;have e3:256^i=256^(4*j)*(4294967296*256^(i-4*j-4)):=by rw[hB,<-eD,<-eD];congr 1;omega
   rw[e3,Bd,J5]
  rw[k i o_,k (i+1) o_]
 ·have hp:∀ i,i<=4*j->a%256^i/256^(4*j)=0:=by intro i hi;exact mA (cC (cL _ (cK d_)) (c9 d_ hi))
  rw[hp i o_,hp (i+1) o_]
theorem aIA{a i n:Nat}(hi:i/4<n):(ae 4294967296 n (a%256^i)).set (i/4) (a%256^(i+1)/4294967296^(i/4)%4294967296)=ae 4294967296 n (a%256^(i+1)):=by
 apply xa
 ·simp[ae]
 ·intro j h1 h2;simp only[ae,eO,xb]at h2;rw[G3];simp only[ae,CE,CF];by_cases hj:i/4=j
  ·rw[ax hj,hj]
  ·rw[au hj];exact aIz (mP hj)
def BA(l:List UInt8):ByteArray:=⟨l.toArray⟩
theorem oT(l:List UInt8):(BA l).size=l.length:=rfl
theorem J6(l:List UInt8)(i:Nat):(BA l)[i]?=l[i]?:=by rw[ZL];rfl
theorem aIB(l:List UInt8)(i:Nat):(BA l).extract i (BA l).size=BA (l.drop i):=by apply ByteArray.ext;rw[ByteArray.data_extract];show(l.toArray).extract i l.length=(l.drop i).toArray;apply GQ;simp[kB]
def jP:List UInt8->Nat
 |[]=>0
 |c::l=>if c=0 then jP l+1 else 0
theorem ZN:∀ l:List UInt8,jP l<=l.length
 |[]=>bt _
 |c::l=>by unfold jP;have:=ZN l;split<;>simp<;>omega
theorem ZO:∀(l:List UInt8) (i:Nat),i<jP l->l[i]?=some 0
 |[],i,h=>by simp[jP]at h
 |c::l,i,h=>by
  unfold jP at h;split at h
  ·rename_i hc;cases i with
   |zero=>rw[hc];rfl
   |succ i=>exact ZO l i o_
  ·omega
theorem ZP:∀(l:List UInt8),jP l<l.length->∃ c,l[jP l]?=some c/\c≠0
 |[],h=>by simp at h
 |c::l,h=>by
  unfold jP at h ⊢;split at h
  ·rename_i hc;rw[ax hc];obtain⟨d,h1,h2⟩:=ZP l (by simpa using h);exact⟨d,h1,h2⟩
  ·rename_i hc;rw[au hc];exact⟨c,rfl,hc⟩
def J7(l:List UInt8):List UInt8:=l.drop (jP l)
theorem aIC{x n:Nat}(hn:n<=32)(h:x*2^n<base):IntKind.u32.wrap ((x:Int)*2^(min n IntKind.u32.bits))=((x*2^n:Nat):Int):=by
 have e:(x:Int)*2^n=((x*2^n:Nat):Int):=by simp
 rw[show min n IntKind.u32.bits=n from oq hn,nP,e];unfold base at h;omega
section
variable{Bs:aa}{n N a:Nat}{s:ByteArray}
def Hd(s:ByteArray)(n N i:Nat):aR:=[(13,vI i),(12,vI n),(0,.string s),(3,sl 0 N)]
def CP(N a i:Nat):aH:=[(0,.row (al (ae base N (a%256^i))) 176 1)]
theorem aID{i:Nat}(hn:n=s.size)(hN:N=(n+3)/4)(ha:a=kD s)(hi:i<n)(h63:n<35184372088832):
  ag prog Bs 39 (aF (af f172 0)) (Hd s n N i) (CP N a i) 1 ⟨.normal,Hd s n N (i+1),CP N a (i+1),1⟩:=by
 obtain⟨c,gA,dp⟩:=SR s (show i<s.size by omega);rw[<-hn]at gA;rw[<-ha]at dp;have xi:i/4<N:=by omega
 have hb:=aIy (a:=a) (i:=i);have h1:a%256^i/base^(i/4)%base<base:=hZ d_ _ _;have h2:c.toNat*2^(8*(i%4))<base:=by have:c.toNat<256:=c.toNat_lt;have h3:2^(8*(i%4))<=2^24:=c9 d_ o_;have:=y8 (show c.toNat<=255 by omega) h3;unfold base;omega
 have bM:e6 prog 176 (al (ae base N (a%256^i))) (i/4) (aW (a%256^(i+1)/base^(i/4)%base))=some (al (ae base N (a%256^(i+1)))):=by rw[yV _ _ _ (by simp[al,oR];exact xi),yW,aIA xi]
 have ll:((a%256^i/base^(i/4)%base||| c.toNat*2^(8*(i%4)):Nat):Int)=((a%256^(i+1)/base^(i/4)%base:Nat):Int):=by rw[dp];exact cM _ hb
 have hlen:(s.size:Int)=((n:Nat):Int):=by rw[hn]
 exact aC [.lt 14 i n true (by simp[hi]),.rw 17 (.int .i64 (s.size:Int)) (vI n) (by rw[hlen];rfl),.e7 18 n 1 (n-1) o_ o_,.e7 20 (n-1) i (n-1-i) o_ o_,.wr 23 .i64 (Int.tdiv (i:Int) 4) ((i/4:Nat):Int) (by rw[db,y9 o_];omega),.ix f172 24 0 N (i/4) xi k_,.ld f172 25 176 0 (i/4) (.row (al (ae base N (a%256^i))) 176 1) (aW (a%256^i/base^(i/4)%base)) rfl (by rw[fP];exact kS (eB xi)) k_,.sx f172 28 s (n-1-i) c gA k_,.wr 29 .u32 (c.toNat:Int) (c.toNat:Int) (by rw[nP];have:=c.toNat_lt;omega),.quo 31 .i64 (Int.tmod (i:Int) 4) ((i%4:Nat):Int) (by rw[zf o_];omega),.wr 32 .i64 (8*((i%4:Nat):Int)) ((8*(i%4):Nat):Int) (by rw[db];omega),.shl f172 33 .u32 (c.toNat:Int) ((c.toNat*2^(8*(i%4)):Nat):Int) (8*(i%4)) (aIC o_ h2) k_,.quo 34 .u32 _ _ ((SI h1 h2).trans ll),.ix f172 35 0 N (i/4) xi k_,.st f172 100035 176 0 (i/4) (.row (al (ae base N (a%256^i))) 176 1) (aW (a%256^(i+1)/base^(i/4)%base)) (.row (al (ae base N (a%256^(i+1)))) 176 1) rfl bM rfl k_,.sum 36 i 1 (i+1) rfl o_]
theorem aIE(hn:n=s.size)(hN:N=(n+3)/4)(ha:a=kD s)(h63:n<35184372088832):
  ag prog Bs 39 (.block 0 (af f172 0)) (Hd s n N 0) (CP N a 0) 1 ⟨.normal,Hd s n N n,CP N a n,1⟩:=
 bT (cd (b:=aF (af f172 0)) (r:=⟨.exit 0,Hd s n N n,CP N a n,1⟩) n (Hd s n N) (CP N a)
  (λi k _=>j0 (l:=CP N a i) (m:=CP N a 0) rfl k) (λi hi=>aID hn hN ha hi h63) (aC [.lt 14 n n false s_]) n_)
end
theorem aIF{w:World}{s:ByteArray}(h63:s.size<35184372088832):
  Calls prog 172 #[.string s] w λe w'=>∃ v,e=.returned v/\jO w w' v (kD s)/\Below w.heap.size w w':=by
 have ak:=ZM s;have hs:kD s<base^((s.size+3)/4):=by
  have:(base:Nat)=256^4:=by decide
  rw[this,<-r8];exact cC ak (c9 d_ o_)
 have aY:kD s%256^s.size=kD s:=dK ak
 refine lO (Q:=λe w'=>∃ v,e=.returned v/\jO w w' v (kD s)/\Below w.heap.size w w') mixed func172 [cE.plain (.string s)] (λx hx=>by simp at hx;subst hx;rfl) 100 (N:=39) k_
  (rs:=[(aX.sum 8 s.size 3 (s.size+3) rfl o_:aX prog (aa.at w) 39),.wr 9 .i64 (Int.tdiv ((s.size+3:Nat):Int) 4) (((s.size+3)/4:Nat):Int) (by rw[db,y9 o_];omega),.qd f172 10 0 ((s.size+3)/4) 176 4 (aW 0) (al (ae base ((s.size+3)/4) (kD s%256^0))) (by rw[r7,tB,SO,EZ]) rfl rfl o_ (by simp[maxLen];omega) k_,.code 0 _ _ _ _ _ (aIE (n:=s.size) (N:=(s.size+3)/4) (a:=kD s) rfl rfl rfl h63),.trim f172 38 0 ((s.size+3)/4) (kD s) (.row (al (ae base ((s.size+3)/4) (kD s%256^s.size))) 176 1) rfl (by rw[aY];rfl) hs o_ (y:=.func 175) k_])
  (v:=.slice (some ⟨0,0,some 7⟩) (nd base (kD s)) 0) (ms:=[(0,.row (al (ae base ((s.size+3)/4) (kD s%256^s.size))) 176 1)]) k_ λaw bZ v' w' hc bj dE _=>⟨v',rfl,?_,bj.base⟩
 have hk:=dE _ (aU ..);rw[aY]at hk;exact xf bj hk hs hc
section
variable{Bs:aa}{l:List UInt8}
def CQ(l:List UInt8)(i:Nat):aR:=[(0,.string (BA (l.drop i))),(1,.int .u8 0)]
theorem SS{i:Nat}:(((BA (l.drop i)).size:Nat):Int)=((l.length-i:Nat):Int):=by rw[oT,vt]
theorem aIG{i:Nat}(hi:i<jP l):ag prog Bs 17 (aF (af f223 0)) (CQ l i) [] 0 ⟨.normal,CQ l (i+1),[],0⟩:=by
 have hz:=ZO l i hi;have hle:=ZN l;have e:(BA (l.drop i)).extract 1 (BA (l.drop i)).size=BA (l.drop (i+1)):=by rw[aIB,Nx]
 have h1:1<=(BA (l.drop i)).size:=by rw[oT,vt];omega
 exact aC [.rw 6 (.int .i64 (((BA (l.drop i)).size:Nat):Int)) (vI (l.length-i)) (by rw[SS];rfl),.gt 7 (l.length-i) 0 true (by simp;omega),.sx f223 10 (BA (l.drop i)) 0 0 (by rw[J6,Et];exact hz) k_,.sf f223 15 (BA (l.drop i)) 1 h1 k_,.rw 0 (.string ((BA (l.drop i)).extract 1 (BA (l.drop i)).size)) (.string (BA (l.drop (i+1)))) (by rw[e])]
theorem aIH:ag prog Bs 17 (aF (af f223 0)) (CQ l (jP l)) [] 0 ⟨.exit 0,CQ l (jP l),[],0⟩:=by
 by_cases h:jP l<l.length
 ·obtain⟨c,h1,h2⟩:=ZP l h;have h3:c.toNat≠0:=λe=>h2 (Ny.1 (by rw[e];rfl));exact aC [.rw 6 (.int .i64 (((BA (l.drop (jP l))).size:Nat):Int)) (vI (l.length-jP l)) (by rw[SS];rfl),.gt 7 (l.length-jP l) 0 true (by simp;omega),.sx f223 10 (BA (l.drop (jP l))) 0 c (by rw[J6,Et];exact h1) k_,.fv 12 c.toNat 0 false (by simp[h3])]
 ·exact aC [.rw 6 (.int .i64 (((BA (l.drop (jP l))).size:Nat):Int)) (vI (l.length-jP l)) (by rw[SS];rfl),.gt 7 (l.length-jP l) 0 false (by simp;omega)]
theorem aII:ag prog Bs 17 (.block 0 (af f223 0)) (CQ l 0) [] 0 ⟨.normal,CQ l (jP l),[],0⟩:=
 bT (cd (b:=aF (af f223 0)) (r:=⟨.exit 0,CQ l (jP l),[],0⟩) (jP l) (CQ l) (λ_=>[]) (λi k _=>Iff.rfl) (λi hi=>aIG hi) aIH n_)
end
theorem aIJ(l:List UInt8):aE prog 223 [.string (BA l),.int .u8 0] (.string (BA (J7 l))):=
 aM func223 (λ_=>[.code 0 _ _ _ _ _ (aII (l:=l))])
theorem ZQ(l:List UInt8):(BA l).toList=l:=by rw[ByteArray.toList_eq];rfl
theorem E2(l:List UInt8):((BA l).toList==(ByteArray.mk #[]).toList)=decide (l=[]):=by rw[ZQ,show(ByteArray.mk #[]).toList=[]from ZQ []];cases l<;>rfl
theorem aIK(l:List UInt8):aE prog 206 [.string (BA l),.string ⟨#[0]⟩] (.string (BA (J7 l))):=by
 by_cases h:l=[]
 ·subst h;exact aM func206 (λ_=>[.rw 8 (.bool ((BA []).toList==(ByteArray.mk #[]).toList)) (.bool true) (by rw[E2];rfl)])
 ·exact aM func206 (λ_=>[.rw 8 (.bool ((BA l).toList==(ByteArray.mk #[]).toList)) (.bool false) (by rw[E2,aJ h]),(aIJ l).at 25])
theorem SV{x y:Nat}(hx:x<18446744073709551616)(hy:y<18446744073709551616):IntKind.u64.wrap (((BitVec.ofInt IntKind.u64.bits (x:Int))||| (BitVec.ofInt IntKind.u64.bits (y:Int))).toNat:Int)=((x||| y:Nat):Int):=by
 show IntKind.u64.wrap (((BitVec.ofInt 64 (x:Int))||| (BitVec.ofInt 64 (y:Int))).toNat:Int)=_;have e:∀ x:Nat,(BitVec.ofInt 64 (x:Int))=BitVec.ofNat 64 x:=λx=>by simp
 have t:∀ x:Nat,x<18446744073709551616->(BitVec.ofNat 64 x).toNat=x:=λx h=>by rw[BitVec.toNat_ofNat];exact dK h
 rw[e,e,BitVec.toNat_or,t x hx,t y hy,j5];have:x||| y<18446744073709551616:=ZC (n:=64) hx hy
 omega
theorem aIL{hi lo y:Nat}(hh:hi<y)(hl:lo<base)(hy:y<base):
  aE prog 220 [aW hi,aW lo,aW y] (.tuple #[aW ((hi*base+lo)/y),aW ((hi*base+lo)%y)]):=by
 have ll:hi*base||| lo=hi*base+lo:=by have:=Nw (i:=32) hl hi;rw[cS];exact this.symm
 have hs:hi*base+lo<18446744073709551616:=by clear ll;unfold base at *;omega
 have hq:(hi*base+lo)/y<base:=by rw[iK o_];have:=fo base (show hi+1<=y by omega);rw[cS base y];clear ll;unfold base at *;omega
 have hr:(hi*base+lo)%y<base:=mC (cL _ o_) hy;have xe:(y:Int)≠0:=by omega
 have h64:base=4294967296:=rfl;have hA:hi*base<18446744073709551616:=e8 (J8 _ _) hs;have He:IntKind.u64.wrap ((hi:Int)*2^32)=((hi*base:Nat):Int):=by
  have e:(hi:Int)*2^32=((hi*base:Nat):Int):=by rw[om];rfl
  rw[e,j5];generalize hi*base=H at hA ⊢;omega
 have hB:lo<18446744073709551616:=mC hl d_;have key:∀ H:Nat,H=hi*base->IntKind.u64.wrap (((BitVec.ofInt IntKind.u64.bits (H:Int))||| (BitVec.ofInt IntKind.u64.bits (lo:Int))).toNat:Int)=((hi*base+lo:Nat):Int):=by intro H hH;rw[SV (by rw[hH];exact hA) hB,hH,ll]
 obtain⟨H,hH⟩:∃ H,H=hi*base:=⟨_,rfl⟩;have h22:=key H hH;rw[<-hH]at He;generalize hi*base+lo=S at *;have u64:∀{z:Nat},z<base->IntKind.u64.wrap (z:Int)=z:=λ{z} h=>by rw[j5];unfold base at h;omega
 have u32:∀{z:Nat},z<base->IntKind.u32.wrap (z:Int)=z:=λ{z} h=>by rw[nP];unfold base at h;omega
 have nL:IntKind.u64.wrap (Int.tdiv (S:Int) y)=((S/y:Nat):Int):=by rw[y9 o_,<-tC];exact u64 hq
 have nQ:Int.tmod (S:Int) y=((S%y:Nat):Int):=by rw[zf o_];rfl
 exact aM func220 (λ_=>[
  .rw 10 (.bool ((y:Int)!=0)) (.bool true) (by congr 1;rw[uG];exact xe),
  .rw 14 (.bool (decide ((y:Int)<=(hi:Int)))) (.bool false) (by congr 1;rw[ZR];omega),
  .wr 18 .u64 hi hi (u64 o_),.wr 19 .u64 ((hi:Int)*2^32) (H:Int) He,.wr 21 .u64 lo lo (u64 hl),
  .quo 22 .u64 _ (S:Int) h22,.wr 25 .u64 y y (u64 hy),
  .qh f220 26 .u64 (S:Int) y ((S/y:Nat):Int) xe nL k_,.wr 27 .u32 ((S/y:Nat):Int) ((S/y:Nat):Int) (u32 hq),
  .wr 30 .u64 y y (u64 hy),
  .xh f220 31 .u64 (S:Int) y ((S%y:Nat):Int) xe nQ k_,.wr 32 .u32 ((S%y:Nat):Int) ((S%y:Nat):Int) (u32 hr)])
def dq(i:Nat):Value:=.int .i64 ((i:Int)-1)
theorem dY(j:Nat):dq (j+1)=vI j:=by
 unfold dq vI;have e:((j+1:Nat):Int)-1=(j:Int):=by omega
 rw[e]
theorem oU{j:Nat}(h:j<9223372036854775807):IntKind.i64.wrap ((j:Int)-1)=(j:Int)-1:=by rw[db];omega
section
variable{Bs:aa}{n a d:Nat}
def sj(n a d i:Nat):aR:=[(8,dq i),(6,sl 1 n),(7,aW (a/base^i%d)),(0,sl 0 n),(1,aW d)]
def CS(n a d i:Nat):aH:=[(0,.view (al (ae base n a))),(1,.row (al (gG base n i (a/d))) 176 1)]
theorem Nz{j:Nat}(hj:j<n)(hd:0<d)(mY:d<base)(h63:n<35184372088832):
  ag prog Bs 35 (aF (af f202 0)) (sj n a d (j+1)) (CS n a d (j+1)) 2 ⟨.normal,sj n a d j,CS n a d j,2⟩:=by
 have bM:e6 prog 176 (al (gG base n (j+1) (a/d))) j (aW (a/d/base^j%base))=some (al (gG base n j (a/d))):=by rw[yV _ _ _ (by simp[al,Nl];exact hj),yW,Np hj rfl]
 have hdiv:=aIL (hi:=a/base^(j+1)%d) (lo:=a/base^j%base) (y:=d) (cL _ hd) (hZ d_ _ _) mY;obtain⟨q1,q2⟩:=Zx (B:=base) d_ hd (je mY) a j;rw[q1,q2]at hdiv;exact aC [.rw 15 (dq (j+1)) (vI j) (dY j),.ge 16 j 0 true s_,.rw 21 (dq (j+1)) (vI j) (dY j),.rw 24 (dq (j+1)) (vI j) (dY j),.ix f202 25 0 n j hj k_,.ld f202 26 176 0 j (.view (al (ae base n a))) (aW (a/base^j%base)) rfl (by rw[fP];exact kS (eB hj)) k_,hdiv.at 28,.ix f202 31 1 n j hj k_,.st f202 100031 176 1 j (.row (al (gG base n (j+1) (a/d))) 176 1) (aW (a/d/base^j%base)) (.row (al (gG base n j (a/d))) 176 1) rfl bM rfl k_,.rw 17 (dq (j+1)) (vI j) (dY j),.wr 18 .i64 ((j:Int)-1) ((j:Int)-1) (oU o_)]
theorem aIM(hd:0<d)(mY:d<base)(h63:n<35184372088832):
  ag prog Bs 35 (.block 0 (af f202 0)) (sj n a d n) (CS n a d n) 2 ⟨.normal,sj n a d 0,CS n a d 0,2⟩:=by
 have:=cd (P:=prog) (B:=Bs) (N:=35) (b:=aF (af f202 0)) (next:=2) (r:=⟨.exit 0,sj n a d 0,CS n a d 0,2⟩) n (λi=>sj n a d (n-i)) (λi=>CS n a d (n-i))
  (λi k _=>j0 (l:=CS n a d (n-i)) (m:=CS n a d (n-0)) rfl k)
  (λi hi=>by
   have e:n-i=(n-(i+1))+1:=by omega
   simp only[e];exact Nz o_ hd mY h63)
  (by
   have e:n-n=0:=by omega
   simp only[e];exact aC [.rw 16 (.bool (decide (((0:Nat):Int)-1>=0))) (.bool false) rfl]) n_
 exact bT this
end
theorem aIN{w:World}{va:Value}{a d:Nat}(gn:iL w va a)(hd:0<d)(mY:d<base)(h1:nd base a<35184372088832):
  Calls prog 202 #[va,aW d] w λe w'=>∃ v,e=.returned (.tuple #[v,aW (a%d)])/\jO w w' v (a/d)/\Below w.heap.size w w':=by
 have ha:=dU (B:=base) d_ a;have hl:∀ s∈[cE.row va (nd base a) (al (ae base (nd base a) a)),cE.plain (aW d)],s.OK w:=by
  intro s hs;simp at hs;rcases hs with rfl|rfl
  ·exact⟨gn,fF _⟩
  ·rfl
 unfold iL at gn;generalize nd base a=n at *;have hs:a/d<base^n:=e8 (tD _ _) ha;have e0:a/base^n%d=0:=by rw[mA ha];exact Nat.zero_mod _
 have e1:a/base^0%d=a%d:=by simp
 refine lO (Q:=λe w'=>∃ v,e=.returned (.tuple #[v,aW (a%d)])/\jO w w' v (a/d)/\Below w.heap.size w w') mixed func202 [cE.row va n (al (ae base n a)),cE.plain (aW d)] hl 100 (N:=35) k_
  (rs:=[(aX.qd f202 11 1 n 176 4 (aW 0) (al (gG base n n (a/d))) (by rw[Nn,EZ]) rfl rfl o_ (by simp[maxLen];omega) k_:aX prog (aa.at w) 35),.rw 7 (.int .u32 0) (aW (a/base^n%d)) (by rw[e0];rfl),.wr 14 .i64 ((n:Int)-1) ((n:Int)-1) (oU o_),.code 0 _ _ _ _ _ (aIM (n:=n) (a:=a) hd mY h1),.trim f202 33 1 n (a/d) (.row (al (gG base n 0 (a/d))) 176 1) rfl (by rw[<-JY];rfl) hs o_ (y:=.func 175) k_])
  (v:=.tuple #[.slice (some ⟨1,0,some 7⟩) (nd base (a/d)) 0,aW (a/base^0%d)]) (ms:=[(1,.row (al (gG base n 0 (a/d))) 176 1)]) k_ λaw bZ v' w' hc bj dE _=>?_
 obtain⟨vs,he,aY⟩:=hc.um;obtain⟨v1,v2,aP,c1,c2⟩:=jI aY;have hk:=dE _ (aU ..);rw[JY]at hk;refine⟨v1,?_,xf bj hk hs c1,bj.base⟩;rw[he,show vs=#[v1,v2]from vu.1 aP,c2.eY rfl,e1]
def ig(a b:Nat):Int:=if a<b then -1 else if b<a then 1 else 0
section
variable{Bs:aa}{n a b:Nat}
def Be(n i:Nat):aR:=[(5,dq i),(0,sl 0 n),(1,sl 1 n)]
def sk(n a b:Nat):aH:=[(0,.view (al (ae base n a))),(1,.view (al (ae base n b)))]
noncomputable def SX(n a b j:Nat)(hj:j<n)(t1 t2:Bool)(h1:decide (a/base^j%base<b/base^j%base)=t1)(h2:decide (b/base^j%base<a/base^j%base)=t2)(more:bI prog Bs 43):bI prog Bs 43:=
 .rw 19 (dq (j+1)) (vI j) (dY j)::.ge 20 j 0 true s_::.rw 25 (dq (j+1)) (vI j) (dY j)::.ix f201 26 0 n j hj k_::
  .ld f201 27 176 0 j (.view (al (ae base n a))) (aW (a/base^j%base)) rfl (by rw[fP];exact kS (eB hj)) k_::
  .rw 29 (dq (j+1)) (vI j) (dY j)::.ix f201 30 1 n j hj k_::
  .ld f201 31 176 1 j (.view (al (ae base n b))) (aW (b/base^j%base)) rfl (by rw[fP];exact kS (eB hj)) k_::
  .lt 32 (a/base^j%base) (b/base^j%base) t1 h1::(if t1 then[]else
  .rw 35 (dq (j+1)) (vI j) (dY j)::.ix f201 36 0 n j hj k_::
  .ld f201 37 176 0 j (.view (al (ae base n a))) (aW (a/base^j%base)) rfl (by rw[fP];exact kS (eB hj)) k_::
  .rw 39 (dq (j+1)) (vI j) (dY j)::.ix f201 40 1 n j hj k_::
  .ld f201 41 176 1 j (.view (al (ae base n b))) (aW (b/base^j%base)) rfl (by rw[fP];exact kS (eB hj)) k_::
  .gt 42 (a/base^j%base) (b/base^j%base) t2 h2::more)
theorem aIO{j:Nat}(hj:j<n)(he:a/base^j%base=b/base^j%base)(h63:n<35184372088832):
  ag prog Bs 43 (aF (af f201 0)) (Be n (j+1)) (sk n a b) 2 ⟨.normal,Be n j,sk n a b,2⟩:=
 aC (SX n a b j hj false false (by simp[he]) (by simp[he]) [.rw 21 (dq (j+1)) (vI j) (dY j),.wr 22 .i64 ((j:Int)-1) ((j:Int)-1) (oU o_)])
theorem aIP{j:Nat}(hj:j<n)(ak:a/base^j%base<b/base^j%base):
  ag prog Bs 43 (aF (af f201 0)) (Be n (j+1)) (sk n a b) 2 ⟨.ret,[(4,.int .i64 (-1))],sk n a b,2⟩:=
 aC (SX n a b j hj true false (by simp[ak]) (by simp;omega) [])
theorem aIQ{j:Nat}(hj:j<n)(ak:b/base^j%base<a/base^j%base):
  ag prog Bs 43 (aF (af f201 0)) (Be n (j+1)) (sk n a b) 2 ⟨.ret,[(4,.int .i64 1)],sk n a b,2⟩:=
 aC (SX n a b j hj false true (by simp;omega) (by simp[ak]) [])
theorem aIR:ag prog Bs 43 (aF (af f201 0)) (Be n 0) (sk n a b) 2 ⟨.exit 0,[],sk n a b,2⟩:=
 aC [.rw 20 (.bool (decide (((0:Nat):Int)-1>=0))) (.bool false) rfl]
theorem aIS(ha:a<base^n)(hb:b<base^n)(h63:n<35184372088832):
  ag prog Bs 43 (.block 0 (af f201 0)) (Be n n) (sk n a b) 2 (if a=b then⟨.normal,[],sk n a b,2⟩else⟨.ret,[(4,.int .i64 (ig a b))],sk n a b,2⟩):=by
 obtain⟨e,h1,h2,h3⟩:=yT (λt=>¬(t<n/\a/base^(n-1-t)%base=b/base^(n-1-t)%base)) n o_;have xj:=Zy ha hb e h1 λs hs=>(E3.1 (h3 s hs)).2;have go:∀(r:mz),r.ex≠.normal->ag prog Bs 43 (aF (af f201 0)) (Be n (n-e)) (sk n a b) 2 r->ag prog Bs 43 (.loop (aF (af f201 0))) (Be n n) (sk n a b) 2 r:=by
  intro r hr vF
  exact cd (P:=prog) (B:=Bs) (N:=43) (b:=aF (af f201 0)) (next:=2) (r:=r) e (λi=>Be n (n-i)) (λ_=>sk n a b) (λi k _=>Iff.rfl)
   (λi hi=>by
    have q:=E3.1 (h3 i hi);have e1:n-i=(n-(i+1))+1:=by omega
    have e2:n-1-i=n-(i+1):=by omega
    simp only[e1];exact aIO o_ (by rw[<-e2];exact q.2) h63) vF hr
 by_cases CT:e=n
 ·have b9:a=b:=by rw[CT,vG,r7,E4,E4]at xj;exact xj
  rw[ax b9];have:=go ⟨.exit 0,[],sk n a b,2⟩ n_ (by rw[CT,vG];exact aIR);exact bT (id:=0) this
 ·have hj:n-e=(n-1-e)+1:=by omega
  have aV:a/base^(n-1-e)%base≠b/base^(n-1-e)%base:=λh=>h2 ⟨by omega,h⟩;rw[hj]at xj go;have b9:a≠b:=λh=>aV (by rw[h]);rw[au b9];rcases EG aV with ak|tw
  ·have hl:=Nq xj ak;have e1:ig a b=-1:=by unfold ig;rw[ax hl]
   rw[e1];exact bT (id:=0) (go _ n_ (aIP o_ ak))
  ·have hl:=Nq xj.symm tw;have e1:ig a b=1:=by unfold ig;rw[au o_,ax hl]
   rw[e1];exact bT (id:=0) (go _ n_ (aIQ o_ tw))
end
def nR(a b:Nat):Int:=if nd base a=nd base b then ig a b else(nd base a:Int)-nd base b
theorem J9{a b:Nat}:0<=nR a b↔b<=a:=by
 unfold nR;by_cases h:nd base a=nd base b
 ·rw[ax h];unfold ig;by_cases h1:a<b
  ·rw[ax h1];omega
  ·rw[au h1];by_cases h2:b<a
   ·rw[ax h2];omega
   ·rw[au h2];omega
 ·rw[au h];rcases eL a b with h1|h1
  ·have:=iU (B:=base) d_ (je h1);omega
  ·have:=iU (B:=base) d_ h1;omega
theorem NA{w:World}{va vb:Value}{a b:Nat}(gn:iL w va a)(lp:iL w vb b)(h1:nd base a<35184372088832)(h2:nd base b<35184372088832):
  Calls prog 201 #[va,vb] w λe w'=>e=.returned (.int .i64 (nR a b))/\Below w.heap.size w w':=by
 have ha:=dU (B:=base) d_ a;have hb:=dU (B:=base) d_ b;have hl:∀ s∈[cE.row va (nd base a) (al (ae base (nd base a) a)),cE.row vb (nd base b) (al (ae base (nd base b) b))],s.OK w:=by
  intro s hs;simp at hs;rcases hs with rfl|rfl
  ·exact⟨gn,fF _⟩
  ·exact⟨lp,fF _⟩
 unfold iL at gn lp;unfold nR;generalize nd base a=n at *;generalize nd base b=m at *;have fin:∀{aw:Map} {bZ:Nat->Option Obj} {v':Value} {w':World} {z:Int},aG aw (.int .i64 z) v'->aO (aa.at w) aw bZ w'->Ending.returned v'=.returned (.int .i64 z)/\Below w.heap.size w w':=λhc hm=>⟨by rw[hc.eY rfl],hm.base⟩;have aV:∀ t:Bool,decide (n=m)=!t->(Value.bool (((n:Nat):Int)!=((m:Nat):Int)))=.bool t:=by
  intro t h
  congr 1
  by_cases lL:n=m
  ·subst lL;simp at h;subst h;simp
  ·rw[aJ lL]at h;have:t=true:=by cases t<;>simp at h ⊢
   subst this;rw[uG];omega
 by_cases lL:n=m
 ·subst lL;rw[ax rfl];have lo:=aIS (Bs:=aa.at w) ha hb h1;by_cases b9:a=b
  ·rw[ax b9]at lo;have ho:ig a b=0:=by unfold ig;rw[au o_,au o_]
   rw[ho]
   exact lO (Q:=λe w'=>e=.returned (.int .i64 0)/\Below w.heap.size w w') mixed func201 [cE.row va n (al (ae base n a)),cE.row vb n (al (ae base n b))] hl 100 (N:=43) k_
    (rs:=[(aX.rw 10 (.bool (((n:Nat):Int)!=((n:Nat):Int))) (.bool false) (aV false s_):aX prog (aa.at w) 43),.wr 18 .i64 ((n:Int)-1) ((n:Int)-1) (oU o_),.code 0 _ _ _ _ _ lo])
    (v:=.int .i64 0) (ms:=[]) k_ λaw bZ v' w' hc bj _ _=>fin hc bj
  ·rw[au b9]at lo
   exact lO (Q:=λe w'=>e=.returned (.int .i64 (ig a b))/\Below w.heap.size w w') mixed func201 [cE.row va n (al (ae base n a)),cE.row vb n (al (ae base n b))] hl 100 (N:=43) k_
    (rs:=[(aX.rw 10 (.bool (((n:Nat):Int)!=((n:Nat):Int))) (.bool false) (aV false s_):aX prog (aa.at w) 43),.wr 18 .i64 ((n:Int)-1) ((n:Int)-1) (oU o_),.code 0 _ _ _ _ _ lo])
    (v:=.int .i64 (ig a b)) (ms:=[]) k_ λaw bZ v' w' hc bj _ _=>fin hc bj
 ·rw[au lL]
  exact lO (Q:=λe w'=>e=.returned (.int .i64 ((n:Int)-m))/\Below w.heap.size w w') mixed func201 [cE.row va n (al (ae base n a)),cE.row vb m (al (ae base m b))] hl 100 (N:=43) k_
   (rs:=[(aX.rw 10 (.bool (((n:Nat):Int)!=((m:Nat):Int))) (.bool true) (aV true (by simp[lL])):aX prog (aa.at w) 43),.wr 15 .i64 ((n:Int)-(m:Int)) ((n:Int)-m) (by rw[db];omega)])
   (v:=.int .i64 ((n:Int)-m)) (ms:=[]) k_ λaw bZ v' w' hc bj _ _=>fin hc bj
section
variable{P:Program}{B:aa}{N:Nat}
def Bf(P:Program)(o:Oper):Option (Nat×List Nat×TypeId×Nat×Value):=match o.op with
 |.buildSlice t len parts=>match P.underlying t with
  |some (.slice e)=>(match P.info? e with|some i=>(match i.zero with|some z=>some (len,parts.toList.map (·.1),e,i.size,z)|none=>none)|none=>none)
  |_=>none
 |_=>none
def Ka(size len:Nat)(z:Value)(ps:aR):Option (Array Value):=
 Instr.fill (λi=>some (i*size,size)) ((Array.range (len*size)).map (z.cells[·%z.cells.size]!)) ps
theorem NB{ρ:Operand->Value}:∀(l:List (Nat×Operand)) {vs:aj},(l.map (·.2)).map ρ=vs->(l.map λp=>(p.1,ρ p.2))=(l.map (·.1)).zip vs
 |[],vs,h=>by subst h;rfl
 |p::l,vs,h=>by subst h;simp only[qO,List.zip_cons_cons];rw[NB l rfl]
theorem aIT{o:Oper}{len e size:Nat}{idx:List Nat}{z:Value}(ho:Bf P o=some (len,idx,e,size,z)){vs:aj}{cells:Array Value}(cQ:∀ v∈vs,flat v=true)(SY:∀ v∈cells.toList,flat v=true)
  (CU:Ka size len z (idx.zip vs)=some cells) (bw:cells.size=len*size) (zg:0<len*size) (hle:len*size<=16777216) (k:Nat) :
  cD P B o vs [(k,none)] (.slice (some ⟨k,0,some 7⟩) len 0) [(k,.row cells.toList e size)]:=by
 unfold Bf at ho;split at ho
 ·rename_i t lQ parts bW;split at ho
  ·rename_i e' ht;split at ho
   ·rename_i i hi;split at ho
    ·rename_i z' hz;injection ho with ho;injection ho with h1 ho;injection ho with h2 ho;injection ho with h3 ho;injection ho with h4 h5;subst h1;subst h2;subst h3;subst h4;subst h5;refine iy.step λι c ρ w aP hm hn=>?_;have hk:c k=none:=hn _ (aU ..);rw[bW]at aP;have aP:=nJ aP cQ;have bX:List.map (λx=>(x.fst,ρ x.snd)) parts.toList=(parts.toList.map (·.1)).zip vs:=
      NB parts.toList (by simpa[Op.operands]using aP)
     have NC:lQ<=maxLen:=by have:lQ<=lQ*i.size:=E5 _ (Nat.pos_of_mul_pos_left zg);simp[maxLen];omega
     have uu:Map.le ι _:=gN (l:=.at w.heap.size 0 lQ) (hm.du k hk);have lg:=GN (ty:=e') (size:=i.size) (cap:=lQ) (rest:=#[]) hm hk (kx SY:bL (aG ι) cells.toList cells.toList) NC (by simpa using bw);refine⟨_,.slice (some ⟨w.heap.size,0,none⟩) lQ lQ,_,uu,.slc (o:=0) (off:=0) (fK _ _ _) (bt _) o_,lg,.inl ?_⟩;have h0:¬(lQ*i.size=0):=by omega
     have h1:¬(16777216<lQ*i.size):=by omega
     unfold Ka at CU;simp only[execOp,bW];simp[Instr.buildSlice,iS ht,sizeOf,typeInfo,hi,zeroValue,hz,h0,h1,newRow];rw[bX,CU];simp[newObj,Sem.run]
    ·cases ho
   ·cases ho
  ·cases ho
 ·cases ho
def E6(P:Program)(o:Oper):Option (TypeId×Nat×Nat×Nat×Bool):=match o.op with
 |.call c=>match c.callee,c.args.toList,c.argTypes.toList with
  |.builtin .append,[_,_],[t,t']=>if Nat.beq t t' then(match P.underlying t with
   |some (.slice e)=>(match P.info? e with|some i=>(match i.zero with|some z=>some (e,i.size,i.bytes,z.cells.size,true)|none=>none)|none=>none)
   |_=>none)else none
  |_,_,_=>none
 |_=>none
theorem ZS{o:Oper}{e size bytes zs:Nat}(ho:E6 P o=some (e,size,bytes,zs,true)):∃ s x t i z,o.op=.call { callee:=.builtin .append,args:=#[s,x],argTypes:=#[t,t]}/\P.underlying t=some (.slice e)/\P.info? e=some i/\i.zero=some z/\i.size=size/\i.bytes=bytes/\z.cells.size=zs:=by
 unfold E6 at ho;split at ho
 ·rename_i c bW;split at ho
  ·rename_i s x t t' hc ha mQ;split at ho
   ·rename_i htt;split at ho
    ·rename_i e' ht;split at ho
     ·rename_i i hi;split at ho
      ·rename_i z hz;injection ho with ho;injection ho with h1 ho;injection ho with h2 ho;injection ho with h3 ho;injection ho with h4 h5;subst h1;have:=ki htt;subst this;refine⟨s,x,t,i,z,?_,ht,hi,hz,h2,h3,h4⟩;rw[bW];obtain⟨c1,c2,c3⟩:=c;dsimp only at hc ha mQ;subst hc
       congr 2
       ·exact vu.1 ha
       ·exact vu.1 mQ
      ·cases ho
     ·cases ho
    ·cases ho
   ·cases ho
  ·cases ho
 ·cases ho
theorem ZT{o:Oper}{e size bytes:Nat}(ho:E6 P o=some (e,size,bytes,size,true))(bw:0<size){sv:Value}{m:Nat}{news:aj}{need:List (Nat×Option Obj)}(yH:Cs B sv m news need)(hl:news.length=m*size)(RT:∀ v∈news,v.oneCell'=true)
  {j n:Nat} {cells:aj} (mw:n*size<=cells.length) (h63:n+m<=maxLen) (Cr:(n+m)*bytes<=140737488355328) (k:Nat) :
  cD P B o [.slice (some ⟨j,0,some 7⟩) n 0,sv] ((k,none)::(j,some (.row cells e size))::need) (.slice (some ⟨k,0,some 7⟩) (n+m) 0) [(k,.row (cells.take (n*size)++news) e size),(j,.dead)]:=by
 obtain⟨s,x,t,i,z,bW,ht,hi,hz,h1,h2,h3⟩:=ZS ho;subst h1;subst h2;exact(aHv bW ht hi hz h3 bw yH hl RT mw h63 Cr k).step
theorem aIU{o:Oper}{e size bytes:Nat}(ho:E6 P o=some (e,size,bytes,size,true))(bw:0<size){sv:Value}{m:Nat}{news:aj}{need:List (Nat×Option Obj)}(yH:Cs B sv m news need)(hl:news.length=m*size)
  (h63:m<=maxLen) (Cr:m*bytes<=140737488355328) (k:Nat) :
  cD P B o [.slice none 0 0,sv] ((k,none)::need) (.slice (some ⟨k,0,some 7⟩) m 0) [(k,.row news e size)]:=by
 obtain⟨s,x,t,i,z,bW,ht,hi,hz,h1,h2,h3⟩:=ZS ho;subst h1;subst h2;exact(aHu bW ht hi hz h3 bw yH hl h63 Cr k).step
def aX.bs(fn:Func)(key k len e size:Nat)(idx:List Nat)(z:Value)(vs:aj)(cells:Array Value)(x:Obj)(hx:Obj.row cells.toList e size=x)(cQ:∀ v∈vs,flat v=true)(SY:∀ v∈cells.toList,flat v=true)
  (CU:Ka size len z (idx.zip vs)=some cells) (bw:cells.size=len*size) (zg:0<len*size) (hle:len*size<=16777216) (ho:Bf P (av fn key)=some (len,idx,e,size,z)):aX P B N:=
 .step key (av fn key) vs [(k,none)] (.slice (some ⟨k,0,some 7⟩) len 0) [(k,x)] (by subst hx;exact aIT ho cQ SY CU bw zg hle k)
end
theorem SZ{w:World}{n:Nat}(hn:n<18446744073709551616):
  Calls prog 148 #[.int .u64 n] w λe w'=>∃ v,e=.returned v/\jO w w' v n/\Below w.heap.size w w':=by
 have hs:n<base^2:=by unfold base;omega
 have e0:n/base^0%base=n%base:=by simp
 have e1:n/base^1%base=n/base:=by rw[CV];exact dK (by rw[iK d_];unfold base;omega)
 refine lO (Q:=λe w'=>∃ v,e=.returned v/\jO w w' v n/\Below w.heap.size w w') mixed func148 [cE.plain (.int .u64 n)] (λx hx=>by simp at hx;subst hx;rfl) 100 (N:=10) k_
  (rs:=[(aX.wr 4 .u32 (n:Int) ((n/base^0%base:Nat):Int) (by rw[nP,e0];unfold base;omega):aX prog (aa.at w) 10),.quo 6 .u64 ((n:Int).fdiv (2^32)) ((n/base:Nat):Int) (by rw[r6 _ d_];unfold base;omega),.wr 7 .u32 ((n/base:Nat):Int) ((n/base^1%base:Nat):Int) (by rw[nP,e1];unfold base;omega),.bs f148 8 0 2 176 1 [0,1] (aW 0) [aW (n/base^0%base),aW (n/base^1%base)] #[aW (n/base^0%base),aW (n/base^1%base)] (.row (al (ae base 2 n)) 176 1) rfl
    (λv hv=>by simp at hv;rcases hv with rfl|rfl<;>rfl) (λv hv=>by simp at hv;rcases hv with rfl|rfl<;>rfl) k_ rfl o_ o_ k_,
   .trim f148 9 0 2 n (.row (al (ae base 2 n)) 176 1) rfl rfl hs d_ (y:=.func 175) k_])
  (v:=.slice (some ⟨0,0,some 7⟩) (nd base n) 0) (ms:=[(0,.row (al (ae base 2 n)) 176 1)]) k_ λaw bZ v' w' hc bj dE _=>⟨v',rfl,?_,bj.base⟩
 exact xf bj (dE _ (aU ..)) hs hc
section
variable{Bs:aa}{n a:Nat}
def Bg(n a i:Nat):aR:=[(4,dq i),(0,sl 0 n),(3,.int .u64 ((a/base^i:Nat):Int))]
def CW(n a:Nat):aH:=[(0,.view (al (ae base n a)))]
theorem aIV{j:Nat}(hj:j<n)(ha:a<18446744073709551616)(h63:n<35184372088832):
  ag prog Bs 21 (aF (af f174 0)) (Bg n a (j+1)) (CW n a) 1 ⟨.normal,Bg n a j,CW n a,1⟩:=by
 have hd:=hZ (B:=base) d_ a j;have he:=xd (B:=base) a j;have hle:a/base^j<18446744073709551616:=e8 (tD _ _) ha;generalize hA:a/base^(j+1)=A at *;generalize hx:a/base^j%base=x at *;have ZU:A*base<18446744073709551616:=by omega
 have ll:A*base||| x=a/base^j:=by have:=Nw (i:=32) hd A;rw[he,cS];exact this.symm
 have ZV:IntKind.u64.wrap ((A:Int)*2^32)=((A*base:Nat):Int):=by
  have e:(A:Int)*2^32=((A*base:Nat):Int):=by rw[om];rfl
  rw[e,j5];generalize A*base=H at ZU ⊢;omega
 have He:∀ H:Nat,H=A*base->IntKind.u64.wrap (((BitVec.ofInt IntKind.u64.bits (H:Int))||| (BitVec.ofInt IntKind.u64.bits (x:Int))).toNat:Int)=((a/base^j:Nat):Int):=by intro H hH;rw[SV (by rw[hH];exact ZU) (mC hd d_),hH,ll]
 obtain⟨H,hH⟩:∃ H,H=A*base:=⟨_,rfl⟩;have He:=He H hH;rw[<-hH]at ZV
 have:=fq (P:=prog) (B:=Bs) (N:=21) mixed (c:=aF (af f174 0)) (fr:=[(4,dq (j+1)),(0,sl 0 n),(3,.int .u64 (A:Int))]) (M:=CW n a) (next:=1) (r:=⟨.normal,Bg n a j,CW n a,1⟩) 100
  [.rw 8 (dq (j+1)) (vI j) (dY j),.ge 9 j 0 true s_,.wr 13 .u64 ((A:Int)*2^32) (H:Int) ZV,.rw 15 (dq (j+1)) (vI j) (dY j),.ix f174 16 0 n j hj k_,.ld f174 17 176 0 j (.view (al (ae base n a))) (aW x) rfl (by rw[fP,<-hx];exact kS (eB hj)) k_,.wr 18 .u64 (x:Int) (x:Int) (by rw[j5];unfold base at hd;omega),.quo 19 .u64 _ ((a/base^j:Nat):Int) He,.rw 10 (dq (j+1)) (vI j) (dY j),.wr 11 .i64 ((j:Int)-1) ((j:Int)-1) (oU o_)] k_
 have e:Bg n a (j+1)=[(4,dq (j+1)),(0,sl 0 n),(3,.int .u64 (A:Int))]:=by unfold Bg;rw[hA]
 rw[e];exact this
theorem aIW(ha:a<18446744073709551616)(h63:n<35184372088832):
  ag prog Bs 21 (.block 0 (af f174 0)) (Bg n a n) (CW n a) 1 ⟨.normal,Bg n a 0,CW n a,1⟩:=by
 have:=cd (P:=prog) (B:=Bs) (N:=21) (b:=aF (af f174 0)) (next:=1) (r:=⟨.exit 0,Bg n a 0,CW n a,1⟩) n (λi=>Bg n a (n-i)) (λ_=>CW n a) (λi k _=>Iff.rfl)
  (λi hi=>by
   have e:n-i=(n-(i+1))+1:=by omega
   simp only[e];exact aIV o_ ha h63)
  (by
   have e:n-n=0:=by omega
   simp only[e];exact aC [.rw 9 (.bool (decide (((0:Nat):Int)-1>=0))) (.bool false) rfl]) n_
 exact bT this
end
theorem ZW{w:World}{va:Value}{a:Nat}(gn:iL w va a)(ha:a<18446744073709551616)(h1:nd base a<35184372088832):
  Calls prog 174 #[va] w λe w'=>e=.returned (.int .u64 (a:Int))/\Below w.heap.size w w':=by
 have ak:=dU (B:=base) d_ a;have hl:∀ s∈[cE.row va (nd base a) (al (ae base (nd base a) a))],s.OK w:=by intro s hs;simp at hs;subst hs;exact⟨gn,fF _⟩
 unfold iL at gn;generalize nd base a=n at *;have e0:a/base^n=0:=mA ak;have e1:a/base^0=a:=by simp
 refine lO (Q:=λe w'=>e=.returned (.int .u64 (a:Int))/\Below w.heap.size w w') mixed func174 [cE.row va n (al (ae base n a))] hl 100 (N:=21) k_
  (rs:=[(aX.rw 3 (.int .u64 0) (.int .u64 ((a/base^n:Nat):Int)) (by rw[e0];rfl):aX prog (aa.at w) 21),.wr 7 .i64 ((n:Int)-1) ((n:Int)-1) (oU o_),.code 0 _ _ _ _ _ (aIW (n:=n) (a:=a) ha h1)])
  (v:=.int .u64 ((a/base^0:Nat):Int)) (ms:=[]) k_ λaw bZ v' w' hc bj _ _=>⟨?_,bj.base⟩
 rw[hc.eY rfl,e1]
end Go.Proofs.YtjjefbkbljlgdaaGreatDoor
