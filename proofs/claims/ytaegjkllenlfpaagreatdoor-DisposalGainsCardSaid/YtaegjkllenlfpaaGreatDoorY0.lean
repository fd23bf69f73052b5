/- The seat's texts, part Y0. -/
import Derived.WalkSpells
import Derived.WalkLawsBesides
import Derived.Lib.Hide
import Derived.Lib.Strings
import Derived.Deep.DeepCutAuto
import Derived.Deep.CutBlock
import Derived.BigQuiet
import Derived.Lib.ParseIntB
import Derived.Lib.ItoaNum
import Derived.Deep.AppendLies
import Derived.Lib.ConvBytes
set_option maxRecDepth 100000
set_option maxHeartbeats 8000000
namespace Go.Proofs.YtaegjkllenlfpaaGreatDoor
abbrev Mi:=@decide_eq_false_iff_not
abbrev Mj:=@if_neg
abbrev Mk:=@List.getElem?_toArray
abbrev Ml:=@List.getElem_mem
abbrev Mm:=@List.getElem?_cons_zero
abbrev Mn:=@Nat.le_refl
abbrev Mo:=@List.take_succ_eq_append_getElem
abbrev Mp:=@List.length_append
abbrev Mq:=@if_pos
abbrev Mr:=@List.getElem?_eq_getElem
abbrev Ms:=@List.getElem?_cons_succ
abbrev Mt:=@beq_eq_false_iff_ne
abbrev Mu:=@List.length_take
abbrev Mv:=@List.take_of_length_le
abbrev Mw:=@Array.getD_eq_getD_getElem?
abbrev Mx:=@Nat.le_trans
abbrev My:=@List.length_eq_zero_iff
abbrev Mz:=@List.append_assoc
abbrev MA:=@decide_eq_true_iff
abbrev MB:=@Nat.eq_zero_or_pos
abbrev MC:=@And.intro
abbrev MD:=@Array.getElem?_eq_some_iff
abbrev ME:=@Lib.hid
abbrev MF:=@Nat.mul_comm
abbrev MG:=@List.length_cons
abbrev MH:=@List.mem_map
abbrev MI:=@bodyPost_ret
abbrev MJ:=@Bool.and_eq_true
abbrev MK:=@List.take_length
abbrev ML:=@List.nil_append
abbrev MM:=@List.length_set
abbrev MN:=@List.mem_append
abbrev MO:=@Nat.mul_le_mul_right
abbrev MP:=@List.take_append_drop
abbrev MQ:=@List.map_cons
abbrev MR:=@List.drop_eq_getElem_cons
abbrev MS:=@List.mem_cons
abbrev MU:=@List.length_drop
abbrev MV:=@Nat.zero_add
abbrev MW:=@decide_eq_true_eq
abbrev MX:=@DataW.trod_string
abbrev MY:=@Nat.add_mul
abbrev MZ:=@List.cons_append
abbrev M4:=@heap_alloc_new
abbrev M5:=@Nat.lt_of_lt_of_le
abbrev M6:=@congrArg
abbrev M7:=@World.news_of_block
abbrev M8:=@List.length_filter_le
abbrev Na:=@Nat.mul_assoc
abbrev Nb:=@List.length_map
abbrev Nc:=@bne_iff_ne
abbrev Nf:=@Nat.pow_succ
abbrev Ng:=@List.mem_of_mem_take
abbrev Nh:=@List.size_toArray
abbrev Nj:=@Nat.add_zero
abbrev Nk:=@List.getElem?_eq_some_iff
abbrev Nl:=@IntWalk.i64_in
abbrev Nm:=@List.all_eq_true
abbrev No:=@World.grownBy.block
abbrev Np:=@beq_iff_eq
abbrev Nq:=@List.mem_cons_of_mem
abbrev Nr:=@List.mem_append_right
abbrev Ns:=@List.length_nil
abbrev Nt:=@List.drop_of_length_le
abbrev Nu:=@callsIn_wide
abbrev Nv:=@decide_eq_false
abbrev Nw:=@Nat.lt_or_ge
abbrev Nx:=@List.set_append_right
abbrev Ny:=@info_parts
abbrev Nz:=@List.sum_cons
abbrev NA:=@List.mem_of_mem_drop
abbrev NB:=@Or.inl
abbrev NF:=@World.ownsRow_nil
abbrev NH:=@List.all_cons
abbrev NJ:=@List.getD_eq_getElem?_getD
abbrev NK:=@List.getElem?_append_right
abbrev NL:=@Int.natAbs_natCast
abbrev NN:=@rounds_succ
abbrev NO:=@Array.getElem?_eq_getElem
abbrev NP:=@Int.toNat_natCast
abbrev NU:=@Nat.mul_add
abbrev NV:=@Nat.mod_lt
abbrev NW:=@Nat.pow_le_pow_right
abbrev NY:=@Nat.lt_of_le_of_lt
abbrev NZ:=@Classical.em
abbrev N0:=@List.append_nil
abbrev N4:=@wp_loop_rounds
abbrev N5:=@List.mem_map_of_mem
abbrev N6:=@List.setIfInBounds_toArray
abbrev N7:=@List.not_mem_nil
abbrev Oa:=@Bool.not_eq_true
abbrev Ob:=@List.mapM_toArray
abbrev Od:=@Int.natCast_add
abbrev Oe:=@List.nodup_cons
abbrev Og:=@List.mem_filter
abbrev Oi:=@List.ext_getElem
abbrev Oj:=@Int.le_of_lt
abbrev Ok:=@List.getElem_of_mem
abbrev Ol:=@Ne.symm
abbrev Om:=@Nat.zero_le
abbrev On:=@Option.some.injEq
abbrev Oo:=@List.getElem?_map
abbrev Oq:=@Bool.true_and
abbrev Ot:=@Nat.min_eq_left
abbrev Ou:=@Int.natCast_mul
abbrev Ov:=@Array.replicate_succ
abbrev Ow:=@Array.replicate_zero
abbrev Ox:=@List.pairwise_append
abbrev Oz:=@Nat.mul_le_mul_left
abbrev OA:=@List.append_toArray
abbrev OC:=@List.map_congr_left
abbrev OD:=@List.flatMap_cons
abbrev OE:=@wpList_append_own
abbrev OG:=@List.mapM_cons
abbrev OH:=@List.map_map
abbrev OI:=@List.all_append
abbrev OJ:=@Nat.one_mul
abbrev OK:=@wpList_append_lies
abbrev OM:=@List.exists_cons_of_ne_nil
abbrev OO:=@List.mapM_nil
abbrev OQ:=@Array.getElem?_setIfInBounds_self_of_lt
abbrev OS:=@Array.getElem?_eq_none
abbrev OT:=@Bool.false_and
abbrev OU:=@List.push_toArray
abbrev OV:=@bne_eq_false_iff_eq
abbrev OX:=@List.cons.injEq
abbrev OY:=@List.getElem?_append_left
abbrev OZ:=@Nat.div_lt_iff_lt_mul
abbrev O3:=@Nat.mod_eq_of_lt
abbrev O5:=@Nat.div_eq_of_lt
abbrev O6:=@Nat.zero_mul
abbrev O7:=@List.getElem?_take
abbrev O9:=@List.drop_length
abbrev Pb:=@Array.size_setIfInBounds
abbrev Pd:=@List.mem_singleton
abbrev Pf:=@Nat.pow_pos
abbrev Pg:=@Nat.add_assoc
abbrev Ph:=@List.mem_append_left
abbrev Pi:=@Int.natAbs_mul
abbrev Pj:=@List.mem_iff_getElem
abbrev Pk:=@Int.not_lt
abbrev Pm:=@DataW.trod_int
abbrev Po:=@UInt8.toNat_inj
abbrev Pp:=@List.map_append
abbrev Pq:=@Nat.sub_self
abbrev Pr:=@Nat.pow_add
abbrev Ps:=@List.getElem_cons_zero
abbrev Pt:=@List.findIdx?_eq_some_iff_getElem
abbrev Px:=@RowKit.Below.heap_setCell
abbrev Py:=@Array.getElem_ofFn
abbrev Pz:=@decide_eq_true
abbrev PB:=@List.pairwise_cons
abbrev PD:=@Array.size_replicate
abbrev PE:=@Nat.le_of_lt
abbrev PF:=@DataW.trod_struct
abbrev PH:=@List.take_set_of_le
abbrev PI:=@List.drop_set_of_lt
abbrev PJ:=@List.take_zero
abbrev PL:=@Nat.mul_zero
abbrev PM:=@List.filter_append
abbrev PN:=@List.set_cons_succ
abbrev PP:=@List.eq_nil_or_concat
abbrev PQ:=@UInt8.lt_iff_toNat_lt
abbrev PR:=@wp_region_any
abbrev PS:=@Addr.mk.injEq
abbrev PT:=@List.any_eq_false
abbrev PU:=@List.foldl_append
abbrev PV:=@List.mem_take_iff_getElem
abbrev PW:=@Bool.or_eq_false_iff
abbrev PX:=@List.getElem_append_right
abbrev PY:=@List.isEmpty_eq_false_iff
abbrev PZ:=@RowKit.Below.trans
abbrev P9:=@Nat.mul_le_mul
abbrev Qa:=@IntWalk.u64_in
abbrev Qb:=@UInt8.toNat_ofNat_of_lt'
abbrev Qc:=@List.all_reverse
abbrev Qd:=@List.map_set
abbrev Qe:=@World.size_alloc
abbrev Qf:=@Int.mul_comm
abbrev Qg:=@or_false
abbrev Qh:=@List.map_nil
abbrev Qi:=@Array.getElem?_replicate
abbrev Ql:=@List.filterMap_cons
abbrev Qm:=@Nat.add_sub_cancel_left
abbrev Qn:=@Bool.and_true
abbrev Qo:=@Bool.or_eq_true
abbrev Qp:=@Nat.div_lt_self
abbrev Qq:=@Nat.mod_add_div
abbrev Qr:=@Nat.div_add_mod
abbrev Qs:=@Int.emod_nonneg
abbrev Qu:=@List.eq_nil_iff_forall_not_mem
abbrev Qv:=@Int.mul_le_mul_of_nonneg_right
abbrev Qw:=@Int.add_mul
abbrev Qx:=@and_true
abbrev Qz:=@List.getElem_cons_succ
abbrev QA:=@List.take_append_of_le_length
abbrev QC:=@List.drop_append_of_le_length
abbrev QD:=@List.take_sublist
abbrev QE:=@Bool.not_eq_true'
abbrev QF:=@Lib.run_eql_slice_nil
abbrev QG:=@List.dropLast_concat_getLast
abbrev QH:=@List.drop_drop
abbrev QI:=@Int.mul_nonneg
abbrev QJ:=@Array.getElem?_setIfInBounds
abbrev QK:=@RowKit.Hid.out
abbrev QL:=@Bool.and_eq_false_iff
abbrev QM:=@Nat.mul_lt_mul''
abbrev QO:=@List.getElem_set
abbrev QP:=@Bool.not_true
abbrev QQ:=@Nat.le_succ
abbrev QR:=@Nat.mul_one
abbrev QS:=@Lib.bytesWorld_size
abbrev QV:=@Bool.eq_iff_iff
abbrev QW:=@List.mem_or_eq_of_mem_set
abbrev QX:=@Int.natAbs_ediv_le_natAbs
abbrev QY:=@List.foldl_cons
abbrev QZ:=@List.findIdx?_eq_none_iff
abbrev Q0:=@List.count_replicate_self
abbrev Q4:=@List.mem_of_find?_eq_some
abbrev Q5:=@List.pairwise_iff_getElem
abbrev Q6:=@Nat.add_comm
abbrev Q7:=@Int.emod_lt_of_pos
abbrev Q9:=@Maps.has_put_other
abbrev Rd:=@World.ownsMap_made
abbrev Re:=@List.mem_cons_self
abbrev Rf:=@results_tmp2
abbrev Rg:=@Option.isSome_some
abbrev Rh:=@List.take_take
abbrev Ri:=@run_underlying
abbrev Rj:=@Int.natAbs_neg
abbrev Rk:=@Nat.mul_left_comm
abbrev Rl:=@Nat.lt_trichotomy
abbrev Rm:=@List.length_range
abbrev Rn:=@Int.natAbs_add_le
abbrev Ro:=@List.Pairwise.nil
abbrev Rp:=@Decidable.not_not
abbrev Rr:=@MapKept.run_getObj_map
abbrev Rt:=@Array.toList_replicate
abbrev Ru:=@Int.le_refl
abbrev Rv:=@run_convert_int_string
abbrev Rw:=@List.take_set
abbrev Rx:=@List.any_eq_true
abbrev Ry:=@List.getElem_map
abbrev Rz:=@Array.all_eq_true_iff_forall_mem
abbrev RA:=@List.length_singleton
abbrev RB:=@List.getElem?_eq_none
abbrev RE:=@Nat.add_mul_div_right
abbrev RF:=@Lib.bytesWorld_at_old
abbrev RH:=@Int.mul_ediv_add_emod
abbrev RI:=@Array.ext
abbrev RJ:=@List.concat_eq_append
abbrev RL:=@List.filterMap_append
abbrev RM:=@Array.getElem?_setIfInBounds_ne
abbrev RN:=@List.set_set
abbrev RO:=@toList_madeCells_one
abbrev RP:=@MapKept.run_checkKey
abbrev RQ:=@Array.mem_toList_iff
abbrev RR:=@Int.mul_le_mul_of_nonneg_left
abbrev RS:=@List.length_pos_iff
abbrev RT:=@MapKept.run_findKey
abbrev RU:=@List.mem_range
abbrev RV:=@Bool.not_false
abbrev RW:=@RowKit.run_makeMap
abbrev RX:=@Nat.add_sub_cancel
abbrev RY:=@List.mem_replicate
abbrev RZ:=@List.getElem?_drop
abbrev R3:=@Nat.mul_lt_mul_of_pos_right
abbrev R4:=@List.length_modify
abbrev R5:=@Array.getElem_setIfInBounds
abbrev R6:=@List.take_length_add_append
abbrev R7:=@List.drop_length_add_append
abbrev R8:=@Int.mul_right_comm
abbrev R9:=@List.find?_eq_none
abbrev Sa:=@Rat.mul_lt_mul_of_pos_right
abbrev Sb:=@List.map_take
abbrev Sc:=@Int.sign_eq_neg_one_of_neg
abbrev Sd:=@callsIn_of_wp
abbrev Se:=@Rat.le_of_mul_le_mul_right
abbrev Sf:=@List.length_eraseIdx_of_lt
abbrev Sg:=@List.all_eq_false
abbrev Sh:=@Int.lt_trichotomy
abbrev Si:=@Rat.divInt_eq_div
abbrev Sj:=@List.find?_append
abbrev Sk:=@List.drop_sublist
abbrev Sl:=@Int.le_of_mul_le_mul_left
abbrev Sm:=@List.mem_drop_iff_getElem
abbrev Sn:=@List.getLast?_eq_getElem?
abbrev So:=@Addr.add_lit
abbrev Sq:=@Int.natCast_ediv
abbrev Sr:=@Nat.le_of_eq
abbrev Ss:=@Nat.succ_mul
abbrev St:=@List.filter_cons
abbrev Su:=@List.mem_flatMap
abbrev Sv:=@List.getElem_append_left
abbrev Sw:=@List.range_succ
abbrev Sx:=@Nat.div_le_self
abbrev Sy:=@Int.ediv_nonneg
abbrev Sz:=@List.sum_append
abbrev SA:=@Array.size_push
abbrev SC:=@Int.mul_neg
abbrev SE:=@Nat.one_lt_pow
abbrev SF:=@Bool.and_false
theorem qh{p:Prop}(h:p):Go.RowKit.Hid p:=h
section
open Go.RowKit
abbrev Bs:=List UInt8
def bs(l:Bs):ByteArray:=⟨l.toArray⟩
def L(s:ByteArray):Bs:=s.data.toList
theorem bs_L(s:ByteArray):bs (L s)=s:=Lib.mk_data s
theorem data_bs(l:Bs):(bs l).data.toList=l:=by simp[bs]
theorem size_bs(l:Bs):(bs l).size=l.length:=by rw[Lib.size_eq,data_bs]
theorem toList_bs(l:Bs):(bs l).toList=l:=by rw[Lib.toList_data,data_bs]
theorem extract_bs(l:Bs)(a b:Nat):(bs l).extract a b=bs ((l.drop a).take (b-a)):=by rw[Lib.extract_eq,data_bs];rfl
theorem get_bs(l:Bs)(i:Nat)(h:i<(bs l).size):(bs l)[i]=l[i]'(by rw[size_bs]at h;exact h):=by
 simp[bs];rfl
theorem append_bs(a b:Bs):bs a++bs b=bs (a++b):=by
 apply ByteArray.ext;simp[bs]
theorem lit_append(a:Array UInt8)(l:Bs):(⟨a⟩:ByteArray)++bs l=bs (a.toList++l):=by
 apply ByteArray.ext;simp[bs]
theorem append_lit(a:Array UInt8)(l:Bs):bs l++(⟨a⟩:ByteArray)=bs (l++a.toList):=by
 apply ByteArray.ext;simp[bs]
theorem byte_ne{c d:UInt8}(h:c≠d):((c.toNat:Int) == (d.toNat:Int))=false:=by
 rw[Mt];intro e;exact h (Po.1 (by omega))
def isD(c:UInt8):Bool:=decide (48<=c.toNat) && decide (c.toNat<=57)
def isMin(l:Bs):Bool:=match l with | []=>false|c :: _=>c == 45
def strip(l:Bs):Bs:=if isMin l then l.tail else l
def noZeros:Bs->Bs | []=>[]|c :: r=>if c == 48 then noZeros r else c :: r
def magT(t:Bs):Bs:=if t.all isD then noZeros t else []
def negT(b:Bool)(t:Bs):Bool:=b && !(magT t).isEmpty
def mag(l:Bs):Bs:=magT (strip l)
def neg(l:Bs):Bool:=negT (isMin l) (strip l)
def canon(l:Bs):Bs:=if neg l then 45 :: mag l else mag l
def checkI(l:Bs):Int:=if canon l=l then 0 else 1
def printI(l:Bs):Bs:=if canon l=[] then [48] else canon l
theorem noZeros_le(l:Bs):(noZeros l).length<=l.length:=by
 induction l with
 |nil=>simp[noZeros]
 |cons c r ih=>unfold noZeros;split <;> simp <;> omega
theorem strip_le(l:Bs):(strip l).length<=l.length:=by unfold strip;split <;> simp
theorem mag_le(l:Bs):(mag l).length<=l.length:=by
 unfold mag magT;split
 ·exact Mx (noZeros_le _) (strip_le _)
 ·simp
theorem magT_good(t:Bs)(h:t.all isD=true):magT t=noZeros t:=by unfold magT;rw[Mq h]
def isN(c:UInt8):Bool:=(decide (97<=c.toNat) && decide (c.toNat<=122)) || (decide (48<=c.toNat) && decide (c.toNat<=57)) || decide (c.toNat=95)
def isName(l:Bs):Bool:=decide (1<=l.length) && decide (l.length<=16) && l.all isN
theorem isName_bad(l:Bs)(k:Nat)(hk:k<l.length)(h:isN (l[k]'hk)=false):isName l=false:=by
 have:l.all isN=false:=by rw[Sg];exact⟨_,Ml hk,by simp[h]⟩
 simp[isName,this]
theorem takeN_succ(l:Bs)(k:Nat)(hk:k<l.length)(h:(l.take k).all isN=true)(hc:isN (l[k]'hk)=true):(l.take (k+1)).all isN=true:=by
 rw[Mo hk,OI,h];simp[hc]
theorem isName_good(l:Bs)(k:Nat)(hk:¬ k<l.length)(h:(l.take k).all isN=true)(h1:1<=l.length)(h2:l.length<=16):isName l=true:=by
 rw[Mv (by omega)]at h;unfold isName;rw[h];simp[h1,h2]
theorem isN_good{c:UInt8}(h:((97<=(c.toNat:Int)∧(c.toNat:Int)<=122)∨(48<=(c.toNat:Int)∧(c.toNat:Int)<=57))∨(95<=(c.toNat:Int)∧(c.toNat:Int)<=95)):isN c=true:=by
 unfold isN;rcases h with (h|h)|h
 ·have h1:97<=c.toNat:=by omega
  have h2:c.toNat<=122:=by omega
  simp[h1,h2]
 ·have h1:48<=c.toNat:=by omega
  have h2:c.toNat<=57:=by omega
  simp[h1,h2]
 ·have h1:c.toNat=95:=by omega
  simp[h1]
theorem isN_bad{c:UInt8}(h:¬ (((97<=(c.toNat:Int)∧(c.toNat:Int)<=122)∨(48<=(c.toNat:Int)∧(c.toNat:Int)<=57))∨(95<=(c.toNat:Int)∧(c.toNat:Int)<=95))):isN c=false:=by
 cases hn:isN c with
 |false=>rfl
 |true =>
  exfalso;apply h;unfold isN at hn
  simp only[Qo,MJ,MW]at hn;omega
def gb(c:UInt8):Int:=if 48<=c.toNat then(c.toNat:Int)-48 else(c.toNat:Int)+208
theorem isD_iff(c:UInt8):isD c=true↔48<=c.toNat∧c.toNat<=57:=by simp[isD]
theorem noZeros_all{l:Bs}(h:l.all isD=true):(noZeros l).all isD=true:=by
 induction l with
 |nil=>rfl
 |cons c r ih =>
  unfold noZeros;split
  ·exact ih (by simp only[NH,MJ]at h;exact h.2)
  ·exact h
theorem magT_all(l:Bs):(magT l).all isD=true:=by
 unfold magT;split
 ·exact noZeros_all (by assumption)
 ·rfl
theorem dig_of(n:Nat)(h:n<10):isD (UInt8.ofNat (48+n))=true∧gb (UInt8.ofNat (48+n))=n:=by
 have e:(UInt8.ofNat (48+n)).toNat=48+n:=Qb (by show _<256;omega);refine⟨(isD_iff _).2 (by omega),?_⟩;unfold gb;rw[Mq (by omega)];omega
theorem snocInd{α:Type}{P:List α->Prop}(h0:P [])(h1:∀l a,P l->P (l++[a]))(l:List α):P l:=by
 have key:∀q:List α,P q.reverse:=by
  intro q;induction q with
  |nil=>exact h0
  |cons a r ih=>rw[List.reverse_cons];exact h1 _ _ ih
 have:=key l.reverse;rwa[List.reverse_reverse]at this
def dval(c:UInt8):Nat:=c.toNat-48
def natOf(l:Bs):Nat:=l.foldl (fun n c=>10*n+dval c) 0
theorem natOf_nil:natOf []=0:=rfl
theorem natOf_snoc(l:Bs)(c:UInt8):natOf (l++[c])=10*natOf l+dval c:=by simp[natOf]
theorem natOf_append(a b:Bs):natOf (a++b)=natOf a*10 ^ b.length+natOf b:=by
 induction b using snocInd with
 |h0=>simp[natOf]
 |h1 b c ih =>
  rw[←Mz,natOf_snoc,ih,natOf_snoc,Mp,RA,Nf];generalize 10 ^ b.length=q;generalize natOf a=x;generalize natOf b=y;rw[NU,←Na,MF 10 x,Na x 10 q,MF 10 q];omega
theorem dval_lt{c:UInt8}(h:isD c=true):dval c<10:=by have:=(isD_iff c).1 h;unfold dval;omega
theorem natOf_lt{l:Bs}(h:l.all isD=true):natOf l<10 ^ l.length:=by
 induction l using snocInd with
 |h0=>simp[natOf]
 |h1 l c ih =>
  rw[OI,MJ]at h;have h1:=ih h.1;have h2:=dval_lt (c:=c) (by simpa using h.2);rw[natOf_snoc,Mp,RA,Nf];omega
def dig10(n:Nat):Bs:=if _h:n=0 then [] else dig10 (n / 10)++[UInt8.ofNat (48+n % 10)]
termination_by n
decreasing_by omega
theorem dig10_zero:dig10 0=[]:=by rw[dig10];rfl
theorem dig10_pos{n:Nat}(h:n≠0):dig10 n=dig10 (n / 10)++[UInt8.ofNat (48+n % 10)]:=by rw[dig10,dif_neg h]
theorem dval_dig{n:Nat}(h:n<10):dval (UInt8.ofNat (48+n))=n:=by
 unfold dval;rw[Qb (by show _<256;omega)];omega
theorem natOf_dig10(n:Nat):natOf (dig10 n)=n:=by
 induction n using Nat.strongRecOn with
 |ind n ih =>
  by_cases h:n=0
  ·subst h;rw[dig10_zero];rfl
  ·rw[dig10_pos h,natOf_snoc,ih (n / 10) (by omega),dval_dig (NV _ (by decide))];omega
theorem dig10_all(n:Nat):(dig10 n).all isD=true:=by
 induction n using Nat.strongRecOn with
 |ind n ih =>
  by_cases h:n=0
  ·subst h;rw[dig10_zero];rfl
  ·rw[dig10_pos h,OI,ih (n / 10) (by omega)];simp only[NH,List.all_nil,Qn,Oq];exact(dig_of _ (NV _ (by decide))).1
theorem dig10_ne{n:Nat}(h:n≠0):dig10 n≠[]:=by rw[dig10_pos h];simp
def Lead(l:Bs):Prop:=∀c r,l=c :: r->c≠48
theorem noZeros_lead(l:Bs):Lead (noZeros l):=by
 induction l with
 |nil=>intro c r h;cases h
 |cons x q ih =>
  by_cases hx:(x == 48)=true
  ·have e:noZeros (x :: q)=noZeros q:=by simp only[noZeros];rw[Mq hx]
   rw[e];exact ih
  ·have e:noZeros (x :: q)=x :: q:=by simp only[noZeros];rw[Mj hx]
   rw[e];intro c r h;injection h with h1 h2;subst h1;simpa using hx
theorem mag_lead(l:Bs):Lead (mag l):=by
 show Lead (magT (strip l));unfold magT;split
 ·exact noZeros_lead _
 ·intro c r h;cases h
theorem mag_all(l:Bs):(mag l).all isD=true:=magT_all _
theorem lead_pos{c:UInt8}{r:Bs}(hd:(c :: r).all isD=true)(h:Lead (c :: r)):10 ^ r.length<=natOf (c :: r):=by
 have hc:=h c r rfl;have h1:isD c=true:=by simp only[NH,MJ]at hd;exact hd.1
 have h2:=(isD_iff c).1 h1
 have h3:1<=dval c:=by
  unfold dval;have:c.toNat≠48:=fun e=>hc (Po.1 (by rw[e];rfl))
  omega
 have e:natOf (c :: r)=natOf [c]*10 ^ r.length+natOf r:=natOf_append [c] r;have e2:natOf [c]=dval c:=by simp[natOf]
 rw[e,e2];have:1*10 ^ r.length<=dval c*10 ^ r.length:=MO _ h3;omega
theorem natOf_zero{l:Bs}(hd:l.all isD=true)(h:Lead l):natOf l=0↔l=[]:=by
 constructor
 ·intro h0
  cases l with
  |nil=>rfl
  |cons c r =>
   have:=lead_pos hd h;have hp:0<10 ^ r.length:=Pf (by decide);omega
 ·rintro rfl;rfl
theorem lead_init{l:Bs}{c:UInt8}(h:Lead (l++[c]))(hl:l≠[]):Lead l:=by
 intro x r e;subst e;exact h x (r++[c]) rfl
theorem dig10_natOf{l:Bs}(hd:l.all isD=true)(h:Lead l):dig10 (natOf l)=l:=by
 induction l using snocInd with
 |h0=>rw[natOf_nil,dig10_zero]
 |h1 l c ih =>
  have hd':=hd;rw[OI,MJ]at hd;have hc:isD c=true:=by simpa using hd.2
  have hc2:=dval_lt hc
  have hz:natOf (l++[c])≠0:=by
   rw[Ne,natOf_zero hd' h];simp
  have e:UInt8.ofNat (48+dval c)=c:=by
   have:=(isD_iff c).1 hc;apply Po.1;rw[Qb (by show _<256;unfold dval;omega)];unfold dval;omega
  rw[dig10_pos hz,natOf_snoc,show(10*natOf l+dval c) / 10=natOf l by omega,show(10*natOf l+dval c) % 10=dval c by omega,e];congr 1
  by_cases hl:l=[]
  ·subst hl;rw[natOf_nil,dig10_zero]
  ·exact ih hd.1 (lead_init h hl)
def valI(l:Bs):Int:=if neg l then -(natOf (mag l):Int) else natOf (mag l)
def ofI(z:Int):Bs:=if z<0 then 45 :: dig10 z.natAbs else dig10 z.natAbs
theorem neg_mag{l:Bs}(h:neg l=true):natOf (mag l)≠0:=by
 rw[Ne,natOf_zero (mag_all l) (mag_lead l)];intro e;have:neg l=(isMin l && !(mag l).isEmpty):=rfl;rw[this,e]at h;simp at h
theorem canon_ofI(l:Bs):canon l=ofI (valI l):=by
 unfold canon ofI valI;by_cases h:neg l=true
 ·have h0:=neg_mag h;rw[Mq h,Mq h,Mq (by omega),show(-(natOf (mag l):Int)).natAbs=natOf (mag l) by omega,dig10_natOf (mag_all l) (mag_lead l)]
 ·rw[Mj h,Mj h,Mj (by omega),show((natOf (mag l):Int)).natAbs=natOf (mag l) by omega,dig10_natOf (mag_all l) (mag_lead l)]
def B9:Nat:=1000000000
def gr(n:Nat):List Nat:=if _h:n=0 then [] else(n % B9) :: gr (n / B9)
termination_by n
decreasing_by exact Qp (by omega) (by decide)
theorem gr_zero:gr 0=[]:=by rw[gr];rfl
theorem gr_pos{n:Nat}(h:n≠0):gr n=(n % B9) :: gr (n / B9):=by rw[gr,dif_neg h]
def gval:List Nat->Nat | []=>0|g :: r=>g+B9*gval r
theorem gval_gr(n:Nat):gval (gr n)=n:=by
 induction n using Nat.strongRecOn with
 |ind n ih =>
  by_cases h:n=0
  ·subst h;rw[gr_zero];rfl
  ·rw[gr_pos h];unfold gval;rw[ih (n / B9) (Qp (by omega) (by decide))];exact Qq n B9
theorem gr_lt(n:Nat):∀g ∈ gr n,g<B9:=by
 induction n using Nat.strongRecOn with
 |ind n ih =>
  by_cases h:n=0
  ·subst h;rw[gr_zero];simp
  ·rw[gr_pos h];intro g hg;rcases MS.1 hg with rfl|hg
   ·exact NV _ (by decide)
   ·exact ih (n / B9) (Qp (by omega) (by decide)) g hg
def Top(l:List Nat):Prop:=∀r g,l=r++[g]->g≠0
theorem gr_gval{l:List Nat}(hb:∀g ∈ l,g<B9)(ht:Top l):gr (gval l)=l:=by
 induction l with
 |nil=>exact gr_zero
 |cons g r ih =>
  have hg:=hb g (by simp)
  have hne:gval (g :: r)≠0:=by
   intro e
   have:∀(q:List Nat),gval q=0->∀x ∈ q,x=0:=by
    intro q;induction q with
    |nil=>intro _ x hx;cases hx
    |cons y s ihs =>
     intro h x hx;have h1:y=0:=by unfold gval at h;omega
     have h2:gval s=0:=by
      unfold gval at h;have:B9*gval s=0:=by omega
      rcases Nat.mul_eq_zero.1 this with h|h
      ·exact absurd h (by decide)
      ·exact h
     rcases MS.1 hx with rfl|hx
     ·exact h1
     ·exact ihs h2 x hx
   have hall:=this _ e
   obtain⟨q,x,hq⟩:∃q x,g :: r=q++[x]:=by
    rcases PP (g :: r) with h | ⟨q,x,h⟩
    ·cases h
    ·exact⟨q,x,by simpa using h⟩
   exact ht q x hq (hall x (by rw[hq];simp))
  rw[gr_pos hne];have eg:gval (g :: r)=g+B9*gval r:=rfl;have e1:gval (g :: r) % B9=g:=by rw[eg];rw[Nat.add_mul_mod_self_left];exact O3 hg
  have e2:gval (g :: r) / B9=gval r:=by rw[eg];rw[Nat.add_mul_div_left _ _ (by decide),O5 hg,MV]
  rw[e1,e2,ih (fun x hx=>hb x (by simp[hx])) (fun q x hq=>ht (g :: q) x (by rw[hq];rfl))]
theorem gr_top(n:Nat):Top (gr n):=by
 induction n using Nat.strongRecOn with
 |ind n ih =>
  by_cases h:n=0
  ·subst h;rw[gr_zero];intro r g e;simp at e
  ·rw[gr_pos h];intro r g e
   cases r with
   |nil =>
    simp only[ML,OX]at e
    have hz:n / B9=0:=by
     by_cases h0:n / B9=0
     ·exact h0
     ·rw[gr_pos h0]at e;cases e.2
    have:=Qq n B9;rw[hz]at this;rw[←e.1];omega
   |cons y q =>
    simp only[MZ,OX]at e;exact ih (n / B9) (Qp (by omega) (by decide)) q g e.2
def at0(l:List Nat)(k:Nat):Nat:=l.getD k 0
theorem at0_lt{l:List Nat}{k:Nat}(h:k<l.length):at0 l k=l[k]:=by simp[at0,h]
theorem at0_ge{l:List Nat}{k:Nat}(h:l.length<=k):at0 l k=0:=by simp[at0,RB h]
theorem at0_bd{l:List Nat}(hb:∀g ∈ l,g<B9)(k:Nat):at0 l k<B9:=by
 rcases Nw k l.length with h|h
 ·rw[at0_lt h];exact hb _ (Ml h)
 ·rw[at0_ge h];decide
def gsum(f:Nat->Nat):Nat->Nat | 0=>0|L+1=>gsum f L+f L*B9 ^ L
theorem gsum_shift(f:Nat->Nat)(L:Nat):gsum f (L+1)=f 0+B9*gsum (fun k=>f (k+1)) L:=by
 induction L with
 |zero=>simp[gsum]
 |succ L ih =>
  rw[show gsum f (L+1+1)=gsum f (L+1)+f (L+1)*B9 ^ (L+1) from rfl,ih,show gsum (fun k=>f (k+1)) (L+1)=gsum (fun k=>f (k+1)) L+f (L+1)*B9 ^ L from rfl,NU,Nf,Pg];congr 2
  rw[←Na,MF (f (L+1)*B9 ^ L) B9]
theorem gval_gsum:∀(l:List Nat) (L:Nat),l.length<=L->gval l=gsum (at0 l) L
 |[],L,_=>by
  have:∀L,gsum (at0 []) L=0:=by
   intro L;induction L with
   |zero=>rfl
   |succ L ih=>unfold gsum;rw[ih,at0_ge (by simp)];simp
  rw[this];rfl
 |g :: r,0,h=>by simp at h
 |g :: r,L+1,h=>by
  rw[gsum_shift];have e:(fun k=>at0 (g :: r) (k+1))=at0 r:=by funext k;simp[at0]
  rw[e,←gval_gsum r L (by simpa using h)];rfl
theorem gsum_congr{f g:Nat->Nat}{L:Nat}(h:∀k,k<L->f k=g k):gsum f L=gsum g L:=by
 induction L with
 |zero=>rfl
 |succ L ih=>unfold gsum;rw[ih (fun k hk=>h k (by omega)),h L (by omega)]
theorem gsum_lt{f:Nat->Nat}(hb:∀k,f k<B9)(L:Nat):gsum f L<B9 ^ L:=by
 induction L with
 |zero=>simp[gsum]
 |succ L ih =>
  unfold gsum;rw[Nf];have h1:f L*B9 ^ L<=(B9-1)*B9 ^ L:=MO _ (by have:=hb L;omega);generalize B9 ^ L=q at *
  have h2:q*B9=q+(B9-1)*q:=by
   have e:B9=1000000000:=rfl;rw[e];omega
  omega
theorem gval_range(f:Nat->Nat)(L:Nat):gval ((List.range L).map f)=gsum f L:=by
 rw[gval_gsum _ L (by simp)];apply gsum_congr;intro k hk;rw[at0_lt (by simpa using hk)];simp
def cy(a b:Nat->Nat):Nat->Nat | 0=>0|k+1=>(a k+b k+cy a b k) / B9
def pl(a b:Nat->Nat)(k:Nat):Nat:=(a k+b k+cy a b k) % B9
theorem pl_lt(a b:Nat->Nat)(k:Nat):pl a b k<B9:=NV _ (by decide)
theorem cy_le{a b:Nat->Nat}(ha:∀k,a k<B9)(hb:∀k,b k<B9)(k:Nat):cy a b k<=1:=by
 induction k with
 |zero=>simp[cy]
 |succ k ih =>
  unfold cy;have h1:=ha k;have h2:=hb k;have e:B9=1000000000:=rfl;rw[e]at h1 h2 ⊢;omega
theorem plus_sum(a b:Nat->Nat)(L:Nat):gsum (pl a b) L+cy a b L*B9 ^ L=gsum a L+gsum b L:=by
 induction L with
 |zero=>simp[gsum,cy]
 |succ L ih =>
  have e1:gsum (pl a b) (L+1)=gsum (pl a b) L+pl a b L*B9 ^ L:=rfl;have e2:gsum a (L+1)=gsum a L+a L*B9 ^ L:=rfl;have e3:gsum b (L+1)=gsum b L+b L*B9 ^ L:=rfl;have e4:cy a b (L+1)=(a L+b L+cy a b L) / B9:=rfl;have e5:pl a b L=(a L+b L+cy a b L) % B9:=rfl;have h:=Qq (a L+b L+cy a b L) B9;rw[←e4,←e5]at h;rw[e1,e2,e3,Nf];generalize cy a b (L+1)=c' at *;generalize cy a b L=c at *;generalize pl a b L=p at *;generalize B9 ^ L=q at *;have h2:(p+B9*c')*q=(a L+b L+c)*q:=by rw[h]
  rw[MY,MY,MY]at h2;have h3:B9*c'*q=c'*(q*B9):=by rw[MF B9 c',Na,MF B9 q]
  rw[h3]at h2;omega
def bw(a b:Nat->Nat):Nat->Nat | 0=>0|k+1=>if a k<b k+bw a b k then 1 else 0
def mi(a b:Nat->Nat)(k:Nat):Nat:=if a k<b k+bw a b k then a k+B9-(b k+bw a b k) else a k-(b k+bw a b k)
theorem bw_le(a b:Nat->Nat)(k:Nat):bw a b k<=1:=by
 cases k with
 |zero=>simp[bw]
 |succ k=>unfold bw;split <;> omega
theorem mi_lt{a b:Nat->Nat}(ha:∀k,a k<B9)(hb:∀k,b k<B9)(k:Nat):mi a b k<B9:=by
 have h1:=ha k;have h2:=hb k;have h3:=bw_le a b k;unfold mi;split <;> omega
theorem minus_sum{a b:Nat->Nat}(ha:∀k,a k<B9)(hb:∀k,b k<B9)(L:Nat):gsum (mi a b) L+gsum b L=gsum a L+bw a b L*B9 ^ L:=by
 induction L with
 |zero=>simp[gsum,bw]
 |succ L ih =>
  have e1:gsum (mi a b) (L+1)=gsum (mi a b) L+mi a b L*B9 ^ L:=rfl;have e2:gsum a (L+1)=gsum a L+a L*B9 ^ L:=rfl;have e3:gsum b (L+1)=gsum b L+b L*B9 ^ L:=rfl;have h1:=ha L;have h2:=hb L;have h3:=bw_le a b L
  have key:mi a b L+(b L+bw a b L)=a L+bw a b (L+1)*B9:=by
   have e4:bw a b (L+1)=if a L<b L+bw a b L then 1 else 0:=rfl;rw[e4];unfold mi;split
   ·omega
   ·omega
  rw[e1,e2,e3,Nf];generalize bw a b (L+1)=c' at *;generalize bw a b L=c at *;generalize mi a b L=p at *;generalize B9 ^ L=q at *;have h4:(p+(b L+c))*q=(a L+c'*B9)*q:=by rw[key]
  rw[MY,MY,MY]at h4;have h5:c'*B9*q=c'*(q*B9):=by rw[Na,MF B9 q]
  rw[h5]at h4;omega
theorem bw_zero{a b:Nat->Nat}(ha:∀k,a k<B9)(hb:∀k,b k<B9){L:Nat}(h:gsum b L<=gsum a L):bw a b L=0:=by
 have h1:=minus_sum ha hb L;have h2:=gsum_lt (mi_lt ha hb) L;have h3:=bw_le a b L;rcases MB (bw a b L) with h0|h0
 ·exact h0
 ·have:bw a b L=1:=by omega
  rw[this,OJ]at h1;omega
theorem minus_val{a b:Nat->Nat}(ha:∀k,a k<B9)(hb:∀k,b k<B9){L:Nat}(h:gsum b L<=gsum a L):gsum (mi a b) L=gsum a L-gsum b L:=by
 have h1:=minus_sum ha hb L;rw[bw_zero ha hb h]at h1;omega
theorem gsum_less{a b:Nat->Nat}(ha:∀k,a k<B9)(k:Nat)(h:a k<b k):∀(L:Nat),k<L->(∀j,k<j->j<L->a j=b j)->gsum a L<gsum b L
 |0,hk,_=>by omega
 |L+1,hk,he=>by
  unfold gsum;rcases Nw k L with h1|h1
  ·have:=gsum_less ha k h L h1 (fun j hj hl=>he j hj (by omega));rw[he L h1 (by omega)];omega
  ·obtain rfl:k=L:=by omega
   have h2:=gsum_lt ha k;have h3:(a k+1)*B9 ^ k<=b k*B9 ^ k:=MO _ h;rw[MY,OJ]at h3;omega
def cutL(l:List Nat):List Nat:=(l.reverse.dropWhile (· == 0)).reverse
theorem cutL_snoc_zero(l:List Nat):cutL (l++[0])=cutL l:=by simp[cutL]
theorem cutL_snoc(l:List Nat){g:Nat}(h:g≠0):cutL (l++[g])=l++[g]:=by simp[cutL,h]
theorem gval_snoc(l:List Nat)(g:Nat):gval (l++[g])=gval l+g*B9 ^ l.length:=by
 induction l with
 |nil=>simp[gval]
 |cons a r ih =>
  have e1:gval ((a :: r)++[g])=a+B9*gval (r++[g]):=rfl;have e2:gval (a :: r)=a+B9*gval r:=rfl;rw[e1,e2,ih,NU,MG,Nf,Pg];congr 2
  rw[Rk,MF (B9 ^ r.length) B9]
theorem cutL_gr{l:List Nat}(hb:∀g ∈ l,g<B9):cutL l=gr (gval l):=by
 induction l using snocInd with
 |h0=>rw[show gval []=0 from rfl,gr_zero];rfl
 |h1 l g ih =>
  by_cases h:g=0
  ·subst h;rw[cutL_snoc_zero,gval_snoc,O6,Nj];exact ih (fun x hx=>hb x (by simp[hx]))
  ·rw[cutL_snoc l h,gr_gval hb];intro r x e;have:=List.append_inj' e rfl;simp at this;rw[←this.2];exact h
theorem gr_len_le{n L:Nat}(h:n<B9 ^ L):(gr n).length<=L:=by
 induction L generalizing n with
 |zero=>have:n=0:=by simpa using h
        subst this;rw[gr_zero];simp
 |succ L ih =>
  by_cases h0:n=0
  ·subst h0;rw[gr_zero];simp
  ·rw[gr_pos h0,MG]
   have:n / B9<B9 ^ L:=by
    rw[OZ (by decide)];rw[Nf]at h;exact h
   have:=ih this;omega
def groupsOf(s:Bs):List Nat:=if h:s=[] then [] else natOf (s.drop (s.length-9)) :: groupsOf (s.take (s.length-9))
termination_by s.length
decreasing_by
 have:0<s.length:=RS.2 h;rw[Mu];omega
theorem groupsOf_nil:groupsOf []=[]:=by rw[groupsOf];rfl
theorem groupsOf_pos{s:Bs}(h:s≠[]):groupsOf s=natOf (s.drop (s.length-9)) :: groupsOf (s.take (s.length-9)):=by rw[groupsOf,dif_neg h]
theorem groupsOf_len(s:Bs):(groupsOf s).length<=s.length:=by
 induction hn:s.length using Nat.strongRecOn generalizing s with
 |ind n ih =>
  subst hn;by_cases h:s=[]
  ·subst h;rw[groupsOf_nil];simp
  ·have hp:0<s.length:=RS.2 h;have:=ih (s.take (s.length-9)).length (by rw[Mu];omega) (s.take (s.length-9)) rfl;rw[Mu]at this
   rw[groupsOf_pos h,MG];omega
theorem lead_take{s:Bs}(h:Lead s)(n:Nat):Lead (s.take n):=by
 intro c r e
 cases s with
 |nil=>simp at e
 |cons x q =>
  cases n with
  |zero=>simp at e
  |succ n=>rw[List.take_succ_cons]at e;injection e with e1 e2;subst e1;exact h x q rfl
theorem all_take{s:Bs}(h:s.all isD=true)(n:Nat):(s.take n).all isD=true:=by
 rw[Nm]at h ⊢;exact fun x hx=>h x (Ng hx)
theorem all_drop{s:Bs}(h:s.all isD=true)(n:Nat):(s.drop n).all isD=true:=by
 rw[Nm]at h ⊢;exact fun x hx=>h x (NA hx)
theorem last9_lt{s:Bs}(h:s.all isD=true):natOf (s.drop (s.length-9))<B9:=by
 have h1:=natOf_lt (all_drop h (s.length-9));have h2:(s.drop (s.length-9)).length<=9:=by rw[MU];omega
 have h3:10 ^ (s.drop (s.length-9)).length<=10 ^ 9:=NW (by decide) h2;exact M5 h1 h3
theorem natOf_split(s:Bs):natOf s=natOf (s.take (s.length-9))*B9+natOf (s.drop (s.length-9)):=by
 conv=>lhs;rw[←MP (s.length-9) s,natOf_append]
 by_cases h:9<=s.length
 ·rw[show(s.drop (s.length-9)).length=9 by rw[MU];omega];rfl
 ·rw[show s.length-9=0 by omega,PJ,natOf_nil];simp
theorem groupsOf_gr(s:Bs)(hd:s.all isD=true)(hl:Lead s):groupsOf s=gr (natOf s):=by
 induction hn:s.length using Nat.strongRecOn generalizing s with
 |ind n ih =>
  subst hn;by_cases h:s=[]
  ·subst h;rw[groupsOf_nil,natOf_nil,gr_zero]
  ·have hp:0<s.length:=RS.2 h;have hz:natOf s≠0:=fun e=>h ((natOf_zero hd hl).1 e)
   have h9:=last9_lt hd;have hs:=natOf_split s;rw[groupsOf_pos h,gr_pos hz,ih _ (by rw[Mu];omega) (s.take (s.length-9)) (all_take hd _) (lead_take hl _) rfl];congr 1
   ·rw[hs,Q6,Nat.add_mul_mod_self_right,O3 h9]
   ·rw[hs,Q6,RE _ _ (by decide),O5 h9,MV]
theorem groups_step{s:Bs}{e:Nat}(h0:0<e)(he:e<=s.length):groupsOf (s.take e)=natOf ((s.take e).drop (e-9)) :: groupsOf (s.take (e-9)):=by
 have hl:(s.take e).length=e:=by rw[Mu];omega
 have hne:s.take e≠[]:=by intro h;rw[h]at hl;simp at hl;omega
 rw[groupsOf_pos hne,hl,Rh,Ot (by omega)]
theorem parse_small(l:Bs)(hd:l.all isD=true)(h0:l≠[])(hl:l.length<=9):Lib.parseUintB 64 l = .ok (natOf l):=by
 have key:∀(l:Bs) (acc:Nat),l.all isD=true->acc*10 ^ l.length+10 ^ l.length<=1000000000->Lib.parseUintM (2 ^ 64-1) acc l = .ok (acc*10 ^ l.length+natOf l):=by
  intro l;induction l with
  |nil=>intro acc _ _;simp[Lib.parseUintM,natOf]
  |cons c r ih =>
   intro acc hd hb;simp only[NH,MJ]at hd;have hc:=(isD_iff c).1 hd.1;rw[MG,Nf]at hb;have hp:1<=10 ^ r.length:=Pf (by decide)
   have hb2:(acc*10+(c.toNat-48))*10 ^ r.length+10 ^ r.length<=1000000000:=by
    have h1:(c.toNat-48+1)*10 ^ r.length<=10*10 ^ r.length:=MO _ (by omega);rw[MY,OJ]at h1;rw[MY,Na];rw[MF (10 ^ r.length) 10]at hb;generalize 10 ^ r.length=q at *;generalize acc*(10*q)=u at *;generalize (c.toNat-48)*q=v at *;omega
   have ha:acc<=1000000000:=by
    have:acc*1<=acc*(10 ^ r.length*10):=Oz _ (by omega);omega
   have e:natOf (c :: r)=(c.toNat-48)*10 ^ r.length+natOf r:=by
    have:=natOf_append [c] r;rw[show natOf [c]=c.toNat-48 by simp[natOf,dval]]at this
    exact this
   unfold Lib.parseUintM;rw[Mq hc,Mj (by omega),Mj (by omega),ih _ hd.2 hb2,e,MG,Nf];congr 1
   rw[MY,Na,MF 10 (10 ^ r.length)];omega
 unfold Lib.parseUintB
 rw[Mj h0,key l 0 hd (by
  have:10 ^ l.length<=10 ^ 9:=NW (by decide) hl;omega)]
 simp
theorem cutL_prefix(l:List Nat):cutL l=l.take (cutL l).length:=by
 induction l using snocInd with
 |h0=>rfl
 |h1 l g ih =>
  by_cases h:g=0
  ·subst h;rw[cutL_snoc_zero];have hle:(cutL l).length<=l.length:=by rw[ih,Mu];omega
   rw[QA hle];exact ih
  ·rw[cutL_snoc l h,MK]
theorem cutL_le(l:List Nat):(cutL l).length<=l.length:=by
 have:=M6 List.length (cutL_prefix l);rw[Mu]at this;omega
theorem cutL_gr_self(n:Nat):cutL (gr n)=gr n:=by rw[cutL_gr (gr_lt n),gval_gr]
theorem gr_pow{n:Nat}(h:n≠0):B9 ^ ((gr n).length-1)<=n:=by
 induction n using Nat.strongRecOn with
 |ind n ih =>
  rw[gr_pos h,MG,RX];by_cases h0:n / B9=0
  ·rw[h0,gr_zero];simp;omega
  ·have h1:=ih (n / B9) (Qp (by omega) (by decide)) h0
   have hl:(gr (n / B9)).length=(gr (n / B9)).length-1+1:=by
    rw[gr_pos h0,MG];omega
   rw[hl,Nf];have h2:=MO B9 h1;have h3:=Nat.div_mul_le_self n B9;omega
theorem gr_lt_pow(n:Nat):n<B9 ^ (gr n).length:=by
 have h:=gsum_lt (at0_bd (gr_lt n)) (gr n).length;rw[←gval_gsum _ _ (Mn _),gval_gr]at h;exact h
theorem gr_shorter{x y:Nat}(h:(gr x).length<(gr y).length):x<y:=by
 have h0:y≠0:=by intro e;subst e;rw[gr_zero]at h;simp at h
 have h1:=gr_lt_pow x;have h2:=gr_pow h0;have h3:B9 ^ (gr x).length<=B9 ^ ((gr y).length-1):=NW (by decide) (by omega);omega
theorem gr_inj{x y:Nat}(h:gr x=gr y):x=y:=by rw[←gval_gr x,h,gval_gr]
theorem gr_less{x y k:Nat}(hl:(gr x).length=(gr y).length)(hk:k<(gr x).length)(hk':k<(gr y).length)(he:∀(j:Nat) (h1:j<(gr x).length) (h2:j<(gr y).length),k<j->(gr x)[j]=(gr y)[j])(h:(gr x)[k]<(gr y)[k]):x<y:=by
 have:=gsum_less (a:=at0 (gr x)) (b:=at0 (gr y)) (at0_bd (gr_lt x)) k (by rw[at0_lt hk,at0_lt hk'];exact h) (gr x).length hk (fun j hj hjl=>by rw[at0_lt hjl,at0_lt (by omega)];exact he j hjl (by omega) hj);rw[←gval_gsum _ _ (Mn _),←gval_gsum _ _ (by omega),gval_gr,gval_gr]at this
 exact this
def fmtU(g:Nat):Bs:=if g=0 then [48] else dig10 g
def pad9(g:Nat):Bs:=List.replicate (9-(fmtU g).length) 48++fmtU g
theorem dig10_len{g L:Nat}(h:g<10 ^ L):(dig10 g).length<=L:=by
 induction L generalizing g with
 |zero=>have:g=0:=by simpa using h
        subst this;rw[dig10_zero];simp
 |succ L ih =>
  by_cases h0:g=0
  ·subst h0;rw[dig10_zero];simp
  ·rw[dig10_pos h0,Mp,RA];have:g / 10<10 ^ L:=by rw[OZ (by decide)];rw[Nf]at h;exact h
   have:=ih this;omega
theorem fmtU_all(g:Nat):(fmtU g).all isD=true:=by unfold fmtU;split;rfl;exact dig10_all g
theorem fmtU_val(g:Nat):natOf (fmtU g)=g:=by
 unfold fmtU;split
 ·rename_i h;rw[h];rfl
 ·exact natOf_dig10 g
theorem fmtU_len{g:Nat}(h:g<B9):(fmtU g).length<=9:=by
 unfold fmtU;split
 ·simp
 ·exact dig10_len (L:=9) h
theorem natOf_zeros(k:Nat)(l:Bs):natOf (List.replicate k 48++l)=natOf l:=by
 rw[natOf_append]
 have:natOf (List.replicate k 48)=0:=by
  induction k with
  |zero=>rfl
  |succ k ih=>rw[List.replicate_succ',natOf_snoc,ih];decide
 rw[this];simp
theorem pad9_val(g:Nat):natOf (pad9 g)=g:=by unfold pad9;rw[natOf_zeros,fmtU_val]
theorem pad9_len{g:Nat}(h:g<B9):(pad9 g).length=9:=by
 have:=fmtU_len h;unfold pad9;rw[Mp,List.length_replicate];omega
theorem pad9_all(g:Nat):(pad9 g).all isD=true:=by
 unfold pad9;rw[OI,fmtU_all,Qn,Nm];intro x hx;rw[List.eq_of_mem_replicate hx];decide
def lowT(r:List Nat):Bs:=r.reverse.flatMap pad9
theorem lowT_cons(g:Nat)(r:List Nat):lowT (g :: r)=lowT r++pad9 g:=by unfold lowT;simp
theorem lowT_all(r:List Nat):(lowT r).all isD=true:=by
 induction r with
 |nil=>rfl
 |cons g r ih=>rw[lowT_cons,OI,ih,pad9_all];rfl
theorem top_val(top:Nat):∀(r:List Nat),(∀g ∈ r,g<B9)->natOf (fmtU top++lowT r)=gval (r++[top])
 |[],_=>by simp[lowT,gval,fmtU_val]
 |g :: r,h=>by
  have hg:=h g (by simp);rw[lowT_cons,←Mz,natOf_append,pad9_len hg,pad9_val,top_val top r (fun x hx=>h x (by simp[hx]))];show _=g+B9*gval (r++[top]);rw[show(10:Nat) ^ 9=B9 from rfl,MF];omega
theorem text_gr{n top:Nat}{r:List Nat}(h:gr n=r++[top]):fmtU top++lowT r=dig10 n:=by
 have hb:=gr_lt n;rw[h]at hb;have ht:top≠0:=gr_top n r top h;have hv:=top_val top r (fun g hg=>hb g (by simp[hg]));rw[←h,gval_gr]at hv;rw[←hv,dig10_natOf]
 ·rw[OI,fmtU_all,lowT_all];rfl
 ·intro c q e;have hf:fmtU top=dig10 top:=by unfold fmtU;rw[Mj ht]
  rw[hf]at e;have hne:=dig10_ne ht
  cases hd:dig10 top with
  |nil=>exact absurd hd hne
  |cons x s =>
   rw[hd]at e;injection e with e1 e2;subst e1
   intro hx;subst hx;have h1:=natOf_dig10 top;have h2:natOf (48 :: s)=natOf s:=natOf_zeros 1 s;rw[hd,h2]at h1;have h3:(dig10 top).length<=s.length:=dig10_len (by rw[←h1];exact natOf_lt (by have:=dig10_all top;rw[hd]at this;simp only[NH,MJ]at this;exact this.2));rw[hd]at h3;simp at h3;omega
theorem natOf_noZeros(t:Bs):natOf (noZeros t)=natOf t:=by
 induction t with
 |nil=>rfl
 |cons c r ih =>
  by_cases hc:(c == 48)=true
  ·have e:noZeros (c :: r)=noZeros r:=by simp only[noZeros];rw[Mq hc]
   obtain rfl:c=48:=by simpa using hc
   rw[e,ih];exact(natOf_zeros 1 r).symm
  ·have e:noZeros (c :: r)=c :: r:=by simp only[noZeros];rw[Mj hc]
   rw[e]
theorem isMin_dig{t:Bs}(h:t.all isD=true):isMin t=false:=by
 cases t with
 |nil=>rfl
 |cons c r =>
  simp only[NH,MJ]at h;have:=(isD_iff c).1 h.1;simp only[isMin,Mt];rintro rfl;revert this;decide
theorem valI_dig{t:Bs}(h:t.all isD=true):valI t=(natOf t:Int):=by
 have hm:mag t=noZeros t:=by
  show magT (strip t)=_;unfold strip;rw[isMin_dig h];exact magT_good t h
 have hn:neg t=false:=by show negT (isMin t) (strip t)=false;rw[isMin_dig h];rfl
 unfold valI;rw[hn,hm,natOf_noZeros];rfl
theorem valI_min{t:Bs}(h:t.all isD=true):valI (45 :: t) = -(natOf t:Int):=by
 have hm:mag (45 :: t)=noZeros t:=magT_good t h
 have hn:neg (45 :: t)=!(noZeros t).isEmpty:=by
  show negT true t=_;unfold negT;rw[magT_good t h];rfl
 unfold valI;rw[hn,hm,natOf_noZeros]
 cases hz:noZeros t with
 |nil =>
  have:=natOf_noZeros t;rw[hz,natOf_nil]at this
  rw[←this];rfl
 |cons c r=>rfl
theorem valI_ofI(z:Int):valI (ofI z)=z:=by
 unfold ofI;split
 ·rw[valI_min (dig10_all _),natOf_dig10];omega
 ·rw[valI_dig (dig10_all _),natOf_dig10];omega
theorem ofI_nil_iff(z:Int):ofI z=[]↔z=0:=by
 constructor
 ·intro h;have:=valI_ofI z;rw[h]at this;rw[←this];decide
 ·rintro rfl;unfold ofI;rw[Mj (by decide)];exact dig10_zero
theorem lowT_len(r:List Nat)(h:∀g ∈ r,g<B9):(lowT r).length=9*r.length:=by
 induction r with
 |nil=>rfl
 |cons g r ih=>rw[lowT_cons,Mp,ih (fun x hx=>h x (by simp[hx])),pad9_len (h g (by simp)),MG];omega
structure LotV where
 id:Bs
 ins:Bs
 acq:Int
 opn:Int
 q:Bs
 c:Bs
 u:Bs
instance:Inhabited LotV:=⟨⟨[],[],0,0,[],[],[]⟩⟩
def lotCells(x:LotV):List Value:=[.string (bs x.id),.string (bs x.ins),.int .i64 x.acq,.int .i64 x.opn,.string (bs x.q),.string (bs x.c),.string (bs x.u)]
def cut47:Bs->Bs × Bs
 |[]=>([],[])
 |x :: r=>if x=47 then([],r) else(x :: (cut47 r).1,(cut47 r).2)
def numOK(t:Bs):Bool:=decide (1<=t.length) && decide (t.length<=4) && !(t.headD 48 == 48) && t.all isD
def isId(l:Bs):Bool:=isName (cut47 l).1 && numOK (cut47 l).2
theorem lead_of_head{t:Bs}(h:(!(t.headD 48 == 48))=true):Lead t:=by
 intro c r e;subst e;simpa using h
theorem numOK_iff{t:Bs}:numOK t=true↔∃n:Nat,1<=n∧n<=9999∧t=dig10 n:=by
 constructor
 ·intro h;simp only[numOK,MJ,MW]at h;obtain⟨⟨⟨h1,h2⟩,h3⟩,h4⟩:=h;have hl:=lead_of_head h3;have hlt:=natOf_lt h4;have hp:10 ^ t.length<=10 ^ 4:=NW (by decide) h2;refine⟨natOf t,?_,by omega,(dig10_natOf h4 hl).symm⟩;rcases MB (natOf t) with h0|h0
  ·have:=(natOf_zero h4 hl).1 h0;subst this;simp at h1
  ·exact h0
 ·rintro⟨n,h1,h2,rfl⟩;have hlen:=dig10_len (g:=n) (L:=4) (by omega);have hne:=dig10_ne (n:=n) (by omega)
  have hlead:Lead (dig10 n):=by
   have:∀m,m≠0->Lead (dig10 m):=by
    intro m;induction m using Nat.strongRecOn with
    |ind m ih =>
     intro hm;rw[dig10_pos hm];by_cases h10:m / 10=0
     ·rw[h10,dig10_zero];intro c r e;simp only[ML,OX]at e;rw[←e.1];intro e2;have:=M6 UInt8.toNat e2;rw[Qb (by show _<256;omega)]at this
      have h48:(48:UInt8).toNat=48:=rfl;omega
     ·have hl:=ih (m / 10) (by omega) h10;have hn:=dig10_ne h10;intro c r e;obtain⟨c',r',e'⟩:=OM hn;rw[e']at e;simp only[MZ,OX]at e;rw[←e.1];exact hl c' r' e'
   exact this n (by omega)
  obtain⟨c,r,e⟩:=OM hne;have hc:=hlead c r e;simp only[numOK,MJ,MW];refine⟨⟨⟨by rw[e];simp,hlen⟩,?_⟩,dig10_all n⟩;rw[e];simpa using hc
theorem decDigits_dig10(n:Nat)(h:1<=n):Lib.decDigits n=dig10 n:=by
 induction n using Nat.strongRecOn with
 |ind n ih =>
  rw[Lib.decDigits,dig10_pos (by omega)];split
  ·rename_i h10
   rw[show n / 10=0 by omega,dig10_zero,show n % 10=n by omega];rfl
  ·rw[ih (n / 10) (by omega) (by omega)]
theorem parse_dig:∀(l:Bs) (acc:Nat),l.all isD=true->acc*10 ^ l.length+natOf l<1000000000000->Lib.parseUint10 acc l = .ok (acc*10 ^ l.length+natOf l)
 |[],acc,_,_=>by simp[Lib.parseUint10,natOf]
 |c :: r,acc,h,hb=>by
  simp only[NH,MJ]at h;have hc:=(isD_iff c).1 h.1
  have e:natOf (c :: r)=dval c*10 ^ r.length+natOf r:=by
   have:=natOf_append [c] r;rw[show natOf [c]=dval c by show 10*0+dval c=_;omega]at this
   exact this
  have hd:dval c=c.toNat-48:=rfl
  have e2:acc*10 ^ (c :: r).length+natOf (c :: r)=(acc*10+(c.toNat-48))*10 ^ r.length+natOf r:=by
   rw[MG,Nf,e,hd,MY,MF (10 ^ r.length) 10,←Na];omega
  have hp:0<10 ^ r.length:=Pf (by decide);have hle:acc*10+(c.toNat-48)<=(acc*10+(c.toNat-48))*10 ^ r.length:=Nat.le_mul_of_pos_right _ hp;rw[e2]at hb ⊢;have ih:=parse_dig r (acc*10+(c.toNat-48)) h.2 hb;rw[Lib.parseUint10,Mq hc,Mj (by omega),Mj (by omega),ih]
theorem atoi_num{t:Bs}(h:numOK t=true):∃n:Nat,1<=n∧n<=9999∧t=dig10 n∧Lib.atoiAll t = .ok (n:Int):=by
 obtain⟨n,h1,h2,rfl⟩:=numOK_iff.1 h;refine⟨n,h1,h2,rfl,?_⟩;have hne:=dig10_ne (n:=n) (by omega);have hall:=dig10_all n;have hval:=natOf_dig10 n;generalize dig10 n=t at *;obtain⟨c,r,rfl⟩:=OM hne;have hc:isD c=true:=by simp only[NH,MJ]at hall;exact hall.1
 have hc2:=(isD_iff c).1 hc;have hp:=parse_dig (c :: r) 0 hall (by omega);rw[O6,MV,hval]at hp;unfold Lib.atoiAll;simp only;rw[Mj (by omega),Lib.parseMag,Mj (by simp),hp];simp only;rw[Mj (by omega),Mj (by omega),Mj (by omega)]
theorem numOK_prog{t:Bs}{v:Int}(h:Lib.atoiAll t = .ok v):numOK t=(decide (1<=v) && decide (v<=9999) && (Lib.itoa v == t)):=by
 rw[QV];constructor
 ·intro k;obtain⟨n,h1,h2,rfl,h3⟩:=atoi_num k;rw[h]at h3;injection h3 with h3
  subst h3;simp only[MJ,MW,Np];refine⟨⟨by omega,by omega⟩,?_⟩;unfold Lib.itoa;rw[Mj (by omega),NP,decDigits_dig10 n h1]
 ·intro k;simp only[MJ,MW,Np]at k;refine numOK_iff.2 ⟨v.toNat,by omega,by omega,?_⟩;rw[←k.2];unfold Lib.itoa;rw[Mj (by omega),decDigits_dig10 _ (by omega)]
theorem numOK_bad{t:Bs}(h:∀v,Lib.atoiAll t ≠ .ok v):numOK t=false:=by
 cases k:numOK t with
 |false=>rfl
 |true=>obtain⟨n,_,_,_,h3⟩:=atoi_num k;exact absurd h3 (h _)
def dayOK(d:Int):Bool:=decide (-25567<=d) && decide (d<=84005)
def checkL(x:LotV):Int :=
 if !(isId x.id) || !(isName x.ins) then 23 else if !(dayOK x.acq) || !(dayOK x.opn) then 13 else if x.opn<x.acq then 8
 else if checkI x.q≠0∨checkI x.c≠0∨checkI x.u≠0 then 1
 else if valI x.q<=0∨valI x.c<0∨(x.u≠[]∧x.u≠x.q) then 2 else 0
def goAll(seen:List Bs):List LotV->Int
 |[]=>0
 |x :: r=>if checkL x≠0 then checkL x else if x.id ∈ seen then 5 else goAll (seen++[x.id]) r
def checkAllL(ls:List LotV):Int:=if 1000<ls.length then 4 else goAll [] ls
def findL:List LotV->Bs->Option Nat
 |[],_=>none
 |x :: r,id=>if x.id=id then some 0 else(findL r id).map (·+1)
def SmallL(x:LotV):Prop:=x.id.length<=1000∧x.ins.length<=1000∧x.q.length<=1000∧x.c.length<=1000∧x.u.length<=1000
def ofL(ls:List LotV)(ins:Bs):List LotV:=ls.filter (fun x=>decide (x.ins=ins))
def totQ(ls:List LotV)(ins:Bs):Int:=((ofL ls ins).map (fun x=>valI x.q)).sum
def totC(ls:List LotV)(ins:Bs):Int:=((ofL ls ins).map (fun x=>valI x.c)).sum
def Ext(w w':World):Prop:=Below w.heap.size w w'
theorem iD(w:World):Ext w w:=Below.refl _ _
theorem Ext.trans{a b c:World}(h:Ext a b)(k:Ext b c):Ext a c:=PZ h (k.mono h.size)
end
end Go.Proofs.YtaegjkllenlfpaaGreatDoor
namespace Go.RowKit
theorem Hid.qt{a b c:World}(h:Hid (Proofs.YtaegjkllenlfpaaGreatDoor.Ext a b))(x:Proofs.YtaegjkllenlfpaaGreatDoor.Ext b c):Hid (Proofs.YtaegjkllenlfpaaGreatDoor.Ext a c):=Proofs.YtaegjkllenlfpaaGreatDoor.Ext.trans h x
end Go.RowKit
namespace Go.Proofs.YtaegjkllenlfpaaGreatDoor
section
open Go.RowKit
theorem Ext.size{a b:World}(h:Ext a b):a.heap.size<=b.heap.size:=Below.size h
theorem Ext.alloc{a b:World}(h:Ext a b)(o:Obj):Ext a (b.alloc o):=Below.alloc h h.size o
theorem Id(w:World)(o:Obj):Ext w (w.alloc o):=(iD w).alloc o
theorem Ext.drew{a b:World}(h:Ext a b):Ext a b.drew:=Below.drew h
theorem Ext.drewN{a b:World}(h:Ext a b)(n:Nat):Ext a (b.drewN n):=⟨h.os,h.tape,h.output,h.size,h.block⟩
theorem Ext.setCell{a b:World}(h:Ext a b){p:Addr}(hp:a.heap.size<=p.block)(u:Value):Ext a (b.setCell p u):=Below.setCell h hp u
theorem Ext.of_alloc{w w':World}{o:Obj}(h:Ext (w.alloc o) w'):Ext w w':=(Id w o).trans h
theorem Ext.cell{w w':World}(h:Ext w w'){p:Addr}(hp:p.block<w.heap.size):w'.cell? p=w.cell? p:=Below.cell h hp
def Reads(w:World)(size:Nat)(A:Option Addr)(n:Nat)(xs:List Value):Prop :=
 xs.length=n*size∧(0<n->∃b o,A=some ⟨b,o,none⟩∧b<w.heap.size∧∀j u,xs[j]? = some u->w.cell? ⟨b,o+j,none⟩=some u)
theorem Reads.nil{w:World}{size:Nat}{A:Option Addr}:Reads w size A 0 []:=⟨by simp,fun h=>absurd h (by omega)⟩
theorem Reads.ext{w w':World}{size n:Nat}{A:Option Addr}{xs:List Value}(h:Reads w size A n xs)(he:Ext w w'):Reads w' size A n xs :=
 ⟨h.1,fun hn=>by
  obtain⟨b,o,e,hb,hc⟩:=h.2 hn;exact⟨b,o,e,M5 hb he.size,fun j u hu=>(he.cell (p:=⟨b,o+j,none⟩) hb).trans (hc j u hu)⟩⟩
theorem Reads.cell{w:World}{size n:Nat}{b o:Nat}{xs:List Value}(h:Reads w size (some ⟨b,o,none⟩) n xs){j:Nat}{u:Value}(hu:xs[j]? = some u):w.cell? ⟨b,o+j,none⟩=some u:=by
 have hj:j<xs.length:=(Nk.1 hu).1
 have hn:0<n:=by
  rcases MB n with h0|h0
  ·have:=h.1;rw[h0]at this;omega
  ·exact h0
 obtain⟨b',o',e,_,hc⟩:=h.2 hn;injection e with e;injection e with e1 e2;subst e1;subst e2
 exact hc j u hu
theorem Reads.at_{w:World}{size n:Nat}{A:Option Addr}{xs:List Value}(h:Reads w size A n xs)(hn:0<n):∃b o,A=some ⟨b,o,none⟩∧b<w.heap.size:=by
 obtain⟨b,o,e,hb,_⟩:=h.2 hn;exact⟨b,o,e,hb⟩
theorem Reads.own{w:World}{base:Nat}{e:TypeId}{size n c:Nat}{A:Option Addr}{xs:List Value}(h:w.ownsRow base e size (.slice A n c) n xs):Reads w size A n xs:=by
 refine⟨h.1,fun hn=>?_⟩;obtain⟨g,cap,hv,_,hlt⟩:=h.form hn;have hA:A=some ⟨g,0,none⟩:=by injection hv
 subst hA;refine⟨g,0,rfl,hlt,fun j u hu=>?_⟩;have:=h.cells (g:=g) rfl j u hu;unfold Addr.add at this
 rcases MB j with h0|h0
 ·subst h0;simpa using this
 ·rw[Mj (by omega)]at this;exact this
theorem Reads.lit{w:World}{t:TypeId}{size n:Nat}{xs:List Value}(hl:xs.length=n*size):Reads (w.alloc (.cells xs.toArray t)) size (some ⟨w.heap.size,0,none⟩) n xs :=
 ⟨hl,fun _=>⟨w.heap.size,0,rfl,by simp,fun j u hu=>by
  have:=World.cell?_alloc_new w xs.toArray t j;simp only[MV];rw[this];simpa using hu⟩⟩
theorem conv_bytes{P:Program}(w:World)(src dst e:TypeId)(l:Bs){u:TypeDesc}(hs:P.underlying src=some u)(hd:P.underlying dst=some (.slice e))(he:P.underlying e=some (.int .u8)) :
  ∃cap w1,(convert src dst (.string (bs l))).run P w = .ok (.slice (some ⟨w.heap.size,0,none⟩) l.length cap) w1∧Ext w w1∧w1.heap.size=w.heap.size+1 ∧
    ∀(j:Nat) (h:j<l.length),w1.cell? ⟨w.heap.size,j,none⟩=some (.int .u8 (l[j]'h).toNat):=by
 refine⟨grownCap w (bs l).size 0 e,Lib.bytesWorld w e (bs l),?_,?_,QS w e (bs l),fun j h=>?_⟩
 ·have:=Lib.run_convert_string_bytes (P:=P) w src dst e (bs l) hs hd he;rw[this,size_bs]
 ·exact⟨rfl,rfl,rfl,by rw[QS];omega,fun k hk=>RF w e (bs l) k hk⟩
 ·rw[Lib.bytesWorld_cell w e (bs l) j (by rw[size_bs];exact h),data_bs,NJ,Mr h];rfl
end
end Go.Proofs.YtaegjkllenlfpaaGreatDoor
