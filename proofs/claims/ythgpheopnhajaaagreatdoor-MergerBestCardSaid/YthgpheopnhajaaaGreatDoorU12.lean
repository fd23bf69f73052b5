/- The seat's texts, part U12. -/
import Derived.Test.YthgpheopnhajaaaGreatDoorU2
import Derived.Test.YthgpheopnhajaaaGreatDoorU7
import Derived.Test.YthgpheopnhajaaaGreatDoorU8
import Derived.Test.YthgpheopnhajaaaGreatDoorU9
import Derived.Test.YthgpheopnhajaaaGreatDoorU11
import Derived.Maps.AppendAt
import Derived.Deep.AppendLies
import Derived.RegionTactic
import Derived.OwnWalk
import Derived.BigQuiet
import Derived.Deep.RegionHeld3
set_option maxRecDepth 100000
set_option maxHeartbeats 8000000
namespace Go.Proofs.YthgpheopnhajaaaGreatDoor
section
open Go.RowKit
section
variable {P:Program} (w:World)
theorem run_append_of_nil (base:Nat) (t ty e:TypeId) (i:TypeInfo) (size:Nat) (ht:P.underlying t=some (.slice e)) (hi:P.info? e=some i)
  (v:Value) (n:Nat) (xs:List Value) (hown:w.ownsRow base e size v n xs) (c:Nat):(Builtin.append_ #[t,t] ty #[v,.slice none 0 c]).run P w = .ok v w:=by
 rcases hown.2 with ⟨rfl,rfl⟩ | ⟨g,cap,cur,rfl,_,_,hnc,_⟩
 ·simp [Builtin.append_,run_underlying ht,sizeOf,typeInfo,hi,Builtin.lenOf,Builtin.firstCells]
 ·simp [Builtin.append_,run_underlying ht,sizeOf,typeInfo,hi,Builtin.lenOf,Builtin.firstCells,hnc,storeCells]
theorem run_append_any (base:Nat) (t ty e:TypeId) (i:TypeInfo) (z:Value) (size bytes:Nat) (ht:P.underlying t=some (.slice e)) (hi:P.info? e=some i) (hz:i.zero=some z)
  (hsize:i.size=size) (hby:i.bytes=bytes) (hzs:z.cells.size=size) (hsz:0<size)
  (v:Value) (n:Nat) (xs:List Value) (hown:w.ownsRow base e size v n xs)
  (A:Option Addr) (m c:Nat) (news:List Value) (hr:Reads w size A m news) (h1:∀ u ∈ news,u.oneCell'=true)
  (h63:n+m≤maxLen) (hbytes:(n+m)*bytes≤140737488355328) (hbase:base≤w.heap.size) :
  ∃ v' w',(Builtin.append_ #[t,t] ty #[v,.slice A m c]).run P w = .ok v' w'∧w'.ownsRow base e size v' (n+m) (xs++news)∧w.grownBy w' v.ownBlock ∧
    (v'.ownBlock=v.ownBlock∨v'.ownBlock=some w.heap.size):=by
 rcases A with _ | ad
 ·have hm:m=0:=by
   rcases Nat.eq_zero_or_pos m with h0 | h0
   ·exact h0
   ·obtain ⟨b,o,h,_⟩:=hr.2 h0
    cases h
  subst hm
  have hn:news=[]:=List.eq_nil_of_length_eq_zero (by simpa using hr.1)
  subst hn
  exact ⟨v,w,run_append_of_nil w base t ty e i size ht hi v n xs hown c,by simpa using hown,World.grownBy.refl w _,.inl rfl⟩
 ·have hcells:∀ j u,news[j]? = some u→w.cell? (ad.add j)=some u:=by
   intro j u hu
   rcases Nat.eq_zero_or_pos m with h0 | h0
   ·subst h0
    have hn:news=[]:=List.eq_nil_of_length_eq_zero (by simpa using hr.1)
    subst hn
    simp at hu
   ·obtain ⟨b,o,h,_,hc⟩:=hr.2 h0
    injection h with h
    subst h
    rw [Addr.add_lit]
    exact hc j u hu
  obtain ⟨v',w',hrun,h2,h3,_,h5⟩:=run_append_own_at (P:=P) w base t ty e i z size bytes ht hi hz hsize hby hzs hsz v n xs hown ad m c news hr.1 hcells h1 h63 hbytes hbase
  exact ⟨v',w',hrun,h2,h3,h5⟩
theorem wp_append_any {o:Oper} {a:Act} {K:Act→World→Prop} {Q:Exit→Act→World→Prop} (s x:Operand) (t:TypeId)
  (ho:o.op = .call { callee := .builtin .append,args:=#[s,x],argTypes:=#[t,t] })
  (base:Nat) (e:TypeId) (i:TypeInfo) (z:Value) (size bytes:Nat) (ht:P.underlying t=some (.slice e)) (hi:P.info? e=some i) (hz:i.zero=some z)
  (hsize:i.size=size) (hby:i.bytes=bytes) (hzs:z.cells.size=size) (hsz:0<size)
  (v:Value) (n:Nat) (xs:List Value) (hs:a.eval s=v) (hown:w.ownsRow base e size v n xs)
  (A:Option Addr) (m c:Nat) (news:List Value) (hx:a.eval x = .slice A m c) (hr:Reads w size A m news) (h1:∀ u ∈ news,u.oneCell'=true)
  (h63:n+m≤maxLen) (hbytes:(n+m)*bytes≤140737488355328) (hbase:base≤w.heap.size)
  (h:∀ v' w',w'.ownsRow base e size v' (n+m) (xs++news)→w.grownBy w' v.ownBlock→(v'.ownBlock=v.ownBlock∨v'.ownBlock=some w.heap.size)→K (a.put o.dst v') w'):o.wp P a w K Q:=by
 obtain ⟨v',w',hrun,h2,h3,h4⟩:=run_append_any (P:=P) w base t o.type e i z size bytes ht hi hz hsize hby hzs hsz v n xs hown A m c news hr h1 h63 hbytes hbase
 unfold Oper.wp execOp
 simp only [ho,resolve,invoke,builtin,Sem.run_bind,Sem.run_pure,Result.andThen_ok,List.map_toArray,List.map_cons,List.map_nil,hs,hx,hrun]
 exact h v' w' h2 h3 h4
theorem wpList_append_any {ops:Array Oper} {rest:List Oper} {o:Oper} {a:Act} {Q:Exit→Act→World→Prop} (hgd:o.guard=none) (s x:Operand) (t:TypeId)
  (ho:o.op = .call { callee := .builtin .append,args:=#[s,x],argTypes:=#[t,t] })
  (base:Nat) (e:TypeId) (i:TypeInfo) (z:Value) (size bytes:Nat) (ht:P.underlying t=some (.slice e)) (hi:P.info? e=some i) (hz:i.zero=some z)
  (hsize:i.size=size) (hby:i.bytes=bytes) (hzs:z.cells.size=size) (hsz:0<size)
  (v:Value) (n:Nat) (xs:List Value) (hs:a.eval s=v) (hown:w.ownsRow base e size v n xs)
  (A:Option Addr) (m c:Nat) (news:List Value) (hx:a.eval x = .slice A m c) (hr:Reads w size A m news) (h1:∀ u ∈ news,u.oneCell'=true)
  (h63:n+m≤maxLen) (hbytes:(n+m)*bytes≤140737488355328) (hbase:base≤w.heap.size)
  (h:∀ v' w',w'.ownsRow base e size v' (n+m) (xs++news)→w.grownBy w' v.ownBlock→(v'.ownBlock=v.ownBlock∨v'.ownBlock=some w.heap.size)→wpList P ops Q rest (a.put o.dst v') w'):wpList P ops Q (o :: rest) a w :=
 wpList_plain hgd fun _ hK=>wp_append_any w s x t ho base e i z size bytes ht hi hz hsize hby hzs hsz v n xs hs hown A m c news hx hr h1 h63 hbytes hbase fun v' w' h2 h3 h4=>hK _ _ (h v' w' h2 h3 h4)
end
end
section
open Go.RowKit
attribute [local go_sem] size_bs toList_bs
def DivEndsI (q r:Nat) (w:World) (e:Ending) (w':World):Prop :=
 ∃ A1 c1 A2 c2,e = .returned (.tuple #[.slice A1 (gr q).length c1,.slice A2 (gr r).length c2])∧RdI w' A1 (gr q)∧RdI w' A2 (gr r)∧Ext w w'∧((gr q).length≤c1∧c1≤maxLen)∧((gr r).length≤c2∧c2≤maxLen)
def RdvAt (gx:List Nat) (y g:Nat) (w:World) (vr vi:Value) (wr:World):Prop :=
 ∃ (i r:Nat) (R:List Nat) (A2:Option Addr) (c2:Nat),vr = .slice A2 (gr r).length c2∧vi = .int .i64 ((i:Int)-1)∧i≤gx.length∧RowI wr g gx.length R∧SgAt gx y i r R∧RdI wr A2 (gr r)∧((gr r).length≤c2∧c2≤maxLen)∧Ext w wr
theorem len_next {r x y:Nat} (hr:r<y) (hx:x<B9):(gr (r*B9+x)).length≤(gr y).length+1:=by
 have h5:y<B9 ^ (gr y).length:=by have:=gval_lt (gr_lt y);rwa [gval_gr] at this
 apply gr_len_le
 rw [Nat.pow_succ]
 have h6:(r+1)*B9≤B9 ^ (gr y).length*B9:=Nat.mul_le_mul_right _ (by omega)
 rw [Nat.add_mul] at h6;omega
theorem len_times {y z:Nat} (hz:z<B9):(gr (y*z)).length≤(gr y).length+1:=by
 have h5:y<B9 ^ (gr y).length:=by have:=gval_lt (gr_lt y);rwa [gval_gr] at this
 apply gr_len_le
 rw [Nat.pow_succ]
 rcases Nat.eq_zero_or_pos z with h | h
 ·rw [h,Nat.mul_zero];exact Nat.mul_pos (pow_pos9 _) (by decide)
 ·exact Nat.mul_lt_mul'' h5 hz
theorem litI {W:World} {z:Int} {m:Nat} (h:z=(m:Int)):RdI (W.alloc (.cells #[.int .i64 z] 3)) (some ⟨W.heap.size,0,none⟩) [m]:=by
 subst h;exact Reads.lit rfl
theorem litIg {W:World} {z:Int} {m g:Nat} (h:z=(m:Int)) (hg:W.heap.size=g):RdI (W.alloc (.cells #[.int .i64 z] 3)) (some ⟨g,0,none⟩) [m]:=by
 subst hg;exact litI h
theorem times_lit (y m:Nat) (h0:0<m) (hB:m<B9) (A' B:Option Addr) (c':Nat) (W:World) (h1:RdI W A' (gr y)) (h2:RdI W B [m]) (hn:(gr y).length≤900000) :
  Calls Tryz.prog 227 #[.slice A' (gr y).length c',.slice B 1 1] W (OwnMagI (y*m) W):=by
 have e1:=gr_small h0 hB
 have:=refTimes y m A' B c' 1 W h1 (by rw [e1];exact h2) (by omega) (by rw [e1];simp)
 rw [e1] at this
 exact this
theorem refDivide (x y:Nat) (hy:0<y) (A A':Option Addr) (c c':Nat) (w:World) (hA:RdI w A (gr x)) (hA':RdI w A' (gr y)) (hn:(gr x).length≤900000) (hn':(gr y).length≤900000) :
  Calls Tryz.prog 310 #[.slice A (gr x).length c,.slice A' (gr y).length c'] w (DivEndsI (x / y) (x % y) w):=by
 have HA:=Lib.hid hA
 have HA':=Lib.hid hA'
 have HBX:Hid (AllB (gr x)):=Lib.hid (gr_lt x)
 have HVX:=Lib.hid (gval_gr x)
 generalize gr x=gx at *
 clear hA hA'
 obtain ⟨W,hmk,hrow,hxW⟩:=makeI gx.length _ w rfl (by omega)
 have HROW:=Lib.hid hrow
 have HXW:=Lib.hid hxW
 clear hrow hxW
 obtain ⟨i0,hI,hz0,hz1,hzb⟩:=info_parts i64Info
 have HI:=Lib.hid hI
 clear hI
 go_enter Tryz.func310,Tryz.ntmps310
 go_wp2_with fail
 clear hmk
 go_loopw [7,8,9,10,11] (fun vr vi _ _ _ wr=>RdvAt gx y w.heap.size w vr vi wr) (fun _ vi _ _ _ _=>(intOf vi+1).toNat)
 case atStart=>exact ⟨gx.length,0,_,_,0,by rw [gr_zero];rfl,rfl,Nat.le_refl _,HROW.out.ext (Ext.new _ _),SgAt.start hy _ (by simp) (by intro g hg;rw [List.mem_replicate] at hg;rw [hg.2];decide),by rw [gr_zero];exact ⟨rfl,fun h=>absurd h (by simp)⟩,by rw [gr_zero];exact ⟨by simp,by unfold maxLen;omega⟩,HXW.out.trans (Ext.new _ _)⟩
 case round =>
  clear HROW HXW
  obtain ⟨i,r,R,A2,c2,rfl,rfl,hi,hrow,hsg,hrd,hcp,hx⟩:=hrel
  have HR:=Lib.hid hrow
  have HS:=Lib.hid hsg
  have HX:=Lib.hid hx
  have HD:=Lib.hid hrd
  have HC:=Lib.hid hcp
  clear hrow hsg hx hrd hcp
  rcases Nat.eq_zero_or_pos i with h0 | h0
  ·subst h0
   obtain ⟨_,f2,f3⟩:=HS.out.fin
   rw [HVX.out] at f2 f3
   have hRl:=HS.out.len
   have HCP:=Lib.hid (HR.out.caps)
   have HTR:=Lib.hid (refTrim R (some ⟨w.heap.size,0,none⟩) gx.length wr HR.out.reads HCP.out.1 HCP.out.2 HS.out.all)
   have HRQ:Hid (RdI wr (some ⟨w.heap.size,0,none⟩) (gr (x / y))):=Lib.hid (by rw [← f3];exact HR.out.reads.cut)
   have HCQ:Hid ((gr (x / y)).length≤gx.length∧gx.length≤maxLen):=Lib.hid ⟨by rw [← f3];exact Nat.le_trans (cutL_le R) HCP.out.1,HCP.out.2⟩
   rw [f3,hRl] at HTR
   subst f2
   clear f3
   go_wp2_with fail
   refine HTR.out.mono ?_
   rintro e w9 ⟨rfl,rfl⟩
   go_wp2_with fail
   go_ret2
   exact ⟨_,_,_,_,rfl,HRQ.out,HD.out,HX.out,HCQ.out,HC.out⟩
  ·obtain ⟨j,rfl⟩:∃ j,i=j+1:=⟨i-1,by omega⟩
   have e0:((j+1:Nat):Int)-1=(j:Int):=by omega
   rw [e0]
   clear e0
   have hj:j<gx.length:=by omega
   obtain ⟨b,o,rfl,hb,hcx⟩:=(HA.out.ext HX.out).at_ hj
   rw [← at0_lt hj] at hcx
   have hbx:=HBX.out.at0 j
   have hrl:=HS.out.rb
   have HST:=Lib.hid (HS.out.step HBX.out hj)
   generalize at0 gx j=xj at *
   have hrlen:(gr r).length≤(gr y).length:=gr_len_mono (Nat.le_of_lt hrl)
   have HLT:=Lib.hid (len_next hrl hbx)
   have HCN:=Lib.hid (cut_next (r:=r) hbx)
   have HB0:=Lib.hid (BisAt.start hy (T:=r*B9+xj) (by have:=sg_bound hrl hbx;rw [Nat.mul_comm B9 y];exact this))
   have HOL:Hid ((wr.alloc (.cells #[.int .i64 xj] 3)).ownsRow wr.heap.size 3 1 (.slice (some ⟨wr.heap.size,0,none⟩) 1 1) 1 [.int .i64 (xj:Int)]):=Lib.hid ⟨rfl,.inr ⟨wr.heap.size,1,#[.int .i64 (xj:Int)],rfl,Nat.le_refl _,heap_alloc_new wr _,Nat.le_refl _,by decide,rfl,rfl⟩⟩
   go_wp2_with (at_builtin;refine wpList_append_any _ rfl (.tmp 27) (.tmp 28) 206 rfl wr.heap.size 3 i0 _ 1 8 Tryz.underlying206 HI.out hz0 hz1 hzb rfl (by decide) _ 1 [.int .i64 (xj:Int)] rfl HOL.out A2 (gr r).length c2 (icells (gr r)) rfl (HD.out.ext (Ext.new _ _)) (by intro u hu;simp only [icells,List.mem_map] at hu;obtain ⟨g,_,rfl⟩:=hu;rfl) (by unfold maxLen;omega) (by omega) (by simp) ?_;intro v3 w3 hown3 hgrow3 hob3)
   obtain ⟨A3,c3,rfl⟩:=own_slice hown3
   have HX3:Hid (Ext wr w3):=Lib.hid (Ext.grown (Ext.new _ _) hgrow3 (fun k hk=>own_base HOL.out k hk))
   have hl3:(xj :: gr r).length=1+(gr r).length:=by simp;omega
   have HRD3:Hid (RdI w3 A3 (xj :: gr r)):=Lib.hid (by unfold RdI;rw [hl3];exact Reads.own hown3)
   have hcp3:=own_cap hown3
   have HTR:=Lib.hid (refTrim (xj :: gr r) A3 c3 w3 HRD3.out (by rw [hl3];exact hcp3.1) hcp3.2 (by intro g hg;rcases List.mem_cons.1 hg with rfl | h;exact hbx;exact gr_lt r g h))
   have HR3:Hid (RdI w3 A3 (gr (r*B9+xj))):=Lib.hid (by rw [← HCN.out];exact HRD3.out.cut)
   have HC3:Hid ((gr (r*B9+xj)).length≤c3∧c3≤maxLen):=Lib.hid ⟨by rw [← HCN.out];have:=cutL_le (xj :: gr r);have:=hcp3.1;omega,hcp3.2⟩
   rw [HCN.out,hl3] at HTR
   have HA3:Hid (∀ b o,A3=some ⟨b,o,none⟩→b≠w.heap.size):=Lib.hid (fun b o e=>by subst e;have:=own_base hown3 b rfl;have:=HR.out.lt;omega)
   clear hl3 hcp3 HRD3 hown3 hgrow3 hob3 HOL HCN hcx HD HC
   replace HR:=Lib.hid (HR.out.ext HX3.out)
   replace HX:=Lib.hid (HX.out.trans HX3.out)
   generalize r*B9+xj=T at *
   refine HTR.out.mono ?_
   rintro e w9 ⟨rfl,rfl⟩
   go_wp2_with fail
   go_loopw [9,10,11] (fun vl vh _ wr'=>∃ low high:Nat,vl = .int .i64 low∧vh = .int .i64 high∧BisAt T y low high∧Ext w3 wr') (fun vl vh _ _=>(intOf vh-intOf vl).toNat)
   case atStart=>exact ⟨0,999999999,rfl,rfl,HB0.out,Ext.refl _⟩
   case round =>
    obtain ⟨low,high,rfl,rfl,hbis,hx4⟩:=hrel
    have HBI:=Lib.hid hbis
    have HX4:=Lib.hid hx4
    have htop:high<1000000000:=hbis.top
    clear hbis hx4 HB0 HTR
    by_cases hlt:low<high
    ·obtain ⟨l1,l2,l3,l4⟩:=bis_less hlt
     have HUP:=Lib.hid (fun hc=>HBI.out.up hy hc)
     have HDN:=Lib.hid (fun hc=>HBI.out.down hy hc)
     have hmI:((low:Int)+(high:Int)+1) / 2=(((low+high+1) / 2:Nat):Int):=by omega
     obtain ⟨mid,hmid⟩:∃ mid,(low+high+1) / 2=mid:=⟨_,rfl⟩
     rw [hmid] at l1 l2 l3 l4 hmI HUP HDN
     clear hmid
     have hmB:mid<B9:=show mid<1000000000 by omega
     have HLM:=Lib.hid (len_times (y:=y) hmB)
     have HTM:=Lib.hid (fun B W h1 h2=>times_lit y mid (by omega) hmB A' B c' W h1 h2 hn')
     clear hmB
     go_wp2_with fail
     refine (HTM.out _ _ (HA'.out.ext ((HX.out.trans HX4.out).alloc _)) (litI (by first | rfl | exact hmI))).mono ?_
     rintro e w5 ⟨A5,c5,rfl,hown5,hx5⟩
     have HR5:Hid (RdI w5 A5 (gr (y*mid))):=Lib.hid (Reads.own hown5)
     have HX5:=Lib.hid ((HX4.out.alloc _).trans hx5)
     clear hown5 hx5
     go_wp2_with fail
     refine (refOrder (y*mid) T A5 A3 c5 c3 _ HR5.out (HR3.out.ext HX5.out) (by have:=HLM.out;omega) (by have:=HLT.out;omega)).mono ?_
     rintro e w6 ⟨hx6,z,rfl,hcase⟩
     have HX6:=Lib.hid (HX5.out.trans hx6)
     rw [Nat.mul_comm y mid] at hcase
     by_cases hc:mid*y≤T
     ·have hz:z≤0:=by omega
      have HNX:=Lib.hid (HUP.out hc)
      clear hcase hc hx6
      go_wp2_with fail
      exact ⟨⟨mid,high,by first | rfl | rw [hmI],rfl,HNX.out,HX6.out⟩,by simp [intOf];omega⟩
     ·have hz:¬ z≤0:=by omega
      have HNX:=Lib.hid (HDN.out hc)
      clear hcase hc hx6
      go_wp2_with fail
      exact ⟨⟨low,mid-1,rfl,by first | go_num | (rw [hmI];go_num),HNX.out,HX6.out⟩,by simp [intOf];omega⟩
    ·have hlow:=HBI.out.fin hlt
     have hlB:low<B9:=show low<1000000000 by have h9:=HBI.out.hi;rw [← hlow] at h9;omega
     have hRl:=HS.out.len
     have HRw:=Lib.hid (HR.out.ext HX4.out)
     have fa:=HRw.out.frozen j
     have ca:=HRw.out.at0 (k:=j) (by omega)
     have HPUT:=Lib.hid (HRw.out.put j (low:Int) low (by omega) rfl)
     have HSX:=Lib.hid ((HX.out.trans HX4.out).setCell (p:=⟨w.heap.size,j,none⟩) (Nat.le_refl _) (.int .i64 (low:Int)))
     have HR4:=Lib.hid ((HR3.out.ext HX4.out).far (g:=w.heap.size) (i:=j) (.int .i64 (low:Int)) (fun _=>HA3.out))
     rw [← hlow] at HST
     generalize at0 R j=rj at *
     clear hRl
     rcases Nat.eq_zero_or_pos low with h0 | h0
     ·have hmod:T % y=T:=by
       have:=Nat.div_add_mod T y
       rw [← hlow,h0] at this;simpa using this
      rw [hmod] at HST
      clear hmod
      subst h0
      clear hlow
      rw [show ((0:Nat):Int)=0 from rfl] at HPUT HR4 HSX
      go_wp2_with fail
      exact ⟨⟨j,T,_,A3,c3,rfl,by first | rfl | go_num,by omega,HPUT.out,HST.out,HR4.out,HC3.out,HSX.out⟩,by simp [intOf] <;> omega⟩
     ·have HTL:=Lib.hid (fun B W h1 h2=>times_lit y low h0 hlB A' B c' W h1 h2 hn')
      have HLM:=Lib.hid (len_times (y:=y) hlB)
      have HLE:Hid (y*low≤T∧T-y*low=T % y):=Lib.hid (by rw [hlow];exact ⟨bis_le T y,bis_rest T y⟩)
      clear hlow hlB
      go_wp2_with fail
      refine (HTL.out _ _ (HA'.out.ext (HSX.out.alloc _)) (litIg rfl (by simp))).mono ?_
      rintro e w5 ⟨A5,c5,rfl,hown5,hx5⟩
      have HR5:Hid (RdI w5 A5 (gr (y*low))):=Lib.hid (Reads.own hown5)
      have HX5:=Lib.hid ((Ext.new _ _).trans hx5)
      clear hown5 hx5
      go_wp2_with fail
      refine (refMinus T (y*low) HLE.out.1 A3 A5 c3 c5 _ (HR4.out.ext HX5.out) HR5.out (by have:=HLT.out;omega) (by have:=HLM.out;omega)).mono ?_
      rintro e w6 ⟨A6,c6,rfl,hrd6,hx6,hc6,hm6⟩
      rw [HLE.out.2] at hrd6 hc6 ⊢
      have HD6:=Lib.hid (And.intro hrd6 (And.intro hc6 hm6))
      have HX6:=Lib.hid (HX5.out.trans hx6)
      clear hrd6 hx6 hc6 hm6
      go_wp2_with fail
      exact ⟨⟨j,T % y,_,A6,c6,rfl,by first | rfl | go_num,by omega,HPUT.out.ext HX6.out,HST.out,HD6.out.1,HD6.out.2,HSX.out.trans HX6.out⟩,by simp [intOf] <;> omega⟩
end
section
open Go.RowKit
attribute [local go_sem] size_bs toList_bs
theorem tdiv_bd {m n:Int} (h1 : -1000000000000000000≤m) (h2:m≤1000000000000000000) (_hn:n≠0) : -1000000000000000000≤m.tdiv n∧m.tdiv n≤1000000000000000000:=by
 have:=Int.natAbs_tdiv_le_natAbs m n
 omega
theorem tmod_bd {m n:Int} (h1 : -1000000000000000000≤n) (h2:n≤1000000000000000000) (hn:n≠0) : -1000000000000000000≤m.tmod n∧m.tmod n≤1000000000000000000:=by
 have h3:(m.tmod n).natAbs<n.natAbs:=by
  rw [Int.natAbs_tmod];exact Nat.mod_lt _ (by omega)
 omega
theorem refDiv_short (a b:Bs) (w:World) (ha:a.length≤1000000) (hb:b.length≤1000000) (h1:(mag a).length≤17) (h2:(mag b).length≤17) (h0:valI b≠0) :
  Calls Tryz.prog 285 #[.string (bs a),.string (bs b)] w fun e w'=>e = .returned (.tuple #[.string (bs (ofI (divF (valI a) (valI b)))),.string (bs (ofI (modF (valI a) (valI b)))),.int .i64 0])∧Ext w w':=by
 have HS1:=Lib.hid (fun W=>refShort a W (by omega) h1)
 have HS2:=Lib.hid (fun W=>refShort b W (by omega) h2)
 obtain ⟨ma,mb⟩:=valI_short h1
 obtain ⟨na,nb⟩:=valI_short h2
 clear h1 h2 ha hb
 generalize valI a=m at *
 generalize valI b=n at *
 have HT:=Lib.hid (div_trunc (m:=m) h0)
 generalize divF m n=zq at *
 generalize modF m n=zr at *
 obtain ⟨qa,qb⟩:=tdiv_bd ma mb h0
 obtain ⟨ra,rb⟩:=tmod_bd (m:=m) na nb h0
 have hn0:(n == 0)=false:=by rw [beq_eq_false_iff_ne];exact h0
 go_enter Tryz.func285,Tryz.ntmps285
 go_wp2_with fail
 refine (HS1.out _).mono ?_
 rintro e w1 ⟨rfl,rfl⟩
 go_wp2_with fail
 refine (HS2.out _).mono ?_
 rintro e w1 ⟨rfl,rfl⟩
 go_wp2_with fail
 go_quiet (fail)
 generalize m.tdiv n=q at *
 generalize m.tmod n=r at *
 have HD:Hid (Ext w (w.drewN nq)):=Lib.hid ((Ext.refl w).drewN nq)
 generalize w.drewN nq=W at *
 by_cases hr:r=0
 ·have g:(r != 0)=false:=by rw [bne_eq_false_iff_eq];exact hr
  obtain ⟨e1,e2⟩:=HT.out.2 (fun h=>h.1 hr)
  clear hr hn0 h0 HT HS1 HS2
  subst zq
  subst zr
  go_wp2_with fail
  refine (refIntOf q (by omega) (by omega) _).mono ?_
  rintro e w1 ⟨rfl,rfl⟩
  go_wp2_with fail
  refine (refIntOf r (by omega) (by omega) _).mono ?_
  rintro e w1 ⟨rfl,rfl⟩
  go_wp2_with fail
  go_ret3
  exact ⟨rfl,HD.out⟩
 have g:(r != 0)=true:=by rw [bne_iff_ne];exact hr
 by_cases hs:(r<0↔0≤n)
 ·obtain ⟨e1,e2⟩:=HT.out.1 ⟨hr,hs⟩
  by_cases h1:r<0
  ·have g1:decide (r<0)=true:=by rw [decide_eq_true_iff];exact h1
   have h2:=hs.1 h1
   have g2:decide (n<0)=false:=by rw [decide_eq_false_iff_not];omega
   clear hs h1 hn0 h0 HT HS1 HS2 hr
   go_wp2_with fail
   subst zq
   subst zr
   refine (refIntOf (q-1) (by omega) (by omega) _).mono ?_
   rintro e w1 ⟨rfl,rfl⟩
   go_wp2_with fail
   refine (refIntOf (r+n) (by omega) (by omega) _).mono ?_
   rintro e w1 ⟨rfl,rfl⟩
   go_wp2_with fail
   go_ret3
   exact ⟨rfl,HD.out⟩
  ·have g1:decide (r<0)=false:=by rw [decide_eq_false_iff_not];exact h1
   have h2:n<0:=by have:=mt hs.2 h1;omega
   have g2:decide (n<0)=true:=by rw [decide_eq_true_iff];exact h2
   clear hs h1 hn0 h0 HT HS1 HS2 hr
   go_wp2_with fail
   subst zq
   subst zr
   refine (refIntOf (q-1) (by omega) (by omega) _).mono ?_
   rintro e w1 ⟨rfl,rfl⟩
   go_wp2_with fail
   refine (refIntOf (r+n) (by omega) (by omega) _).mono ?_
   rintro e w1 ⟨rfl,rfl⟩
   go_wp2_with fail
   go_ret3
   exact ⟨rfl,HD.out⟩
 ·obtain ⟨e1,e2⟩:=HT.out.2 (fun h=>hs h.2)
  by_cases h1:r<0
  ·have g1:decide (r<0)=true:=by rw [decide_eq_true_iff];exact h1
   have g2:decide (n<0)=true:=by rw [decide_eq_true_iff];by_cases h2:n<0;exact h2;exact absurd ⟨fun _=>by omega,fun _=>h1⟩ hs
   clear hs h1 hn0 h0 HT HS1 HS2 hr
   subst zq
   subst zr
   go_wp2_with fail
   refine (refIntOf q (by omega) (by omega) _).mono ?_
   rintro e w1 ⟨rfl,rfl⟩
   go_wp2_with fail
   refine (refIntOf r (by omega) (by omega) _).mono ?_
   rintro e w1 ⟨rfl,rfl⟩
   go_wp2_with fail
   go_ret3
   exact ⟨rfl,HD.out⟩
  ·have g1:decide (r<0)=false:=by rw [decide_eq_false_iff_not];exact h1
   have g2:decide (n<0)=false:=by rw [decide_eq_false_iff_not];intro h2;exact hs ⟨fun h=>absurd h h1,fun h=>absurd h2 (by omega)⟩
   clear hs h1 hn0 h0 HT HS1 HS2 hr
   subst zq
   subst zr
   go_wp2_with fail
   refine (refIntOf q (by omega) (by omega) _).mono ?_
   rintro e w1 ⟨rfl,rfl⟩
   go_wp2_with fail
   refine (refIntOf r (by omega) (by omega) _).mono ?_
   rintro e w1 ⟨rfl,rfl⟩
   go_wp2_with fail
   go_ret3
   exact ⟨rfl,HD.out⟩
end
section
open Go.RowKit
attribute [local go_sem] size_bs toList_bs
structure DwAt (w:World) (g:Nat) (ba bb:Bool) (A A' A1 A2:Option Addr) (x y q r c c':Nat) (W:World):Prop where
 ext:Ext w W
 b1:Blk W g 230 #[.bool ba,.slice A (gr x).length c]
 b2:Blk W (g+1) 230 #[.bool bb,.slice A' (gr y).length c']
 ry:RdI W A' (gr y)
 rq:RdI W A1 (gr q)
 rr:RdI W A2 (gr r)
theorem DwAt.on {w:World} {g:Nat} {ba bb:Bool} {A A' A1 A2:Option Addr} {x y q r c c':Nat} {W W':World} (h:DwAt w g ba bb A A' A1 A2 x y q r c c' W) (hx:Ext W W'):DwAt w g ba bb A A' A1 A2 x y q r c c' W' :=
 ⟨h.ext.trans hx,h.b1.ext hx,h.b2.ext hx,h.ry.ext hx,h.rq.ext hx,h.rr.ext hx⟩
theorem DwAt.cells {w:World} {g:Nat} {ba bb:Bool} {A A' A1 A2:Option Addr} {x y q r c c':Nat} {W:World} (h:DwAt w g ba bb A A' A1 A2 x y q r c c' W) :
  W.cell? ⟨g,0,none⟩=some (.bool ba)∧W.cell? ⟨g,1,none⟩=some (.slice A (gr x).length c)∧W.cell? ⟨g+1,0,none⟩=some (.bool bb)∧W.cell? ⟨g+1,1,none⟩=some (.slice A' (gr y).length c') :=
 ⟨h.b1.cell 0,h.b1.cell 1,h.b2.cell 0,h.b2.cell 1⟩
theorem numCells {W:World} {g:Nat} {x y:Value} (h:Blk W g 230 #[x,y]):W.cell? ⟨g,0,none⟩=some x∧W.cell? ⟨g,1,none⟩=some y∧W.frozen? ⟨g,0,none⟩=false∧W.frozen? ⟨g,1,none⟩=false :=
 ⟨h.cell 0,h.cell 1,h.frozen 0,h.frozen 1⟩
structure MidAt (w:World) (P R G:Nat) (sp sr sg:Bool) (A1 A2 A':Option Addr) (n1 n2 y c1 c2 c':Nat) (W:World):Prop where
 ext:Ext w W
 bp:Blk W P 230 #[.bool sp,.slice A1 (gr n1).length c1]
 br:Blk W R 230 #[.bool sr,.slice A2 (gr n2).length c2]
 bg:Blk W G 230 #[.bool sg,.slice A' (gr y).length c']
 r1:RdI W A1 (gr n1)
 r2:RdI W A2 (gr n2)
 ry:RdI W A' (gr y)
section
variable {w W W':World} {P R G:Nat} {sp sr sg:Bool} {A1 A2 A':Option Addr} {n1 n2 y c1 c2 c':Nat}
theorem MidAt.on (h:MidAt w P R G sp sr sg A1 A2 A' n1 n2 y c1 c2 c' W) (hx:Ext W W'):MidAt w P R G sp sr sg A1 A2 A' n1 n2 y c1 c2 c' W' :=
 ⟨h.ext.trans hx,h.bp.ext hx,h.br.ext hx,h.bg.ext hx,h.r1.ext hx,h.r2.ext hx,h.ry.ext hx⟩
theorem MidAt.putP (h:MidAt w P R G sp sr sg A1 A2 A' n1 n2 y c1 c2 c' W) (hP:w.heap.size≤P) (hPR:P≠R) (hPG:P≠G) {A3:Option Addr} {n3:Nat} (c3:Nat) (s:Bool) (h3:RdI W A3 (gr n3)) :
  MidAt w P R G s sr sg A3 A2 A' n3 n2 y c3 c2 c' ((W.setCell ⟨P,0,none⟩ (.bool s)).setCell ⟨P,1,none⟩ (.slice A3 (gr n3).length c3)) :=
 ⟨(h.ext.setCell (p:=⟨P,0,none⟩) hP _).setCell (p:=⟨P,1,none⟩) hP _,(h.bp.set_ 0 _).set_ 1 _,(h.br.far (p:=⟨P,0,none⟩) hPR.symm _).far (p:=⟨P,1,none⟩) hPR.symm _,(h.bg.far (p:=⟨P,0,none⟩) hPG.symm _).far (p:=⟨P,1,none⟩) hPG.symm _,
   (h3.far _ (h3.box h.bp)).far _ (h3.box h.bp),(h.r2.far _ (h.r2.box h.bp)).far _ (h.r2.box h.bp),(h.ry.far _ (h.ry.box h.bp)).far _ (h.ry.box h.bp)⟩
theorem MidAt.putR (h:MidAt w P R G sp sr sg A1 A2 A' n1 n2 y c1 c2 c' W) (hR:w.heap.size≤R) (hPR:P≠R) (hRG:R≠G) {A3:Option Addr} {n3:Nat} (c3:Nat) (s:Bool) (h3:RdI W A3 (gr n3)) :
  MidAt w P R G sp s sg A1 A3 A' n1 n3 y c1 c3 c' ((W.setCell ⟨R,0,none⟩ (.bool s)).setCell ⟨R,1,none⟩ (.slice A3 (gr n3).length c3)) :=
 ⟨(h.ext.setCell (p:=⟨R,0,none⟩) hR _).setCell (p:=⟨R,1,none⟩) hR _,(h.bp.far (p:=⟨R,0,none⟩) hPR _).far (p:=⟨R,1,none⟩) hPR _,(h.br.set_ 0 _).set_ 1 _,(h.bg.far (p:=⟨R,0,none⟩) hRG.symm _).far (p:=⟨R,1,none⟩) hRG.symm _,
   (h.r1.far _ (h.r1.box h.br)).far _ (h.r1.box h.br),(h3.far _ (h3.box h.br)).far _ (h3.box h.br),(h.ry.far _ (h.ry.box h.br)).far _ (h.ry.box h.br)⟩
theorem MidAt.cells (h:MidAt w P R G sp sr sg A1 A2 A' n1 n2 y c1 c2 c' W) :
  W.cell? ⟨P,0,none⟩=some (.bool sp)∧W.cell? ⟨P,1,none⟩=some (.slice A1 (gr n1).length c1)∧W.frozen? ⟨P,0,none⟩=false∧W.frozen? ⟨P,1,none⟩=false ∧
  W.cell? ⟨R,0,none⟩=some (.bool sr)∧W.cell? ⟨R,1,none⟩=some (.slice A2 (gr n2).length c2)∧W.frozen? ⟨R,0,none⟩=false∧W.frozen? ⟨R,1,none⟩=false ∧
  W.cell? ⟨G,0,none⟩=some (.bool sg)∧W.cell? ⟨G,1,none⟩=some (.slice A' (gr y).length c') :=
 ⟨h.bp.cell 0,h.bp.cell 1,h.bp.frozen 0,h.bp.frozen 1,h.br.cell 0,h.br.cell 1,h.br.frozen 0,h.br.frozen 1,h.bg.cell 0,h.bg.cell 1⟩
end
def BothAt (w4:World) (s t:Bool) (A1 A2:Option Addr) (q r c1 c2:Nat) (p17 p18:Value) (wx:World):Prop :=
 ∃ P R,p17 = .pointer (some ⟨P,0,none⟩)∧p18 = .pointer (some ⟨R,0,none⟩)∧P≠R∧w4.heap.size≤P∧w4.heap.size≤R∧Blk wx P 230 #[.bool s,.slice A1 (gr q).length c1]∧Blk wx R 230 #[.bool t,.slice A2 (gr r).length c2]∧Ext w4 wx
theorem sgn_abs (b:Bool) (n:Nat):(sgn b n).natAbs=n:=by cases b <;> simp [sgn]
theorem addOne (q:Nat) (A1 B:Option Addr) (c1:Nat) (W:World) (h1:RdI W A1 (gr q)) (h2:RdI W B [1]) (hn:(gr q).length≤1000000) :
  Calls Tryz.prog 194 #[.agg #[.bool true,.slice A1 (gr q).length c1],.agg #[.bool true,.slice B 1 1]] W (AddEndsI (sgn true q+sgn true 1) W):=by
 have e1:gr 1=[1]:=gr_small (by decide) (by decide)
 have:=refAddN true true q 1 A1 B c1 1 W h1 (by rw [e1];exact h2) hn (by rw [e1];simp)
 rw [e1] at this
 exact this
theorem refDiv_long (a b:Bs) (w:World) (ha:a.length≤100000) (hb:b.length≤100000) (m n:Int) (is also:Bool) (hno:(is && also)=false) (hn0:also=true→n≠0) (h0:0<natOf (mag b))
  (h1:∀ w,Calls Tryz.prog 191 #[.string (bs a)] w fun e w'=>e = .returned (.tuple #[.int .i64 m,.bool is])∧w=w')
  (h2:∀ w,Calls Tryz.prog 191 #[.string (bs b)] w fun e w'=>e = .returned (.tuple #[.int .i64 n,.bool also])∧w=w') :
  Calls Tryz.prog 285 #[.string (bs a),.string (bs b)] w fun e w'=>e = .returned (.tuple #[.string (bs (ofI (divF (valI a) (valI b)))),.string (bs (ofI (modF (valI a) (valI b)))),.int .i64 0])∧Ext w w':=by
 have HR1:=Lib.hid (fun W=>refReadN a W (by omega))
 have HR2:=Lib.hid (fun W=>refReadN b W (by omega))
 obtain ⟨L,hLa,hLb,hL⟩:∃ L:Nat,a.length≤L∧b.length≤L∧L≤100000:=⟨max a.length b.length,by omega,by omega,by omega⟩
 have HL1:Hid ((gr (natOf (mag a))).length≤900000):=Lib.hid (by have:=gr_len10 (mag_pow a hLa);omega)
 have HL2:Hid ((gr (natOf (mag b))).length≤900000):=Lib.hid (by have:=gr_len10 (mag_pow b hLb);omega)
 have HLQ:Hid (∀ n,n≤natOf (mag a)+1→(gr n).length≤1000000):=Lib.hid (fun n h=>gr_le h (mag_pow a hLa) hL)
 have HLR:Hid (∀ n,n≤natOf (mag b)+1→(gr n).length≤1000000):=Lib.hid (fun n h=>gr_le h (mag_pow b hLb) hL)
 have HS:Hid ((neg a=neg b∨natOf (mag a) % natOf (mag b)=0)→ofI (sgn (neg a != neg b) (natOf (mag a) / natOf (mag b)))=ofI (divF (valI a) (valI b))∧ofI (sgn (neg b) (natOf (mag a) % natOf (mag b)))=ofI (modF (valI a) (valI b))):=Lib.hid (fun h=>by
  have:=div_same h0 h
  rw [← this.1,← this.2];exact ⟨rfl,rfl⟩)
 have HO:Hid (neg a≠neg b→natOf (mag a) % natOf (mag b)≠0→sgn (neg a != neg b) (natOf (mag a) / natOf (mag b))+sgn true 1=divF (valI a) (valI b)∧sgn (neg a) (natOf (mag a) % natOf (mag b))+sgn (neg b) (natOf (mag b))=modF (valI a) (valI b)):=Lib.hid (fun h h2=>by
  have:=div_other h0 h h2
  have hlt:natOf (mag a) % natOf (mag b)<natOf (mag b):=Nat.mod_lt _ h0
  rw [show valI a=sgn (neg a) (natOf (mag a)) from rfl,show valI b=sgn (neg b) (natOf (mag b)) from rfl,this.1,this.2]
  generalize natOf (mag a) % natOf (mag b)=r at *
  generalize natOf (mag a) / natOf (mag b)=q at *
  generalize natOf (mag b)=y at *
  clear this
  revert h
  cases neg a <;> cases neg b <;> simp [sgn] <;> omega)
 have HZQ:Hid ((divF (valI a) (valI b)).natAbs≤natOf (mag a)+1∧(modF (valI a) (valI b)).natAbs≤natOf (mag b)+1):=Lib.hid (by
  have hlt:natOf (mag a) % natOf (mag b)<natOf (mag b):=Nat.mod_lt _ h0
  have hq:=Nat.div_le_self (natOf (mag a)) (natOf (mag b))
  by_cases hc:neg a=neg b∨natOf (mag a) % natOf (mag b)=0
  ·have:=div_same h0 hc
   rw [show valI a=sgn (neg a) (natOf (mag a)) from rfl,show valI b=sgn (neg b) (natOf (mag b)) from rfl,this.1,this.2]
   generalize natOf (mag a) % natOf (mag b)=r at *
   generalize natOf (mag a) / natOf (mag b)=q at *
   clear this hc
   cases neg a <;> cases neg b <;> simp [sgn] <;> omega
  ·simp only [not_or] at hc
   have:=div_other h0 hc.1 hc.2
   rw [show valI a=sgn (neg a) (natOf (mag a)) from rfl,show valI b=sgn (neg b) (natOf (mag b)) from rfl,this.1,this.2]
   generalize natOf (mag a) % natOf (mag b)=r at *
   generalize natOf (mag a) / natOf (mag b)=q at *
   clear this hc
   cases neg b <;> simp [sgn] <;> omega)
 generalize divF (valI a) (valI b)=zq at *
 generalize modF (valI a) (valI b)=zr at *
 generalize natOf (mag a)=x at *
 generalize natOf (mag b)=y at *
 generalize neg a=ba at *
 generalize neg b=bb at *
 have H1:=Lib.hid h1
 have H2:=Lib.hid h2
 clear h1 h2 ha hb hLa hLb
 have hcase:(is=true∧also=false)∨(is=false∧also=false)∨(is=false∧also=true∧(n == 0)=false):=by cases is <;> cases also <;> simp_all
 clear hno hn0
 rcases hcase with ⟨rfl,rfl⟩ | ⟨rfl,rfl⟩ | ⟨rfl,rfl,hn0⟩
 all_goals
  go_enter Tryz.func285,Tryz.ntmps285
  go_wp2_with fail
  refine (H1.out _).mono ?_
  rintro e w1 ⟨rfl,rfl⟩
  go_wp2_with fail
  refine (H2.out _).mono ?_
  rintro e w1 ⟨rfl,rfl⟩
  go_wp2_with fail
  refine (HR1.out _).mono ?_
  rintro e w1 ⟨A,c,rfl,hrd1,hx1,hca,hcm⟩
  have HC:=Lib.hid (And.intro hca hcm)
  clear hca hcm
  go_wp2_with fail
  refine (HR2.out _).mono ?_
  rintro e w2 ⟨A',c',rfl,hrd2,hx2,_,_⟩
  have HB1:=Lib.hid ((Blk.new w2 230 #[.bool ba,.slice A (gr x).length c]).alloc (.cells #[.bool bb,.slice A' (gr y).length c'] 230))
  have HB2:=Lib.hid (blk_at (w2.alloc (.cells #[.bool ba,.slice A (gr x).length c] 230)) 230 #[.bool bb,.slice A' (gr y).length c'] (w2.heap.size+1) (by simp))
  have HX:Hid (Ext w ((w2.alloc (.cells #[.bool ba,.slice A (gr x).length c] 230)).alloc (.cells #[.bool bb,.slice A' (gr y).length c'] 230))):=Lib.hid (((hx1.trans hx2).alloc _).alloc _)
  have HD1:=Lib.hid (((hrd1.ext hx2).ext (Ext.new _ (.cells #[.bool ba,.slice A (gr x).length c] 230))).ext (Ext.new _ (.cells #[.bool bb,.slice A' (gr y).length c'] 230)))
  have HD2:=Lib.hid ((hrd2.ext (Ext.new _ (.cells #[.bool ba,.slice A (gr x).length c] 230))).ext (Ext.new _ (.cells #[.bool bb,.slice A' (gr y).length c'] 230)))
  clear hrd1 hrd2 hx1 hx2
  go_wp2_with fail
  generalize ((w2.alloc (.cells #[.bool ba,.slice A (gr x).length c] 230)).alloc (.cells #[.bool bb,.slice A' (gr y).length c'] 230))=W at *
  generalize w2.heap.size=g at *
  refine (refDivide x y h0 A A' c c' _ HD1.out HD2.out HL1.out HL2.out).mono ?_
  rintro e w4 ⟨A1,c1,A2,c2,rfl,hrq,hrr,hx,hq,hr⟩
  have H:Hid (DwAt w g ba bb A A' A1 A2 x y (x / y) (x % y) c c' w4):=Lib.hid ⟨HX.out.trans hx,HB1.out.ext hx,HB2.out.ext hx,HD2.out.ext hx,hrq,hrr⟩
  have hrl:x % y<y:=Nat.mod_lt _ h0
  have hql:x / y≤x:=Nat.div_le_self _ _
  have HLq:=Lib.hid (HLQ.out (x / y) (by omega))
  have HLr:=Lib.hid (HLR.out (x % y) (by omega))
  clear hrq hrr hx hq hr HB1 HB2 HX HD1 HD2 HR1 HR2 HL1 hrl hql HC H1 H2
  obtain ⟨x0,x1,x2,x3⟩:=H.out.cells
  go_upto_region 13 with fail
  go_cut [17,18] (fun p17 p18 wx=>BothAt w4 (ba != bb) ba A1 A2 (x / y) (x % y) c1 c2 p17 p18 wx)
  case first =>
   have H0:=Lib.hid (Ext.refl w4)
   replace H:=Lib.hid (H.out.on (Ext.refl _).drew)
   go_region_held3 (fun w'=>w'.cell? ⟨g,0,none⟩=some (.bool ba)∧w'.cell? ⟨g+1,0,none⟩=some (.bool bb))
    (go_keep)
    (fail)
   all_goals
    clear H HLq HLr HLQ HL2 HLR HZQ HS HO x0 x1 x2 x3
    go_wp2_with fail
    go_meet
    first
     |exact ⟨w4.heap.size,w4.heap.size+1,rfl,rfl,by omega,by omega,by omega,((Blk.new _ _ _).alloc _).drew,(blk_at _ _ _ _ (by simp)).drew,(((Ext.new _ _).alloc _).drew)⟩
     |exact ⟨w4.heap.size+1,w4.heap.size,rfl,rfl,by omega,by omega,by omega,(blk_at _ _ _ _ (by simp)).drew,((Blk.new _ _ _).alloc _).drew,(((Ext.new _ _).alloc _).drew)⟩
  case rest =>
   obtain ⟨P,R,rfl,rfl,hPR,hwP,hwR,hbp,hbr,hxc⟩:=hcut
   have HM:Hid (MidAt w P R (g+1) (ba != bb) ba bb A1 A2 A' (x / y) (x % y) y c1 c2 c' wc):=Lib.hid ⟨H.out.ext.trans hxc,hbp,hbr,H.out.b2.ext hxc,H.out.rq.ext hxc,H.out.rr.ext hxc,H.out.ry.ext hxc⟩
   have hP0:w.heap.size≤P:=Nat.le_trans H.out.ext.size hwP
   have hR0:w.heap.size≤R:=Nat.le_trans H.out.ext.size hwR
   have hPG:P≠g+1:=by have:=H.out.b2.lt;omega
   have hRG:R≠g+1:=by have:=H.out.b2.lt;omega
   have hg0:Blk wc g 230 #[.bool ba,.slice A (gr x).length c]:=H.out.b1.ext hxc
   have hG0:=numCells hg0
   obtain ⟨g0,_,_,_⟩:=hG0
   clear H hbp hbr hxc hwP hwR x0 x1 x2 x3 hg0
   by_cases hz:x % y=0
   ·obtain ⟨e1,e2⟩:=HS.out (.inr hz)
    have hl0:¬ 0<(gr (x % y)).length:=by rw [hz,gr_zero];decide
    have e2':ofI (sgn ba (x % y))=ofI zr:=by rw [← e2,hz];cases ba <;> cases bb <;> rfl
    have HWQ:Hid (∀ W,RdI W A1 (gr (x / y))→Calls Tryz.prog 193 #[.agg #[.bool (ba != bb),.slice A1 (gr (x / y)).length c1]] W fun e w'=>e = .returned (.string (bs (ofI zq)))∧Ext W w'):=Lib.hid (fun W h=>by
     have:=refWrite (ba != bb) (gr (x / y)) A1 c1 W h HLq.out (gr_lt _)
     rw [gval_gr,e1] at this;exact this)
    have HWR:Hid (∀ W,RdI W A2 (gr (x % y))→Calls Tryz.prog 193 #[.agg #[.bool ba,.slice A2 (gr (x % y)).length c2]] W fun e w'=>e = .returned (.string (bs (ofI zr)))∧Ext W w'):=Lib.hid (fun W h=>by
     have:=refWrite ba (gr (x % y)) A2 c2 W h HLr.out (gr_lt _)
     rw [gval_gr,e2'] at this;exact this)
    clear e1 e2 e2' HS HO HZQ
    obtain ⟨p0,p1,p2,p3,r0,r1,r2,r3,y0,y1⟩:=HM.out.cells
    clear hz
    generalize (ba != bb)=bz at *
    generalize x / y=qq at *
    generalize x % y=rr at *
    have HD:=Lib.hid (Ext.refl (wc)).drew
    replace HM:=Lib.hid (HM.out.on HD.out)
    go_wp2_with fail
    go_region_held3 (fun w'=>w'.cell? ⟨P,0,none⟩=some (.bool bz)∧w'.cell? ⟨P,1,none⟩=some (.slice A1 (gr qq).length c1)∧w'.cell? ⟨R,0,none⟩=some (.bool ba)∧w'.cell? ⟨R,1,none⟩=some (.slice A2 (gr rr).length c2))
     (go_keep)
     (first
      |(go_at_call 193;((with_reducible refine (HWQ.out _ HM.out.r1).mono ?_);rintro e w5 ⟨rfl,hx⟩);(replace HM:=Lib.hid (HM.out.on hx));(obtain ⟨u0,u1,_,_,u4,u5,_,_,_,_⟩:=HM.out.cells);clear hx)
      |(go_at_call 193;((with_reducible refine (HWR.out _ HM.out.r2).mono ?_);rintro e w6 ⟨rfl,hx⟩);(replace HM:=Lib.hid (HM.out.on hx));(obtain ⟨t0,t1,_,_,t4,t5,_,_,_,_⟩:=HM.out.cells);clear hx))
    all_goals
     go_wp2_with fail
     go_ret3
     exact ⟨rfl,HM.out.ext⟩
   ·have hl0:0<(gr (x % y)).length:=by
     rcases Nat.eq_zero_or_pos (gr (x % y)).length with e | e
     ·exact absurd (gr_inj (by rw [List.length_eq_zero_iff.1 e,gr_zero]):x % y=0) hz
     ·exact e
    by_cases hs:ba=bb
    ·obtain ⟨e1,e2⟩:=HS.out (.inl hs)
     have e2':ofI (sgn ba (x % y))=ofI zr:=by rw [hs];exact e2
     have HWQ:Hid (∀ W,RdI W A1 (gr (x / y))→Calls Tryz.prog 193 #[.agg #[.bool (ba != bb),.slice A1 (gr (x / y)).length c1]] W fun e w'=>e = .returned (.string (bs (ofI zq)))∧Ext W w'):=Lib.hid (fun W h=>by
      have:=refWrite (ba != bb) (gr (x / y)) A1 c1 W h HLq.out (gr_lt _)
      rw [gval_gr,e1] at this;exact this)
     have HWR:Hid (∀ W,RdI W A2 (gr (x % y))→Calls Tryz.prog 193 #[.agg #[.bool ba,.slice A2 (gr (x % y)).length c2]] W fun e w'=>e = .returned (.string (bs (ofI zr)))∧Ext W w'):=Lib.hid (fun W h=>by
      have:=refWrite ba (gr (x % y)) A2 c2 W h HLr.out (gr_lt _)
      rw [gval_gr,e2'] at this;exact this)
     clear e1 e2 e2' HS HO HZQ
     obtain ⟨p0,p1,p2,p3,r0,r1,r2,r3,y0,y1⟩:=HM.out.cells
     have hq:(ba == bb)=true:=by rw [hs];exact beq_self_eq_true _
     clear hz hs
     generalize (ba != bb)=bz at *
     generalize x / y=qq at *
     generalize x % y=rr at *
     have HD:=Lib.hid (Ext.refl (wc)).drew
     replace HM:=Lib.hid (HM.out.on HD.out)
     go_wp2_with fail
     go_region_held3 (fun w'=>w'.cell? ⟨P,0,none⟩=some (.bool bz)∧w'.cell? ⟨P,1,none⟩=some (.slice A1 (gr qq).length c1)∧w'.cell? ⟨R,0,none⟩=some (.bool ba)∧w'.cell? ⟨R,1,none⟩=some (.slice A2 (gr rr).length c2))
      (go_keep)
      (first
       |(go_at_call 193;((with_reducible refine (HWQ.out _ HM.out.r1).mono ?_);rintro e w5 ⟨rfl,hx⟩);(replace HM:=Lib.hid (HM.out.on hx));(obtain ⟨u0,u1,_,_,u4,u5,_,_,_,_⟩:=HM.out.cells);clear hx)
       |(go_at_call 193;((with_reducible refine (HWR.out _ HM.out.r2).mono ?_);rintro e w6 ⟨rfl,hx⟩);(replace HM:=Lib.hid (HM.out.on hx));(obtain ⟨t0,t1,_,_,t4,t5,_,_,_,_⟩:=HM.out.cells);clear hx))
     all_goals
      go_wp2_with fail
      go_ret3
      exact ⟨rfl,HM.out.ext⟩
    ·have hq:(ba == bb)=false:=by rw [beq_eq_false_iff_ne];exact hs
     have hbn:(ba != bb)=true:=by rw [bne_iff_ne];exact hs
     obtain ⟨e1,e2⟩:=HO.out hs hz
     rw [hbn] at HM e1
     have HA1:=Lib.hid (fun W B h1 h2=>addOne (x / y) A1 B c1 W h1 h2 HLq.out)
     rw [e1] at HA1
     have HA2:=Lib.hid (fun W h1 h2=>refAddN ba bb (x % y) y A2 A' c2 c' W h1 h2 HLr.out (by have:=HL2.out;omega))
     rw [e2] at HA2
     obtain ⟨p0,p1,p2,p3,r0,r1,r2,r3,y0,y1⟩:=HM.out.cells
     clear hz hs hbn e1 e2 HS HO
     generalize x / y=qq at *
     generalize x % y=rr at *
     go_wp2_with fail
     refine (HA1.out _ _ (HM.out.r1.ext (Ext.new _ _)) (litIg rfl rfl)).mono ?_
     rintro e w5 ⟨bq,nq,A3,c3,rfl,hsq,hrd,hx,_,_⟩
     replace HM:=Lib.hid ((HM.out.on (Ext.new _ _)).on hx)
     have HSQ:=Lib.hid hsq
     have HPQ:=Lib.hid (HM.out.putP hP0 hPR hPG c3 bq hrd)
     clear hsq hrd hx p0 p1 p2 p3 r0 r1 r2 r3 y0 y1 HA1
     obtain ⟨p0,p1,p2,p3,r0,r1,r2,r3,y0,y1⟩:=HM.out.cells
     go_wp2_with fail
     refine (HA2.out _ HPQ.out.r2 HPQ.out.ry).mono ?_
     rintro e w6 ⟨br,nr,A4,c4,rfl,hsr,hrd,hx,_,_⟩
     have HM2:=Lib.hid (HPQ.out.on hx)
     have hnq:nq≤x+1:=by have h9:=HZQ.out.1;rw [← HSQ.out,sgn_abs] at h9;exact h9
     have hnr:nr≤y+1:=by have h9:=HZQ.out.2;rw [← hsr,sgn_abs] at h9;exact h9
     have HWQ:Hid (∀ W,RdI W A3 (gr nq)→Calls Tryz.prog 193 #[.agg #[.bool bq,.slice A3 (gr nq).length c3]] W fun e w'=>e = .returned (.string (bs (ofI zq)))∧Ext W w'):=Lib.hid (fun W h=>by
      have:=refWrite bq (gr nq) A3 c3 W h (HLQ.out _ hnq) (gr_lt _)
      rw [gval_gr,HSQ.out] at this;exact this)
     have HWR:Hid (∀ W,RdI W A4 (gr nr)→Calls Tryz.prog 193 #[.agg #[.bool br,.slice A4 (gr nr).length c4]] W fun e w'=>e = .returned (.string (bs (ofI zr)))∧Ext W w'):=Lib.hid (fun W h=>by
      have:=refWrite br (gr nr) A4 c4 W h (HLR.out _ hnr) (gr_lt _)
      rw [gval_gr,hsr] at this;exact this)
     replace HM:=Lib.hid (HM2.out.putR hR0 hPR hRG c4 br hrd)
     clear hsr hrd hx p0 p1 p2 p3 r0 r1 r2 r3 y0 y1 HA2 hnq hnr HPQ HSQ HZQ HLQ HLR HL2
     obtain ⟨p0,p1,p2,p3,r0,r1,r2,r3,y0,y1⟩:=HM2.out.cells
     clear HM2
     go_upto_region 17 with fail
     generalize ((w6.setCell ⟨R,0,none⟩ (.bool br)).setCell ⟨R,1,none⟩ (.slice A4 (gr nr).length c4))=W9 at *
     clear p0 p1 p2 p3 r0 r1 r2 r3 y0 y1
     obtain ⟨p0,p1,p2,p3,r0,r1,r2,r3,y0,y1⟩:=HM.out.cells
     have HD:=Lib.hid (Ext.refl (W9)).drew
     replace HM:=Lib.hid (HM.out.on HD.out)
     go_wp2_with fail
     go_region_held3 (fun w'=>w'.cell? ⟨P,0,none⟩=some (.bool bq)∧w'.cell? ⟨P,1,none⟩=some (.slice A3 (gr nq).length c3)∧w'.cell? ⟨R,0,none⟩=some (.bool br)∧w'.cell? ⟨R,1,none⟩=some (.slice A4 (gr nr).length c4))
      (go_keep)
      (first
       |(go_at_call 193;((with_reducible refine (HWQ.out _ HM.out.r1).mono ?_);rintro e w5 ⟨rfl,hx⟩);(replace HM:=Lib.hid (HM.out.on hx));(obtain ⟨u0,u1,_,_,u4,u5,_,_,_,_⟩:=HM.out.cells);clear hx)
       |(go_at_call 193;((with_reducible refine (HWR.out _ HM.out.r2).mono ?_);rintro e w6 ⟨rfl,hx⟩);(replace HM:=Lib.hid (HM.out.on hx));(obtain ⟨t0,t1,_,_,t4,t5,_,_,_,_⟩:=HM.out.cells);clear hx))
     all_goals
      go_wp2_with fail
      go_ret3
      exact ⟨rfl,HM.out.ext⟩
end
section
open Go.RowKit
attribute [local go_sem] size_bs toList_bs
abbrev PureR (f:FuncId) (args:Array Value) (v:Value):Prop:=∀ W,Calls Tryz.prog f args W fun e w'=>e = .returned v∧Ext W w'
theorem refDivP (a b:Bs) (ha:a.length≤100000) (hb:b.length≤100000) (h0:valI b≠0) :
  PureR 285 #[.string (bs a),.string (bs b)] (.tuple #[.string (bs (ofI (divF (valI a) (valI b)))),.string (bs (ofI (modF (valI a) (valI b)))),.int .i64 0]):=by
 intro w
 have hy:0<natOf (mag b):=by rw [natOf_abs];omega
 by_cases h1:(mag a).length≤17
 ·by_cases h2:(mag b).length≤17
  ·exact refDiv_short a b w (by omega) (by omega) h1 h2 h0
  ·exact refDiv_long a b w ha hb (valI a) 0 true false rfl (by simp) hy (fun W=>refShort a W (by omega) h1) (fun W=>refShort_no b W (by omega) h2)
 ·by_cases h2:(mag b).length≤17
  ·exact refDiv_long a b w ha hb 0 (valI b) false true rfl (fun _=>h0) hy (fun W=>refShort_no a W (by omega) h1) (fun W=>refShort b W (by omega) h2)
  ·exact refDiv_long a b w ha hb 0 0 false false rfl (by simp) hy (fun W=>refShort_no a W (by omega) h1) (fun W=>refShort_no b W (by omega) h2)
def strVal:Value→Nat | .string s=>(valI (L s)).natAbs | _=>0
theorem strVal_of (n:Nat):strVal (.string (bs (ofI (n:Int))))=n:=by
 show (valI (L (bs (ofI (n:Int))))).natAbs=n
 rw [L_bs,valI_ofI];omega
theorem ofI_empty {z:Int} (h:z=0):(ofI z).isEmpty=true:=by rw [ofI_nil.2 h];rfl
theorem ofI_full {z:Int} (h:z≠0):(ofI z).isEmpty=false:=by
 cases h':ofI z with
 |nil=>exact absurd (ofI_nil.1 h') h
 |cons _ _=>rfl
theorem mag_ofI (l:Bs):mag l=ofI ((valI l).natAbs:Nat):=by
 rw [← natOf_abs]
 unfold ofI
 rw [if_neg (by omega),Int.natAbs_natCast,dig10_natOf (mag_all l) (mag_lead l)]
theorem refGcd (a b:Bs) (ha:a.length≤90000) (hb:b.length≤90000) :
  PureR 282 #[.string (bs a),.string (bs b)] (.string (bs (ofI (Int.gcd (valI a) (valI b):Nat)))):=by
 intro w
 have HD1:=Lib.hid (fun W=>refDigits a W (by omega))
 have HD2:=Lib.hid (fun W=>refDigits b W (by omega))
 obtain ⟨M,hMa,hMb,hM⟩:∃ M:Nat,a.length≤M∧b.length≤M∧M≤90000:=⟨max a.length b.length,by omega,by omega,by omega⟩
 have h1:=valI_lt10 hMa
 have h2:=valI_lt10 hMb
 rw [mag_ofI] at HD1 HD2
 unfold Int.gcd
 generalize (valI a).natAbs=X0 at *
 generalize (valI b).natAbs=Y0 at *
 generalize neg a=na at *
 generalize neg b=nb at *
 obtain ⟨G,hG⟩:∃ G,Nat.gcd X0 Y0=G:=⟨_,rfl⟩
 have HG:=Lib.hid hG
 rw [hG]
 obtain ⟨T,hT⟩:∃ T,10 ^ M=T:=⟨_,rfl⟩
 have HLN:Hid (∀ n:Nat,n<T→(ofI (n:Int)).length≤90001):=Lib.hid (fun n hn=>by
  have:=ofI_lt10 (z:=(n:Int)) (L:=M) (by rw [hT,Int.natAbs_natCast];exact hn)
  omega)
 rw [hT] at h1 h2
 clear hT hG hMa hMb ha hb
 go_enter Tryz.func282,Tryz.ntmps282
 go_wp2_with fail
 refine (HD1.out _).mono ?_
 rintro e w1 ⟨rfl,rfl⟩
 go_wp2_with fail
 refine (HD2.out _).mono ?_
 rintro e w1 ⟨rfl,rfl⟩
 go_wp2_with fail
 go_loopw [9,10,11,12,13] (fun x y _ _ _ wr=>∃ X Y:Nat,x = .string (bs (ofI X))∧y = .string (bs (ofI Y))∧Nat.gcd X Y=G∧X<T∧Y<T∧Ext w wr) (fun _ y _ _ _ _=>strVal y)
 case atStart=>exact ⟨X0,Y0,rfl,rfl,HG.out,h1,h2,Ext.refl _⟩
 case round =>
  clear h1 h2 HG HD1 HD2
  obtain ⟨X,Y,rfl,rfl,hg,hX,hY,hx⟩:=hrel
  have HG:=Lib.hid hg
  have HX:=Lib.hid hx
  clear hg hx
  by_cases h0:Y=0
  ·have he:=ofI_empty (z:=(Y:Int)) (by omega)
   have HGX:Hid (X=G):=Lib.hid (by have:=HG.out;rw [h0,Nat.gcd_zero_right] at this;exact this)
   clear h0
   go_wp2_with fail
   go_ret
   exact ⟨by rw [← HGX.out];rfl,HX.out⟩
  ·have he:=ofI_full (z:=(Y:Int)) (by omega)
   have hd:=refDivP (ofI (X:Int)) (ofI (Y:Int)) (by have:=HLN.out X hX;omega) (by have:=HLN.out Y hY;omega) (by rw [valI_ofI];omega)
   rw [valI_ofI,valI_ofI,modF_pos (by omega),← Int.natCast_emod] at hd
   have HD:=Lib.hid hd
   have hlt:X % Y<Y:=Nat.mod_lt _ (by omega)
   have HGN:Hid (Nat.gcd Y (X % Y)=G):=Lib.hid (by rw [← HG.out,Nat.gcd_comm X Y,Nat.gcd_rec Y X,Nat.gcd_comm])
   have HM1:=Lib.hid (strVal_of Y)
   have HM2:=Lib.hid (strVal_of (X % Y))
   clear hd h0 HG
   generalize X % Y=R at *
   generalize ofI (divF (X:Int) (Y:Int))=qq at *
   go_wp2_with fail
   refine (HD.out _).mono ?_
   rintro e w2 ⟨rfl,hx1⟩
   go_wp2_with fail
   exact ⟨⟨Y,R,rfl,rfl,HGN.out,hY,by omega,HX.out.trans hx1⟩,by rw [HM1.out,HM2.out];exact hlt⟩
theorem refOne (w:World):Calls Tryz.prog 226 #[] w fun e w'=>e = .returned (.string (bs [49]))∧w=w':=by
 have HO:=Lib.hid (fun W=>refIntOf 1 (by decide) (by decide) W)
 rw [ofI_one] at HO
 go_enter Tryz.func226,Tryz.ntmps226
 go_wp2_with fail
 refine (HO.out _).mono ?_
 rintro e w1 ⟨rfl,rfl⟩
 go_wp2_with fail
 go_ret
 exact ⟨rfl,rfl⟩
theorem refCmp0 (a:Bs) (w:World) (ha:a.length≤1000000000) :
  Calls Tryz.prog 130 #[.string (bs a),.string ⟨#[]⟩] w fun e w'=>e = .returned (.int .i64 (cmpI (valI a) 0))∧w=w':=by
 have:=refCmp a [] w ha (by simp)
 rw [valI_nil] at this
 exact this
theorem refZero (a:Bs) (w:World) (ha:a.length≤1000000000) :
  Calls Tryz.prog 225 #[.string (bs a)] w fun e w'=>e = .returned (.bool (decide (valI a=0)))∧w=w':=by
 have HO:=Lib.hid (fun W=>refCmp0 a W ha)
 have HC:Hid ((cmpI (valI a) 0 == 0)=decide (valI a=0)):=Lib.hid (by rw [Bool.eq_iff_iff];simp [cmpI_zero])
 rw [← HC.out]
 clear HC
 generalize cmpI (valI a) 0=cc at *
 go_enter Tryz.func225,Tryz.ntmps225
 go_wp2_with fail
 refine (HO.out _).mono ?_
 rintro e w1 ⟨rfl,rfl⟩
 go_wp2_with fail
 go_ret
 exact ⟨rfl,rfl⟩
end
end Go.Proofs.YthgpheopnhajaaaGreatDoor
