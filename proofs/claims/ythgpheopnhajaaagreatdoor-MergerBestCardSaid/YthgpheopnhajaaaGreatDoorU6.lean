/- The seat's texts, part U6. -/
import Derived.Test.YthgpheopnhajaaaGreatDoorU2
import Derived.Test.YthgpheopnhajaaaGreatDoorU4
import Derived.Test.YthgpheopnhajaaaGreatDoorU5
set_option maxRecDepth 100000
set_option maxHeartbeats 8000000
namespace Go.Proofs.YthgpheopnhajaaaGreatDoor
section
open Go.RowKit
attribute [local go_sem] size_bs toList_bs
theorem gr_len10 {n L:Nat} (h:n<10 ^ L):(gr n).length≤L:=gr_len_le (Nat.lt_of_lt_of_le h (Nat.pow_le_pow_left (by decide) L))
theorem natOf_mag_lt (l:Bs):natOf (mag l)<10 ^ l.length:=Nat.lt_of_lt_of_le (natOf_lt (mag_all l)) (Nat.pow_le_pow_right (by decide) (mag_le l))
theorem sum_len {b b1 b2:Bool} {n x y L:Nat} (h:sgn b n=sgn b1 x+sgn b2 y) (hx:x<10 ^ L) (hy:y<10 ^ L):(gr n).length≤L+1:=by
 refine gr_len10 ?_
 have hn:n≤x+y:=by unfold sgn at h;cases b <;> cases b1 <;> cases b2 <;> simp at h <;> omega
 rw [Nat.pow_succ];omega
theorem mag_pow (l:Bs) {L:Nat} (h:l.length≤L):natOf (mag l)<10 ^ L:=Nat.lt_of_lt_of_le (natOf_mag_lt l) (Nat.pow_le_pow_right (by decide) h)
theorem valI_short {l:Bs} (h:(mag l).length≤17) : -1000000000000000000≤valI l∧valI l≤1000000000000000000:=by
 have h1:natOf (mag l)<100000000000000000:=by
  have:=natOf_take_lt (mag_all l) h (mag l).length
  rwa [List.take_of_length_le (Nat.le_refl _)] at this
 unfold valI;split <;> omega
theorem refAdd_long (a b:Bs) (w:World) (ha:a.length≤100000) (hb:b.length≤100000) (m n:Int) (is also:Bool) (hno:(is && also)=false)
  (h1:∀ w,Calls Tryz.prog 191 #[.string (bs a)] w fun e w'=>e = .returned (.tuple #[.int .i64 m,.bool is])∧w=w')
  (h2:∀ w,Calls Tryz.prog 191 #[.string (bs b)] w fun e w'=>e = .returned (.tuple #[.int .i64 n,.bool also])∧w=w') :
  Calls Tryz.prog 121 #[.string (bs a),.string (bs b)] w fun e w'=>e = .returned (.string (bs (ofI (valI a+valI b))))∧Ext w w':=by
 have HR1:=Lib.hid (fun W=>refReadN a W (by omega))
 have HR2:=Lib.hid (fun W=>refReadN b W (by omega))
 obtain ⟨L,hLa,hLb,hL⟩:∃ L:Nat,a.length≤L∧b.length≤L∧L≤100000:=⟨max a.length b.length,by omega,by omega,by omega⟩
 have HL1:Hid ((gr (natOf (mag a))).length≤1000000):=Lib.hid (by have:=gr_len10 (mag_pow a hLa);omega)
 have HL2:Hid ((gr (natOf (mag b))).length≤1000000):=Lib.hid (by have:=gr_len10 (mag_pow b hLb);omega)
 have HP1:=Lib.hid (mag_pow a hLa)
 have HP2:=Lib.hid (mag_pow b hLb)
 have HV:Hid (valI a+valI b=sgn (neg a) (natOf (mag a))+sgn (neg b) (natOf (mag b))):=Lib.hid rfl
 generalize valI a+valI b=z at *
 generalize natOf (mag a)=x at *
 generalize natOf (mag b)=y at *
 generalize neg a=ba at *
 generalize neg b=bb at *
 have H1:=Lib.hid h1
 have H2:=Lib.hid h2
 clear h1 h2 ha hb hLa hLb
 have hcase:(is=true∧also=false)∨is=false:=by cases is <;> cases also <;> simp_all
 clear hno
 rcases hcase with ⟨rfl,rfl⟩ | rfl
 all_goals
  go_enter Tryz.func121,Tryz.ntmps121
  go_wp2_with fail
  refine (H1.out _).mono ?_
  rintro e w1 ⟨rfl,rfl⟩
  go_wp2_with fail
  refine (H2.out _).mono ?_
  rintro e w1 ⟨rfl,rfl⟩
  go_wp2_with fail
  refine (HR1.out _).mono ?_
  rintro e w2 ⟨A,c,rfl,hrd1,hx1,_,_⟩
  go_wp2_with fail
  refine (HR2.out _).mono ?_
  rintro e w3 ⟨A',c',rfl,hrd2,hx2,_,_⟩
  have HD1:=Lib.hid (hrd1.ext hx2)
  have HD2:=Lib.hid hrd2
  have HX:=Lib.hid (hx1.trans hx2)
  clear hrd1 hrd2 hx1 hx2
  go_wp2_with fail
  refine (refAddN ba bb x y A A' c c' _ HD1.out HD2.out HL1.out HL2.out).mono ?_
  rintro e w4 ⟨bs',n',A1,c1,rfl,hs,hrd,hx,_,_⟩
  have HS:=Lib.hid hs
  have HD:=Lib.hid hrd
  have HX4:=Lib.hid (HX.out.trans hx)
  have HLN:Hid ((gr n').length≤1000000):=Lib.hid (by have:=sum_len hs HP1.out HP2.out;omega)
  clear hs hrd hx
  have HW:=Lib.hid (refWrite bs' (gr n') A1 c1 w4 HD.out HLN.out (gr_lt n'))
  rw [gval_gr,HS.out,← HV.out] at HW
  go_wp2_with fail
  refine HW.out.mono ?_
  rintro e w5 ⟨rfl,hx5⟩
  go_wp2_with fail
  go_ret
  exact ⟨rfl,HX4.out.trans hx5⟩
theorem refAdd (a b:Bs) (w:World) (ha:a.length≤100000) (hb:b.length≤100000) :
  Calls Tryz.prog 121 #[.string (bs a),.string (bs b)] w fun e w'=>e = .returned (.string (bs (ofI (valI a+valI b))))∧Ext w w':=by
 by_cases h1:(mag a).length≤17
 ·by_cases h2:(mag b).length≤17
  ·have HS1:=Lib.hid (fun w=>refShort a w (by omega) h1)
   have HS2:=Lib.hid (fun w=>refShort b w (by omega) h2)
   obtain ⟨p1,p2⟩:=valI_short h1
   obtain ⟨q1,q2⟩:=valI_short h2
   have HOF:=Lib.hid (fun w=>refIntOf (valI a+valI b) (by omega) (by omega) w)
   clear h1 h2 ha hb
   generalize valI a=m at *
   generalize valI b=n at *
   go_enter Tryz.func121,Tryz.ntmps121
   go_wp2_with fail
   refine (HS1.out _).mono ?_
   rintro e w1 ⟨rfl,rfl⟩
   go_wp2_with fail
   refine (HS2.out _).mono ?_
   rintro e w1 ⟨rfl,rfl⟩
   go_wp2_with fail
   refine (HOF.out _).mono ?_
   rintro e w1 ⟨rfl,rfl⟩
   go_wp2_with fail
   go_ret
   exact ⟨rfl,Ext.refl _⟩
  ·exact refAdd_long a b w ha hb _ _ true false rfl (fun w=>refShort a w (by omega) h1) (fun w=>refShort_no b w (by omega) h2)
 ·by_cases h2:(mag b).length≤17
  ·exact refAdd_long a b w ha hb _ _ false true rfl (fun w=>refShort_no a w (by omega) h1) (fun w=>refShort b w (by omega) h2)
  ·exact refAdd_long a b w ha hb _ _ false false rfl (fun w=>refShort_no a w (by omega) h1) (fun w=>refShort_no b w (by omega) h2)
end
section
open Go.RowKit
attribute [local go_sem] size_bs toList_bs
theorem intAddS (a b:Bs) (w:World) (ha:a.length≤100000) (hb:b.length≤100000) (hE:Env w) :
  Calls Tryz.prog 21 #[.string (bs a),.string (bs b)] w fun e w'=>e = .returned (.string (bs (ofI (valI a+valI b))))∧Ext w w':=by
 have HR1:=Lib.hid (fun W=>intRead a W (by omega))
 have HR2:=Lib.hid (fun W=>intRead b W (by omega))
 obtain ⟨L,hLa,hLb,hL⟩:∃ L:Nat,a.length≤L∧b.length≤L∧L≤100000:=⟨max a.length b.length,by omega,by omega,by omega⟩
 have HL1:Hid ((gr (natOf (mag a))).length≤1000000):=Lib.hid (by have:=gr_len10 (mag_pow a hLa);omega)
 have HL2:Hid ((gr (natOf (mag b))).length≤1000000):=Lib.hid (by have:=gr_len10 (mag_pow b hLb);omega)
 have HP1:=Lib.hid (mag_pow a hLa)
 have HP2:=Lib.hid (mag_pow b hLb)
 have HE:=Lib.hid hE
 have HV:Hid (valI a+valI b=sgn (neg a) (natOf (mag a))+sgn (neg b) (natOf (mag b))):=Lib.hid rfl
 generalize valI a+valI b=z at *
 generalize natOf (mag a)=x at *
 generalize natOf (mag b)=y at *
 generalize neg a=ba at *
 generalize neg b=bb at *
 clear ha hb hLa hLb hE
 go_enter Tryz.func21,Tryz.ntmps21
 go_wp2_with fail
 refine (HR1.out _).mono ?_
 rintro e w2 ⟨A,c,rfl,hrd1,hx1,_,_⟩
 go_wp2_with fail
 refine (HR2.out _).mono ?_
 rintro e w3 ⟨A',c',rfl,hrd2,hx2,_,_⟩
 have HD1:=Lib.hid (hrd1.ext hx2)
 have HD2:=Lib.hid hrd2
 have HX:=Lib.hid (hx1.trans hx2)
 clear hrd1 hrd2 hx1 hx2
 go_wp2_with fail
 refine (intAdd ba bb x y A A' c c' _ HD1.out HD2.out HL1.out HL2.out).mono ?_
 rintro e w4 ⟨bs',n',A1,c1,rfl,hs,hrd,hx,hc1,hc2⟩
 have HD:=Lib.hid hrd
 have HX4:=Lib.hid (HX.out.trans hx)
 have HC:=Lib.hid (And.intro hc1 hc2)
 have HLN:Hid ((gr n').length≤1000000):=Lib.hid (by have:=sum_len hs HP1.out HP2.out;omega)
 have HS:Hid (txt bs' n'=ofI z):=Lib.hid (by rw [txt_ofI,hs,← HV.out])
 clear hs hrd hx hc1 hc2
 go_wp2_with fail
 refine (intText bs' n' A1 c1 _ HD.out HLN.out HC.out.1 HC.out.2 (HE.out.ext HX4.out)).mono ?_
 rintro e w5 ⟨rfl,hx5⟩
 rw [HS.out]
 go_wp2_with fail
 go_ret
 exact ⟨rfl,HX4.out.trans hx5⟩
theorem sgn_not (b:Bool) (n:Nat):sgn (!b) n = -(sgn b n):=by cases b <;> simp [sgn]
theorem intSub (a b:Bs) (w:World) (ha:a.length≤100000) (hb:b.length≤100000) (hE:Env w) :
  Calls Tryz.prog 27 #[.string (bs a),.string (bs b)] w fun e w'=>e = .returned (.string (bs (ofI (valI a-valI b))))∧Ext w w':=by
 have HR1:=Lib.hid (fun W=>intRead a W (by omega))
 have HR2:=Lib.hid (fun W=>intRead b W (by omega))
 obtain ⟨L,hLa,hLb,hL⟩:∃ L:Nat,a.length≤L∧b.length≤L∧L≤100000:=⟨max a.length b.length,by omega,by omega,by omega⟩
 have HL1:Hid ((gr (natOf (mag a))).length≤1000000):=Lib.hid (by have:=gr_len10 (mag_pow a hLa);omega)
 have HL2:Hid ((gr (natOf (mag b))).length≤1000000):=Lib.hid (by have:=gr_len10 (mag_pow b hLb);omega)
 have HP1:=Lib.hid (mag_pow a hLa)
 have HP2:=Lib.hid (mag_pow b hLb)
 have HE:=Lib.hid hE
 have HV:Hid (valI a-valI b=sgn (neg a) (natOf (mag a))+sgn (!neg b) (natOf (mag b))):=Lib.hid (by rw [sgn_not];exact Int.sub_eq_add_neg)
 generalize valI a-valI b=z at *
 generalize natOf (mag a)=x at *
 generalize natOf (mag b)=y at *
 generalize neg a=ba at *
 generalize neg b=bb at *
 clear ha hb hLa hLb hE
 go_enter Tryz.func27,Tryz.ntmps27
 go_wp2_with fail
 refine (HR2.out _).mono ?_
 rintro e w1 ⟨A',c',rfl,hrd2,hx1,_,_⟩
 have HD2:=Lib.hid hrd2
 have HX1:=Lib.hid hx1
 clear hrd2 hx1
 generalize hnb:(!bb)=nb at *
 go_wp2_with fail
 clear hnb
 have HBX:=Lib.hid (blk_at w1 124 #[.bool nb,.slice A' (gr y).length c'] w1.heap.size rfl)
 have HXW:=Lib.hid (HX1.out.trans (Ext.new w1 (.cells #[.bool nb,.slice A' (gr y).length c'] 124)))
 have HDW:=Lib.hid (HD2.out.ext (Ext.new w1 (.cells #[.bool nb,.slice A' (gr y).length c'] 124)))
 have HBW:=Lib.hid (Ext.refl (w1.alloc (.cells #[.bool nb,.slice A' (gr y).length c'] 124)))
 generalize (w1.alloc (.cells #[.bool nb,.slice A' (gr y).length c'] 124))=W at *
 generalize w1.heap.size=g at *
 have x0:=HBX.out.cell 0
 have x1:=HBX.out.cell 1
 simp only [List.getElem?_toArray,List.getElem?_cons_zero,List.getElem?_cons_succ] at x0 x1
 go_region_held3 (fun w'=>w'.cell? ⟨g,0,none⟩=some (.bool nb)∧w'.cell? ⟨g,1,none⟩=some (.slice A' (gr y).length c'))
  (go_keep)
  (first
   |(go_at_call 77;((with_reducible refine (HR1.out _).mono ?_);rintro e w2 ⟨A,c,rfl,hrd1,hx2,_,_⟩);have hbx:=HBX.out.drew.ext hx2;have u0:=hbx.cell 0;have u1:=hbx.cell 1;simp only [List.getElem?_toArray,List.getElem?_cons_zero,List.getElem?_cons_succ] at u0 u1;have HX2:=Lib.hid (HXW.out.drew.trans hx2);have HD1:=Lib.hid hrd1;have HD2W:=Lib.hid ((HDW.out.ext HBW.out.drew).ext hx2);have HBX2:=Lib.hid hbx;clear hbx hx2 hrd1)
   |(go_at_call 79;((with_reducible refine (intAdd ba nb x y A A' c c' _ HD1.out HD2W.out HL1.out HL2.out).mono ?_);rintro e w4 ⟨bs',n',A1,c1,rfl,hs,hrd,hx,hc1,hc2⟩);have HD:=Lib.hid hrd;have hbx:=HBX2.out.ext hx;have v0:=hbx.cell 0;have v1:=hbx.cell 1;simp only [List.getElem?_toArray,List.getElem?_cons_zero,List.getElem?_cons_succ] at v0 v1;have HBX4:=Lib.hid hbx;have HX4:=Lib.hid (HX2.out.trans hx);have HC:=Lib.hid (And.intro hc1 hc2);have HLN:Hid ((gr n').length≤1000000):=Lib.hid (by have:=sum_len hs HP1.out HP2.out;omega);have HS:Hid (txt bs' n'=ofI z):=Lib.hid (by rw [txt_ofI,hs,← HV.out]);clear hs hrd hx hc1 hc2 hbx)
   |(go_at_call 80;((with_reducible refine (intText bs' n' A1 c1 _ HD.out HLN.out HC.out.1 HC.out.2 (HE.out.ext HX4.out)).mono ?_);rintro e w5 ⟨rfl,hx5⟩);have hbx:=HBX4.out.ext hx5;have y0:=hbx.cell 0;have y1:=hbx.cell 1;simp only [List.getElem?_toArray,List.getElem?_cons_zero,List.getElem?_cons_succ] at y0 y1;have HX5:=Lib.hid (HX4.out.trans hx5);clear hx5 hbx))
 all_goals
  rw [HS.out]
  go_wp2_with fail
  go_ret
  exact ⟨rfl,HX5.out⟩
end
section
open Go.RowKit
def AllB (R:List Nat):Prop:=∀ g ∈ R,g<B9
theorem AllB.set {R:List Nat} (h:AllB R) (j v:Nat) (hv:v<B9):AllB (R.set j v):=fun g hg=>by
 rcases List.mem_or_eq_of_mem_set hg with h1 | h1
 ·exact h g h1
 ·rw [h1];exact hv
theorem AllB.at0 {R:List Nat} (h:AllB R) (j:Nat):at0 R j<B9:=at0_bd h j
theorem at0_set {R:List Nat} {j v:Nat} (h:j<R.length) (i:Nat):at0 (R.set j v) i=if i=j then v else at0 R i:=by
 unfold Go.Proofs.YthgpheopnhajaaaGreatDoor.at0
 rw [List.getD_eq_getElem?_getD,List.getD_eq_getElem?_getD,List.getElem?_set]
 by_cases e:j=i
 ·subst e;rw [if_pos rfl,if_pos h,if_pos rfl];rfl
 ·rw [if_neg e,if_neg (fun h=>e h.symm)]
theorem gval_append (a b:List Nat):gval (a++b)=gval a+B9 ^ a.length*gval b:=by
 induction a with
 |nil=>simp [gval]
 |cons g r ih =>
  have e1:gval ((g :: r)++b)=g+B9*gval (r++b):=rfl
  have e2:gval (g :: r)=g+B9*gval r:=rfl
  rw [e1,e2,ih,Nat.mul_add,List.length_cons,Nat.pow_succ,Nat.add_assoc,← Nat.mul_assoc,Nat.mul_comm B9 (B9 ^ r.length)]
theorem gval_set:∀ {R:List Nat} {j:Nat} (v:Nat),j<R.length→gval (R.set j v)+at0 R j*B9 ^ j=gval R+v*B9 ^ j
 |g :: r,0,v,_=>by
  have e1:gval ((g :: r).set 0 v)=v+B9*gval r:=rfl
  have e2:gval (g :: r)=g+B9*gval r:=rfl
  have e3:at0 (g :: r) 0=g:=rfl
  rw [e1,e2,e3,Nat.pow_zero];omega
 |g :: r,j+1,v,h=>by
  have ih:=gval_set (R:=r) (j:=j) v (by simpa using h)
  have e1:gval ((g :: r).set (j+1) v)=g+B9*gval (r.set j v):=rfl
  have e2:gval (g :: r)=g+B9*gval r:=rfl
  have e3:at0 (g :: r) (j+1)=at0 r j:=rfl
  rw [e1,e2,e3,Nat.pow_succ]
  have h1:B9*(gval (r.set j v)+at0 r j*B9 ^ j)=B9*(gval r+v*B9 ^ j):=by rw [ih]
  rw [Nat.mul_add,Nat.mul_add] at h1
  have h2:∀ x:Nat,x*(B9 ^ j*B9)=B9*(x*B9 ^ j):=fun x=>by rw [← Nat.mul_assoc,Nat.mul_comm]
  rw [h2,h2];omega
theorem gval_take_succ (l:List Nat) (k:Nat):gval (l.take (k+1))=gval (l.take k)+at0 l k*B9 ^ k:=by
 rcases Nat.lt_or_ge k l.length with h | h
 ·rw [List.take_succ_eq_append_getElem h,gval_snoc,at0_lt h,List.length_take,Nat.min_eq_left (by omega)]
 ·rw [at0_ge h,List.take_of_length_le (by omega),List.take_of_length_le (by omega)];simp
theorem gval_lt {R:List Nat} (h:AllB R):gval R<B9 ^ R.length:=by
 rw [gval_gsum R R.length (Nat.le_refl _)]
 exact gsum_lt (at0_bd h) _
theorem mul_step {R:List Nat} {P X c x y j:Nat} (hj:j<R.length) (hc:gval R+c*B9 ^ j=P) (hx:X=c+at0 R j+x*y) :
  gval (R.set j (X % B9))+X / B9*B9 ^ (j+1)=P+x*y*B9 ^ j:=by
 have h1:=gval_set (R:=R) (j:=j) (X % B9) hj
 have h2:=Nat.mod_add_div X B9
 rw [Nat.pow_succ]
 generalize B9 ^ j=p at *
 have h3:X / B9*(p*B9)=B9*(X / B9)*p:=by rw [Nat.mul_comm p B9,← Nat.mul_assoc,Nat.mul_comm (X / B9) B9]
 have h4:(X % B9+B9*(X / B9))*p=(c+at0 R j+x*y)*p:=by rw [h2,hx]
 rw [Nat.add_mul,Nat.add_mul,Nat.add_mul] at h4
 rw [h3,← hc]
 generalize B9*(X / B9)*p=u1 at *
 generalize X % B9*p=u2 at *
 generalize c*p=u3 at *
 generalize at0 R j*p=u4 at *
 generalize x*y*p=u5 at *
 generalize gval (R.set j (X % B9))=u6 at *
 omega
theorem mul_bound {c o x y:Nat} (hc:c<B9) (ho:o<B9) (hx:x<B9) (hy:y<B9):c+o+x*y<B9*B9∧c+o+x*y<1000000000000000000:=by
 have e:B9=1000000000:=rfl
 rw [e] at hc ho hx hy ⊢
 have h1:x*y≤999999999*999999999:=Nat.mul_le_mul (by omega) (by omega)
 generalize x*y=z at *
 omega
structure MulIn (x:Nat) (n:List Nat) (P L i k c:Nat) (R:List Nat):Prop where
 len:R.length=L
 all:AllB R
 cb:c<B9
 val:gval R+c*B9 ^ (i+k)=P+x*gval (n.take k)*B9 ^ i
 tail:∀ j,i+n.length≤j→at0 R j=0
theorem MulIn.start {x:Nat} {n R:List Nat} {P L i:Nat} (hl:R.length=L) (ha:AllB R) (hv:gval R=P) (ht:∀ j,i+n.length≤j→at0 R j=0):MulIn x n P L i 0 0 R :=
 ⟨hl,ha,by decide,by simp [gval,hv],ht⟩
theorem MulIn.step {x:Nat} {n R:List Nat} {P L i k c:Nat} (h:MulIn x n P L i k c R) (hx:x<B9) (hn:AllB n) (hk:k<n.length) (hL:i+n.length≤L) :
  MulIn x n P L i (k+1) ((c+at0 R (i+k)+x*at0 n k) / B9) (R.set (i+k) ((c+at0 R (i+k)+x*at0 n k) % B9)):=by
 have hj:i+k<R.length:=by rw [h.len];omega
 have hb:=(mul_bound h.cb (h.all.at0 (i+k)) hx (hn.at0 k)).1
 refine ⟨by rw [List.length_set];exact h.len,h.all.set _ _ (Nat.mod_lt _ (by decide)),by rw [Nat.div_lt_iff_lt_mul (by decide)];exact hb,?_,fun j hjt=>?_⟩
 ·have:=mul_step hj h.val (x:=x) (y:=at0 n k) rfl
  rw [show i+(k+1)=i+k+1 by omega,this,gval_take_succ,Nat.mul_add,Nat.add_mul,Nat.pow_add,Nat.add_assoc]
  congr 2
  rw [Nat.mul_assoc,Nat.mul_assoc,Nat.mul_assoc,Nat.mul_comm (B9 ^ k) (B9 ^ i)]
 ·rw [at0_set hj,if_neg (by omega)];exact h.tail j hjt
theorem MulIn.done {x:Nat} {n R:List Nat} {P L i c:Nat} (h:MulIn x n P L i n.length c R) (hL:i+n.length<L) :
  (R.set (i+n.length) (at0 R (i+n.length)+c)).length=L∧AllB (R.set (i+n.length) (at0 R (i+n.length)+c))∧gval (R.set (i+n.length) (at0 R (i+n.length)+c))=P+x*gval n*B9 ^ i∧∀ j,i+1+n.length≤j→at0 (R.set (i+n.length) (at0 R (i+n.length)+c)) j=0:=by
 have hj:i+n.length<R.length:=by rw [h.len];exact hL
 have h0:=h.tail (i+n.length) (Nat.le_refl _)
 rw [h0,Nat.zero_add]
 refine ⟨by rw [List.length_set];exact h.len,h.all.set _ _ h.cb,?_,fun j hjt=>?_⟩
 ·have h1:=gval_set (R:=R) (j:=i+n.length) c hj
  have h2:=h.val
  rw [h0,Nat.zero_mul,Nat.add_zero] at h1
  rw [List.take_length] at h2
  rw [h1,h2]
 ·rw [at0_set hj,if_neg (by omega)];exact h.tail j (by omega)
theorem MulIn.done0 {x:Nat} {n R:List Nat} {P L i k:Nat} (h:MulIn x n P L i k 0 R) (hk:n.length≤k):gval R=P+x*gval n*B9 ^ i:=by
 have h2:=h.val
 rw [List.take_of_length_le hk] at h2
 simpa using h2
structure MulOut (m n:List Nat) (L i:Nat) (R:List Nat):Prop where
 len:R.length=L
 all:AllB R
 val:gval R=gval (m.take i)*gval n
 tail:∀ j,i+n.length≤j→at0 R j=0
theorem MulOut.start (m n:List Nat) (L:Nat):MulOut m n L 0 (List.replicate L 0):=by
 have h0:∀ j,at0 (List.replicate L 0) j=0:=fun j=>by
  unfold Go.Proofs.YthgpheopnhajaaaGreatDoor.at0;rw [List.getD_eq_getElem?_getD,List.getElem?_replicate];split <;> rfl
 refine ⟨by simp,fun g hg=>by rw [(List.mem_replicate.1 hg).2];decide,?_,fun j _=>h0 j⟩
 rw [gval_gsum _ _ (Nat.le_refl _),gsum_congr (g:=fun _=>0) (fun k _=>h0 k)]
 have:∀ L,gsum (fun _=>0) L=0:=by
  intro L;induction L with
  |zero=>rfl
  |succ L ih=>unfold gsum;rw [ih];simp
 rw [this];simp [gval]
theorem MulOut.in_ {m n R:List Nat} {L i:Nat} (h:MulOut m n L i R) (x:Nat):MulIn x n (gval (m.take i)*gval n) L i 0 0 R:=MulIn.start h.len h.all h.val h.tail
theorem MulOut.next {m n R:List Nat} {L i:Nat} (hl:R.length=L) (ha:AllB R) (hv:gval R=gval (m.take i)*gval n+at0 m i*gval n*B9 ^ i) (ht:∀ j,i+1+n.length≤j→at0 R j=0):MulOut m n L (i+1) R:=by
 refine ⟨hl,ha,?_,ht⟩
 rw [hv,gval_take_succ,Nat.add_mul,Nat.mul_assoc,Nat.mul_assoc,Nat.mul_comm (gval n) (B9 ^ i)]
theorem MulOut.fin {m n R:List Nat} {L i:Nat} (h:MulOut m n L i R) (hi:m.length≤i):cutL R=gr (gval m*gval n):=by
 rw [cutL_gr h.all,h.val,List.take_of_length_le hi]
end
section
open Go.RowKit
theorem gval_drop (l:List Nat) (i:Nat) (h:i<l.length):gval (l.drop i)=at0 l i+B9*gval (l.drop (i+1)):=by
 rw [List.drop_eq_getElem_cons h,at0_lt h];rfl
theorem gval_split (l:List Nat) (i:Nat) (h:i≤l.length):gval l=gval (l.take i)+B9 ^ i*gval (l.drop i):=by
 conv=>lhs;rw [← List.take_append_drop i l]
 rw [gval_append,List.length_take,Nat.min_eq_left h]
structure SgAt (m:List Nat) (d i rest:Nat) (R:List Nat):Prop where
 len:R.length=m.length
 all:AllB R
 rb:rest<d
 val:gval (m.drop i)=gval (R.drop i)*d+rest
theorem SgAt.start {m:List Nat} {d:Nat} (hd:0<d) (R:List Nat) (hl:R.length=m.length) (ha:AllB R):SgAt m d m.length 0 R :=
 ⟨hl,ha,hd,by rw [List.drop_of_length_le (Nat.le_refl _),List.drop_of_length_le (by omega)];simp [gval]⟩
theorem sg_bound {rest d x:Nat} (hr:rest<d) (hx:x<B9):rest*B9+x<d*B9:=by
 have h:(rest+1)*B9≤d*B9:=Nat.mul_le_mul_right _ hr
 rw [Nat.add_mul,Nat.one_mul] at h;omega
theorem SgAt.step {m R:List Nat} {d i rest:Nat} (h:SgAt m d (i+1) rest R) (hm:AllB m) (hi:i<m.length):SgAt m d i ((rest*B9+at0 m i) % d) (R.set i ((rest*B9+at0 m i) / d)):=by
 have hd:0<d:=Nat.lt_of_le_of_lt (Nat.zero_le _) h.rb
 have hR:i<R.length:=by rw [h.len];exact hi
 have hb:=sg_bound h.rb (hm.at0 i)
 refine ⟨by rw [List.length_set];exact h.len,h.all.set _ _ (by rw [Nat.div_lt_iff_lt_mul hd,Nat.mul_comm B9 d];exact hb),Nat.mod_lt _ hd,?_⟩
 rw [gval_drop m i hi,h.val,gval_drop _ i (by rw [List.length_set];exact hR),at0_set hR,if_pos rfl,List.drop_set_of_lt (by omega)]
 have h1:=Nat.mod_add_div (rest*B9+at0 m i) d
 generalize (rest*B9+at0 m i) / d=q at *
 generalize (rest*B9+at0 m i) % d=r at *
 generalize gval (R.drop (i+1))=Q at *
 have h2:B9*(Q*d+rest)=B9*Q*d+rest*B9:=by rw [Nat.mul_add,← Nat.mul_assoc,Nat.mul_comm B9 rest]
 rw [h2,Nat.add_mul]
 have h3:d*q=q*d:=Nat.mul_comm _ _
 generalize B9*Q*d=u at *
 generalize rest*B9=v at *
 omega
theorem SgAt.fin {m R:List Nat} {d rest:Nat} (h:SgAt m d 0 rest R):gval m / d=gval R∧gval m % d=rest∧cutL R=gr (gval m / d):=by
 have hd:0<d:=Nat.lt_of_le_of_lt (Nat.zero_le _) h.rb
 have hv:gval m=gval R*d+rest:=by simpa using h.val
 have h1:gval m / d=gval R:=by
  rw [hv,Nat.mul_comm,Nat.mul_add_div hd,Nat.div_eq_of_lt h.rb];rfl
 have h2:gval m % d=rest:=by
  rw [hv,Nat.mul_comm,Nat.mul_add_mod,Nat.mod_eq_of_lt h.rb]
 exact ⟨h1,h2,by rw [cutL_gr h.all,h1]⟩
theorem drop_succ {a b:List Nat} {k:Nat} (h:a.drop k=b.drop k):a.drop (k+1)=b.drop (k+1):=by
 have e:∀ l:List Nat,l.drop (k+1)=(l.drop k).drop 1:=fun l=>by rw [List.drop_drop]
 rw [e,e,h]
structure SubIn (g:Nat) (b a0:List Nat) (i j bo:Nat) (a:List Nat):Prop where
 len:a.length=a0.length
 all:AllB a
 bb:bo<B9
 val:gval a+g*gval (b.take j)*B9 ^ i=gval a0+bo*B9 ^ (i+j)
 low:a.take i=a0.take i
 high:a.drop (i+j)=a0.drop (i+j)
theorem SubIn.start {g:Nat} {b a0:List Nat} {i:Nat} (ha:AllB a0):SubIn g b a0 i 0 0 a0:=⟨rfl,ha,by decide,by simp [gval],rfl,rfl⟩
def subLess (g x bo:Nat):Nat:=(g*x+bo) % B9
def subBo (g x bo o:Nat):Nat:=(g*x+bo) / B9+if o<subLess g x bo then 1 else 0
def subGr (g x bo o:Nat):Nat:=if o<subLess g x bo then o+B9-subLess g x bo else o-subLess g x bo
theorem sub_bounds {g x bo o:Nat} (hg:g<B9) (hx:x<B9) (hb:bo<B9) (ho:o<B9):subBo g x bo o<B9∧subGr g x bo o<B9∧g*x+bo<1000000000000000000∧subGr g x bo o+(g*x+bo)=o+subBo g x bo o*B9:=by
 have e:B9=1000000000:=rfl
 have h1:g*x≤999999999*999999999:=Nat.mul_le_mul (by omega) (by omega)
 unfold subBo subGr subLess
 rw [e] at hg hx hb ho ⊢
 generalize g*x=z at *
 split <;> omega
theorem SubIn.step {g:Nat} {b a0 a:List Nat} {i j bo:Nat} (h:SubIn g b a0 i j bo a) (hg:g<B9) (hb:AllB b) (hj:i+j<a0.length) :
  SubIn g b a0 i (j+1) (subBo g (at0 b j) bo (at0 a (i+j))) (a.set (i+j) (subGr g (at0 b j) bo (at0 a (i+j)))):=by
 obtain ⟨h1,h2,_,h4⟩:=sub_bounds hg (hb.at0 j) h.bb (h.all.at0 (i+j))
 have hl:i+j<a.length:=by rw [h.len];exact hj
 refine ⟨by rw [List.length_set];exact h.len,h.all.set _ _ h2,h1,?_,by rw [List.take_set_of_le (by omega)];exact h.low,by rw [show i+(j+1)=i+j+1 by omega,List.drop_set_of_lt (by omega),drop_succ h.high]⟩
 have h5:=gval_set (R:=a) (j:=i+j) (subGr g (at0 b j) bo (at0 a (i+j))) hl
 have h6:=h.val
 rw [gval_take_succ,Nat.mul_add,Nat.add_mul,show i+(j+1)=i+j+1 by omega,Nat.pow_succ]
 generalize hG:subGr g (at0 b j) bo (at0 a (i+j))=G at *
 generalize hB:subBo g (at0 b j) bo (at0 a (i+j))=Bo at *
 have h7:g*(at0 b j*B9 ^ j)*B9 ^ i=g*at0 b j*B9 ^ (i+j):=by
  rw [Nat.pow_add,Nat.mul_assoc,Nat.mul_assoc,Nat.mul_assoc,Nat.mul_comm (B9 ^ j) (B9 ^ i)]
 rw [h7]
 have h8:(G+(g*at0 b j+bo))*B9 ^ (i+j)=(at0 a (i+j)+Bo*B9)*B9 ^ (i+j):=by rw [h4]
 rw [Nat.add_mul,Nat.add_mul,Nat.add_mul] at h8
 have h9:Bo*(B9 ^ (i+j)*B9)=Bo*B9*B9 ^ (i+j):=by rw [Nat.mul_comm (B9 ^ (i+j)) B9,← Nat.mul_assoc]
 rw [h9]
 generalize B9 ^ (i+j)=p at *
 generalize g*gval (b.take j)*B9 ^ i=u0 at *
 generalize g*at0 b j*p=u1 at *
 generalize Bo*B9*p=u2 at *
 generalize at0 a (i+j)*p=u3 at *
 generalize G*p=u4 at *
 generalize bo*p=u5 at *
 generalize gval (a.set (i+j) G)=u6 at *
 omega
structure AddIn (b a0:List Nat) (i j ca:Nat) (a:List Nat):Prop where
 len:a.length=a0.length
 all:AllB a
 cb:ca≤1
 val:gval a+ca*B9 ^ (i+j)=gval a0+gval (b.take j)*B9 ^ i
 low:a.take i=a0.take i
 high:a.drop (i+j)=a0.drop (i+j)
theorem AddIn.start {b a0:List Nat} {i:Nat} (ha:AllB a0):AddIn b a0 i 0 0 a0:=⟨rfl,ha,by decide,by simp [gval],rfl,rfl⟩
theorem AddIn.step {b a0 a:List Nat} {i j ca:Nat} (h:AddIn b a0 i j ca a) (hb:AllB b) (hj:i+j<a0.length) :
  AddIn b a0 i (j+1) ((at0 a (i+j)+(at0 b j+ca)) / B9) (a.set (i+j) ((at0 a (i+j)+(at0 b j+ca)) % B9)):=by
 have hl:i+j<a.length:=by rw [h.len];exact hj
 have b1:=h.all.at0 (i+j)
 have b2:=hb.at0 j
 have b3:=h.cb
 refine ⟨by rw [List.length_set];exact h.len,h.all.set _ _ (Nat.mod_lt _ (by decide)),by have e:B9=1000000000:=rfl;rw [e] at b1 b2 ⊢;omega,?_,by rw [List.take_set_of_le (by omega)];exact h.low,by rw [show i+(j+1)=i+j+1 by omega,List.drop_set_of_lt (by omega),drop_succ h.high]⟩
 have h5:=gval_set (R:=a) (j:=i+j) ((at0 a (i+j)+(at0 b j+ca)) % B9) hl
 have h6:=h.val
 have h4:=Nat.mod_add_div (at0 a (i+j)+(at0 b j+ca)) B9
 rw [gval_take_succ,Nat.add_mul,show i+(j+1)=i+j+1 by omega,Nat.pow_succ]
 generalize (at0 a (i+j)+(at0 b j+ca)) % B9=G at *
 generalize (at0 a (i+j)+(at0 b j+ca)) / B9=Ca at *
 have h7:at0 b j*B9 ^ j*B9 ^ i=at0 b j*B9 ^ (i+j):=by rw [Nat.pow_add,Nat.mul_assoc,Nat.mul_comm (B9 ^ j) (B9 ^ i)]
 rw [h7]
 have h8:(G+B9*Ca)*B9 ^ (i+j)=(at0 a (i+j)+(at0 b j+ca))*B9 ^ (i+j):=by rw [h4]
 rw [Nat.add_mul,Nat.add_mul,Nat.add_mul] at h8
 have h9:Ca*(B9 ^ (i+j)*B9)=B9*Ca*B9 ^ (i+j):=by rw [Nat.mul_comm (B9 ^ (i+j)) B9,← Nat.mul_assoc,Nat.mul_comm Ca B9]
 rw [h9]
 generalize B9 ^ (i+j)=p at *
 generalize gval (b.take j)*B9 ^ i=u0 at *
 generalize at0 b j*p=u1 at *
 generalize B9*Ca*p=u2 at *
 generalize at0 a (i+j)*p=u3 at *
 generalize G*p=u4 at *
 generalize ca*p=u5 at *
 generalize gval (a.set (i+j) G)=u6 at *
 omega
theorem guess_ok {W y T D p low yl g:Nat} (hW:W=T*p+low) (hl:low<p) (hy:y=D*p+yl) (hyl:yl<p) (hD:B9≤D) (hgB:g<B9) (hgT:g*D≤T) (hmax:g=B9-1∨T<(g+1)*D) (hWy:W<B9*y):W / y≤g∧g≤W / y+1:=by
 have hp:0<p:=Nat.lt_of_le_of_lt (Nat.zero_le _) hl
 have hD0:0<D:=Nat.lt_of_lt_of_le (by decide) hD
 have hy0:0<y:=by rw [hy];exact Nat.lt_of_lt_of_le (Nat.mul_pos hD0 hp) (Nat.le_add_right _ _)
 constructor
 ·rw [← Nat.lt_succ_iff,Nat.div_lt_iff_lt_mul hy0]
  rcases hmax with h | h
  ·have e:B9=1000000000:=rfl
   have:g.succ=B9:=by omega
   rw [this];exact hWy
  ·have h1:(T+1)*p≤(g+1)*D*p:=Nat.mul_le_mul_right _ h
   have h2:(g+1)*D*p≤(g+1)*y:=by
    rw [Nat.mul_assoc];exact Nat.mul_le_mul_left _ (by rw [hy];exact Nat.le_add_right _ _)
   rw [Nat.add_mul,Nat.one_mul] at h1
   show W<(g+1)*y
   omega
 ·rcases Nat.eq_zero_or_pos g with h0 | h0
  ·rw [h0];exact Nat.zero_le _
  ·obtain ⟨z,rfl⟩:∃ z,g=z+1:=⟨g-1,by omega⟩
   suffices h:z*y≤W by
    exact Nat.succ_le_succ ((Nat.le_div_iff_mul_le hy0).2 h)
   have h1:(z+1)*D*p≤T*p:=Nat.mul_le_mul_right _ hgT
   have h2:z*yl≤D*p:=by
    have a1:z*yl≤z*p:=Nat.mul_le_mul_left _ (by omega)
    have a2:z*p≤D*p:=Nat.mul_le_mul_right _ (by omega)
    omega
   rw [hy,Nat.mul_add,← Nat.mul_assoc]
   rw [Nat.add_mul,Nat.one_mul,Nat.add_mul] at h1
   omega
structure GuessAt (top a2 b1 b2 z:Nat):Prop where
 lt:z<B9
 le:z*b1≤top
 max:z=B9-1∨top*B9+a2<(z+1)*(b1*B9+b2)
theorem GuessAt.start {top a2 b1 b2:Nat} (ha:a2<B9) (hb:0<b1):GuessAt top a2 b1 b2 (min (top / b1) (B9-1)):=by
 have e:B9=1000000000:=rfl
 refine ⟨by omega,?_,?_⟩
 ·exact Nat.le_trans (Nat.mul_le_mul_right _ (Nat.min_le_left _ _)) (Nat.div_mul_le_self _ _)
 ·rcases Nat.lt_or_ge (top / b1) (B9-1) with h | h
  ·right
   rw [Nat.min_eq_left (by omega)]
   have h1:top+1≤(top / b1+1)*b1:=by
    have h2:=Nat.div_add_mod top b1
    have h3:=Nat.mod_lt top hb
    rw [Nat.add_mul,Nat.one_mul,Nat.mul_comm];omega
   have h4:(top+1)*B9≤(top / b1+1)*b1*B9:=Nat.mul_le_mul_right _ h1
   rw [Nat.mul_add,← Nat.mul_assoc]
   rw [Nat.add_mul,Nat.one_mul] at h4
   generalize (top / b1+1)*b1*B9=u at *
   generalize (top / b1+1)*b2=v at *
   generalize top*B9=t at *
   omega
  ·left;omega
theorem guess_iff {top a2 b1 b2 z:Nat} (hle:z*b1≤top):z*b2≤(top-z*b1)*B9+a2↔z*(b1*B9+b2)≤top*B9+a2:=by
 rw [Nat.mul_add,← Nat.mul_assoc,Nat.sub_mul]
 have h:z*b1*B9≤top*B9:=Nat.mul_le_mul_right _ hle
 generalize z*b1*B9=u at *
 generalize top*B9=t at *
 generalize z*b2=v at *
 omega
theorem GuessAt.fine {top a2 b1 b2 z:Nat} (h:GuessAt top a2 b1 b2 z) (hb:b2<B9) (hc:B9≤top-z*b1∨z*b2≤(top-z*b1)*B9+a2):z*(b1*B9+b2)≤top*B9+a2:=by
 rw [← guess_iff h.le]
 rcases hc with hc | hc
 ·have h1:z*b2≤B9*B9:=Nat.mul_le_mul (Nat.le_of_lt h.lt) (Nat.le_of_lt hb)
  have h2:B9*B9≤(top-z*b1)*B9:=Nat.mul_le_mul_right _ hc
  omega
 ·exact hc
theorem GuessAt.down {top a2 b1 b2 z:Nat} (h:GuessAt top a2 b1 b2 z) (hc:¬ z*b2≤(top-z*b1)*B9+a2):0<z∧GuessAt top a2 b1 b2 (z-1):=by
 have h0:0<z:=by
  rcases Nat.eq_zero_or_pos z with h0 | h0
  ·subst h0;exact absurd (by simp) hc
  ·exact h0
 refine ⟨h0,⟨by have:=h.lt;omega,Nat.le_trans (Nat.mul_le_mul_right _ (by omega)) h.le,.inr ?_⟩⟩
 rw [guess_iff h.le] at hc
 rw [show z-1+1=z by omega];omega
end
section
open Go.RowKit
theorem at0_drop (l:List Nat) (i j:Nat):at0 (l.drop i) j=at0 l (i+j):=by
 unfold Go.Proofs.YthgpheopnhajaaaGreatDoor.at0;rw [List.getD_eq_getElem?_getD,List.getD_eq_getElem?_getD,List.getElem?_drop]
theorem AllB.drop {l:List Nat} (h:AllB l) (i:Nat):AllB (l.drop i):=fun g hg=>h g (List.mem_of_mem_drop hg)
theorem AllB.take {l:List Nat} (h:AllB l) (i:Nat):AllB (l.take i):=fun g hg=>h g (List.mem_of_mem_take hg)
theorem gval_take_lt {l:List Nat} (h:AllB l) {k:Nat} (hk:k≤l.length):gval (l.take k)<B9 ^ k:=by
 have:=gval_lt (h.take k);rwa [List.length_take,Nat.min_eq_left hk] at this
theorem pow_pos9 (k:Nat):0<B9 ^ k:=Nat.pow_pos (by decide)
structure Dvr (b:List Nat):Prop where
 two:2≤b.length
 all:AllB b
 top:0<at0 b (b.length-1)
theorem Dvr.parts {b:List Nat} (h:Dvr b):gval b=(at0 b (b.length-1)*B9+at0 b (b.length-2))*B9 ^ (b.length-2)+gval (b.take (b.length-2))∧gval (b.take (b.length-2))<B9 ^ (b.length-2):=by
 have h2:=h.two
 refine ⟨?_,gval_take_lt h.all (by omega)⟩
 have h1:gval (b.drop (b.length-2))=at0 b (b.length-1)*B9+at0 b (b.length-2):=by
  rw [gval_drop b _ (by omega),show b.length-2+1=b.length-1 by omega,gval_drop b _ (by omega),show b.length-1+1=b.length by omega,List.drop_length]
  show _+B9*(_+B9*0)=_
  rw [Nat.mul_zero,Nat.add_zero,Nat.mul_comm B9];omega
 rw [gval_split b (b.length-2) (by omega),h1,Nat.mul_comm (B9 ^ (b.length-2))];omega
theorem Dvr.pos {b:List Nat} (h:Dvr b):0<gval b:=by
 have h1:=h.parts.1
 have h2:0<(at0 b (b.length-1)*B9+at0 b (b.length-2))*B9 ^ (b.length-2):=Nat.mul_pos (by have:=h.top;have e:B9=1000000000:=rfl;rw [e];omega) (pow_pos9 _)
 omega
theorem Dvr.lt {b:List Nat} (h:Dvr b):gval b<B9 ^ b.length:=gval_lt h.all
structure KnAt (A0:Nat) (b:List Nat) (La i:Nat) (a q:List Nat):Prop where
 la:a.length=La
 alla:AllB a
 lq:q.length=La-b.length
 allq:AllB q
 val:A0=gval (q.drop i)*gval b*B9 ^ i+gval a
 rest:gval (a.drop i)<gval b
section
variable {A0 La i:Nat} {b a q:List Nat}
theorem KnAt.win (h:KnAt A0 b La (i+1) a q) (hi:i+b.length<La):gval (a.drop i)<B9*gval b:=by
 rw [gval_drop a i (by rw [h.la];omega)]
 have h1:=h.alla.at0 i
 have h2:B9*(gval (a.drop (i+1))+1)≤B9*gval b:=Nat.mul_le_mul_left _ h.rest
 rw [Nat.mul_add,Nat.mul_one] at h2;omega
theorem win_high {a:List Nat} {i k y:Nat} (_ha:AllB a) (hk:i+k<a.length) (hy:y<B9 ^ k) (hw:gval (a.drop i)<B9*y):gval (a.drop (i+k+1))=0:=by
 have h1:=gval_split (a.drop i) (k+1) (by rw [List.length_drop];omega)
 rw [List.drop_drop,show i+(k+1)=i+k+1 by omega] at h1
 have h2:B9*y<B9 ^ (k+1):=by rw [Nat.pow_succ,Nat.mul_comm];exact Nat.mul_lt_mul_of_pos_right hy (by decide)
 rcases Nat.eq_zero_or_pos (gval (a.drop (i+k+1))) with h0 | h0
 ·exact h0
 ·exfalso
  have h3:B9 ^ (k+1)*1≤B9 ^ (k+1)*gval (a.drop (i+k+1)):=Nat.mul_le_mul_left _ h0
  omega
theorem win_top {a:List Nat} {i k:Nat} (hk:i+k<a.length) (hz:gval (a.drop (i+k+1))=0):gval (a.drop i)=gval ((a.drop i).take k)+at0 a (i+k)*B9 ^ k:=by
 rw [gval_split (a.drop i) k (by rw [List.length_drop];omega),List.drop_drop,gval_drop a (i+k) hk,hz]
 rw [Nat.mul_zero,Nat.add_zero,Nat.mul_comm (B9 ^ k)]
theorem KnAt.three (h:KnAt A0 b La (i+1) a q) (hb:Dvr b) (hi:i+b.length<La) :
  gval (a.drop i)=((at0 a (i+b.length)*B9+at0 a (i+b.length-1))*B9+at0 a (i+b.length-2))*B9 ^ (b.length-2)+gval ((a.drop i).take (b.length-2))∧gval ((a.drop i).take (b.length-2))<B9 ^ (b.length-2):=by
 have h2:=hb.two
 have hla:=h.la
 refine ⟨?_,gval_take_lt (h.alla.drop i) (by rw [List.length_drop];omega)⟩
 have hz:=win_high h.alla (by rw [hla];exact hi) hb.lt (h.win hi)
 have h1:gval (a.drop (i+(b.length-2)))=(at0 a (i+b.length)*B9+at0 a (i+b.length-1))*B9+at0 a (i+b.length-2):=by
  rw [gval_drop a _ (by omega),show i+(b.length-2)+1=i+b.length-1 by omega,gval_drop a _ (by omega),show i+b.length-1+1=i+b.length by omega,gval_drop a _ (by omega),hz,show i+(b.length-2)=i+b.length-2 by omega,Nat.mul_zero,Nat.add_zero]
  generalize at0 a (i+b.length)=x
  generalize at0 a (i+b.length-1)=y
  generalize at0 a (i+b.length-2)=z
  have e:B9=1000000000:=rfl
  rw [e];omega
 rw [gval_split (a.drop i) (b.length-2) (by rw [List.length_drop];omega),List.drop_drop,h1,Nat.mul_comm (B9 ^ (b.length-2))];omega
theorem KnAt.guess (h:KnAt A0 b La (i+1) a q) (hb:Dvr b) (hi:i+b.length<La) {z:Nat} (hg:GuessAt (at0 a (i+b.length)*B9+at0 a (i+b.length-1)) (at0 a (i+b.length-2)) (at0 b (b.length-1)) (at0 b (b.length-2)) z)
  (hf:z*(at0 b (b.length-1)*B9+at0 b (b.length-2))≤(at0 a (i+b.length)*B9+at0 a (i+b.length-1))*B9+at0 a (i+b.length-2)):gval (a.drop i) / gval b≤z∧z≤gval (a.drop i) / gval b+1:=by
 obtain ⟨w1,w2⟩:=h.three hb hi
 obtain ⟨y1,y2⟩:=hb.parts
 exact guess_ok w1 w2 y1 y2 (by have:=hb.top;have e:B9=1000000000:=rfl;rw [e];omega) hg.lt hf hg.max (h.win hi)
theorem KnAt.put (h:KnAt A0 b La (i+1) a q) (_hb:Dvr b) (hi:i+b.length<La) {a':List Nat} {e:Nat} (hl:a'.length=La) (ha:AllB a') (he:e<B9) (hlow:a'.take i=a.take i) (hv:gval (a'.drop i)+e*gval b=gval (a.drop i)) (hr:gval (a'.drop i)<gval b):KnAt A0 b La i a' (q.set i e):=by
 have hla:=h.la
 have hlq:=h.lq
 have hq:i<q.length:=by omega
 refine ⟨hl,ha,by rw [List.length_set];exact hlq,h.allq.set _ _ he,?_,hr⟩
 have h1:=gval_split a i (by omega)
 have h2:=gval_split a' i (by omega)
 rw [hlow] at h2
 rw [gval_drop _ i (by rw [List.length_set];exact hq),at0_set hq,if_pos rfl,List.drop_set_of_lt (by omega),h.val,h1,h2,← hv,Nat.pow_succ]
 generalize gval (q.drop (i+1))=Q at *
 generalize gval b=y at *
 generalize gval (a.take i)=L at *
 generalize gval (a'.drop i)=W' at *
 generalize B9 ^ i=p at *
 have e1:(e+B9*Q)*y*p=p*(e*y)+Q*y*(p*B9):=by
  rw [Nat.add_mul,Nat.add_mul,Nat.mul_comm (e*y) p]
  congr 1
  rw [Nat.mul_comm B9 Q,Nat.mul_assoc,Nat.mul_assoc,Nat.mul_assoc,Nat.mul_left_comm B9 y p,Nat.mul_comm B9 p]
 rw [e1,Nat.mul_add];omega
end
theorem pow_cancel {p x y:Nat} (hp:0<p) {L:Nat} (h:L+p*x=L+p*y):x=y:=Nat.eq_of_mul_eq_mul_left hp (by omega)
theorem KnAt.right {A0 La i:Nat} {b a q a1:List Nat} {g bo:Nat} (h:KnAt A0 b La (i+1) a q) (hb:Dvr b) (hi:i+b.length<La) (hs:SubIn g b a i b.length bo a1) (hg:g<B9) (hge:gval (a.drop i) / gval b≤g) (ht:bo≤at0 a (i+b.length)) :
  KnAt A0 b La i (a1.set (i+b.length) (at0 a (i+b.length)-bo)) (q.set i g)∧at0 a1 (i+b.length)=at0 a (i+b.length):=by
 have hla:=h.la
 have hl1:i+b.length<a1.length:=by rw [hs.len,hla];exact hi
 have hat:at0 a1 (i+b.length)=at0 a (i+b.length):=by
  have h1:=at0_drop a1 (i+b.length) 0
  have h2:=at0_drop a (i+b.length) 0
  rw [hs.high] at h1
  rw [Nat.add_zero] at h1 h2;rw [← h1,← h2]
 have hb0:=hb.pos
 have e1:=gval_set (R:=a1) (j:=i+b.length) (at0 a (i+b.length)-bo) hl1
 have e2:=hs.val
 rw [List.take_length] at e2
 rw [hat] at e1
 have hlow:(a1.set (i+b.length) (at0 a (i+b.length)-bo)).take i=a.take i:=by rw [List.take_set_of_le (by omega)];exact hs.low
 have s1:=gval_split a i (by omega)
 have s2:=gval_split (a1.set (i+b.length) (at0 a (i+b.length)-bo)) i (by rw [List.length_set];omega)
 rw [hlow] at s2
 have key:gval ((a1.set (i+b.length) (at0 a (i+b.length)-bo)).drop i)+g*gval b=gval (a.drop i):=by
  apply pow_cancel (pow_pos9 i) (L:=gval (a.take i))
  rw [Nat.mul_add]
  have c1:(at0 a (i+b.length)-bo)*B9 ^ (i+b.length)+bo*B9 ^ (i+b.length)=at0 a (i+b.length)*B9 ^ (i+b.length):=by rw [← Nat.add_mul,Nat.sub_add_cancel ht]
  have c2:B9 ^ i*(g*gval b)=g*gval b*B9 ^ i:=Nat.mul_comm _ _
  rw [c2]
  generalize g*gval b*B9 ^ i=u1 at *
  generalize at0 a (i+b.length)*B9 ^ (i+b.length)=u2 at *
  generalize (at0 a (i+b.length)-bo)*B9 ^ (i+b.length)=u3 at *
  generalize bo*B9 ^ (i+b.length)=u4 at *
  generalize gval (a1.set (i+b.length) (at0 a (i+b.length)-bo))=u5 at *
  generalize B9 ^ i*gval ((a1.set (i+b.length) (at0 a (i+b.length)-bo)).drop i)=u6 at *
  omega
 have hq:g=gval (a.drop i) / gval b:=by
  apply Nat.le_antisymm
  ·exact (Nat.le_div_iff_mul_le hb0).2 (by omega)
  ·exact hge
 refine ⟨h.put hb hi (by rw [List.length_set,hs.len,hla]) (hs.all.set _ _ (by have:=h.alla.at0 (i+b.length);omega)) hg hlow key ?_,hat⟩
 have hm:=Nat.mod_lt (gval (a.drop i)) hb0
 have hd:=Nat.div_add_mod (gval (a.drop i)) (gval b)
 rw [← hq,Nat.mul_comm] at hd
 omega
theorem KnAt.wrong {A0 La i:Nat} {b a q a1 a2:List Nat} {g bo ca:Nat} (h:KnAt A0 b La (i+1) a q) (hb:Dvr b) (hi:i+b.length<La) (hs:SubIn g b a i b.length bo a1) (hd:AddIn b a1 i b.length ca a2) (hg:g<B9) (hle:g≤gval (a.drop i) / gval b+1) (ht:at0 a (i+b.length)<bo) :
  0<g∧at0 a (i+b.length)+ca=bo∧at0 a2 (i+b.length)=at0 a (i+b.length)∧KnAt A0 b La i (a2.set (i+b.length) 0) (q.set i (g-1)):=by
 have hla:=h.la
 have hl1:i+b.length<a1.length:=by rw [hs.len,hla];exact hi
 have hl2:i+b.length<a2.length:=by rw [hd.len];exact hl1
 have hb0:=hb.pos
 have hbl:=hb.lt
 have hP:=pow_pos9 b.length
 have hz:=win_high h.alla (by rw [hla];exact hi) hb.lt (h.win hi)
 have hhigh:a2.drop (i+b.length)=a.drop (i+b.length):=hd.high.trans hs.high
 have at1:at0 a1 (i+b.length)=at0 a (i+b.length):=by
  have h1:=at0_drop a1 (i+b.length) 0
  have h2:=at0_drop a (i+b.length) 0
  rw [hs.high] at h1
  rw [Nat.add_zero] at h1 h2;rw [← h1,← h2]
 have at2:at0 a2 (i+b.length)=at0 a (i+b.length):=by
  have h1:=at0_drop a2 (i+b.length) 0
  have h2:=at0_drop a (i+b.length) 0
  rw [hhigh] at h1
  rw [Nat.add_zero] at h1 h2;rw [← h1,← h2]
 have hz1:gval (a1.drop (i+b.length+1))=0:=by rw [drop_succ hs.high];exact hz
 have hz2:gval (a2.drop (i+b.length+1))=0:=by rw [drop_succ hhigh];exact hz
 have t0:=win_top (a:=a) (i:=i) (k:=b.length) (by omega) hz
 have t1:=win_top (a:=a1) (i:=i) (k:=b.length) hl1 hz1
 have t2:=win_top (a:=a2) (i:=i) (k:=b.length) hl2 hz2
 rw [at1] at t1
 rw [at2] at t2
 have v1:gval ((a1.drop i).take b.length)<B9 ^ b.length:=gval_take_lt (hs.all.drop i) (by rw [List.length_drop];omega)
 have v2:gval ((a2.drop i).take b.length)<B9 ^ b.length:=gval_take_lt (hd.all.drop i) (by rw [List.length_drop];omega)
 have E1:gval (a1.drop i)+g*gval b=gval (a.drop i)+bo*B9 ^ b.length:=by
  apply pow_cancel (pow_pos9 i) (L:=gval (a.take i))
  have s0:=gval_split a i (by omega)
  have s1:=gval_split a1 i (by omega)
  have e2:=hs.val
  rw [List.take_length,Nat.pow_add] at e2
  rw [hs.low] at s1
  rw [Nat.mul_add,Nat.mul_add]
  have c2:B9 ^ i*(g*gval b)=g*gval b*B9 ^ i:=Nat.mul_comm _ _
  have c3:B9 ^ i*(bo*B9 ^ b.length)=bo*(B9 ^ i*B9 ^ b.length):=Nat.mul_left_comm _ _ _
  rw [c2,c3];omega
 have E2:gval (a2.drop i)+ca*B9 ^ b.length=gval (a1.drop i)+gval b:=by
  apply pow_cancel (pow_pos9 i) (L:=gval (a.take i))
  have s1:=gval_split a1 i (by omega)
  have s2:=gval_split a2 i (by omega)
  have e2:=hd.val
  rw [List.take_length,Nat.pow_add] at e2
  rw [hs.low] at s1
  rw [hd.low,hs.low] at s2
  rw [Nat.mul_add,Nat.mul_add]
  have c2:B9 ^ i*gval b=gval b*B9 ^ i:=Nat.mul_comm _ _
  have c3:B9 ^ i*(ca*B9 ^ b.length)=ca*(B9 ^ i*B9 ^ b.length):=Nat.mul_left_comm _ _ _
  rw [c2,c3];omega
 have hbo:(at0 a (i+b.length)+1)*B9 ^ b.length≤bo*B9 ^ b.length:=Nat.mul_le_mul_right _ ht
 rw [Nat.add_mul,Nat.one_mul] at hbo
 have hgt:gval (a.drop i)<g*gval b:=by
  rw [t0];rw [t0,t1] at E1;omega
 have hg1:g=gval (a.drop i) / gval b+1:=by
  apply Nat.le_antisymm hle
  have:gval (a.drop i) / gval b<g:=(Nat.div_lt_iff_lt_mul hb0).2 hgt
  exact this
 have hg0:0<g:=by rw [hg1];exact Nat.succ_pos _
 obtain ⟨z,rfl⟩:∃ z,g=z+1:=⟨g-1,by omega⟩
 have hz3:z=gval (a.drop i) / gval b:=Nat.succ.inj hg1
 have hm:=Nat.mod_lt (gval (a.drop i)) hb0
 have hdm:=Nat.div_add_mod (gval (a.drop i)) (gval b)
 rw [← hz3,Nat.mul_comm] at hdm
 rw [Nat.add_mul,Nat.one_mul] at E1
 generalize hr:gval (a.drop i) % gval b=r at *
 have E3:gval ((a2.drop i).take b.length)+(at0 a (i+b.length)+ca)*B9 ^ b.length=r+bo*B9 ^ b.length:=by
  rw [Nat.add_mul];omega
 have htc:at0 a (i+b.length)+ca=bo:=by
  have d1:(gval ((a2.drop i).take b.length)+(at0 a (i+b.length)+ca)*B9 ^ b.length) / B9 ^ b.length=at0 a (i+b.length)+ca:=by
   rw [Nat.add_mul_div_right _ _ hP,Nat.div_eq_of_lt v2,Nat.zero_add]
  have d2:(r+bo*B9 ^ b.length) / B9 ^ b.length=bo:=by
   rw [Nat.add_mul_div_right _ _ hP,Nat.div_eq_of_lt (by omega),Nat.zero_add]
  rw [← d1,E3,d2]
 have hv2:gval ((a2.drop i).take b.length)=r:=by rw [htc] at E3;omega
 have hl3:(a2.set (i+b.length) 0).length=La:=by rw [List.length_set,hd.len,hs.len,hla]
 have hdr:(a2.set (i+b.length) 0).drop i=(a2.drop i).set b.length 0:=by
  rw [List.drop_set,if_neg (by omega),show i+b.length-i=b.length by omega]
 have hwn:gval ((a2.set (i+b.length) 0).drop i)=r:=by
  have hz4:gval ((a2.set (i+b.length) 0).drop (i+b.length+1))=0:=by rw [List.drop_set_of_lt (by omega)];exact hz2
  rw [win_top (a:=a2.set (i+b.length) 0) (i:=i) (k:=b.length) (by rw [List.length_set];exact hl2) hz4,at0_set hl2,if_pos rfl,Nat.zero_mul,Nat.add_zero,hdr,List.take_set_of_le (Nat.le_refl _),hv2]
 refine ⟨hg0,htc,at2,h.put hb hi hl3 (hd.all.set _ _ (by decide)) (by omega) (by rw [List.take_set_of_le (by omega),hd.low,hs.low]) ?_ (by rw [hwn];exact hm)⟩
 rw [hwn,Nat.add_sub_cancel];omega
theorem KnAt.start {A0 La:Nat} {b a q:List Nat} (hb:Dvr b) (hl:a.length=La) (ha:AllB a) (hq:q.length=La-b.length) (hqa:AllB q) (hv:gval a=A0) (_hLa:b.length≤La) (hr:gval (a.drop (La-b.length))<gval b):KnAt A0 b La (La-b.length) a q:=by
 have:=hb.two
 exact ⟨hl,ha,hq,hqa,by rw [List.drop_of_length_le (by omega),hv];simp [gval],hr⟩
theorem KnAt.fin {A0 La:Nat} {b a q:List Nat} (h:KnAt A0 b La 0 a q) (hb:Dvr b) (hLa:b.length≤La):A0 / gval b=gval q∧A0 % gval b=gval a∧gval (a.take b.length)=gval a:=by
 have hv:A0=gval q*gval b+gval a:=by simpa using h.val
 have hr:gval a<gval b:=by simpa using h.rest
 have hb0:=hb.pos
 refine ⟨?_,?_,?_⟩
 ·rw [hv,Nat.mul_comm,Nat.mul_add_div hb0,Nat.div_eq_of_lt hr];rfl
 ·rw [hv,Nat.mul_comm,Nat.mul_add_mod,Nat.mod_eq_of_lt hr]
 ·have hs:=gval_split a b.length (by rw [h.la];exact hLa)
  have hbl:=hb.lt
  rcases Nat.eq_zero_or_pos (gval (a.drop b.length)) with h0 | h0
  ·rw [h0] at hs;omega
  ·exfalso
   have:B9 ^ b.length*1≤B9 ^ b.length*gval (a.drop b.length):=Nat.mul_le_mul_left _ h0
   omega
end
end Go.Proofs.YthgpheopnhajaaaGreatDoor
