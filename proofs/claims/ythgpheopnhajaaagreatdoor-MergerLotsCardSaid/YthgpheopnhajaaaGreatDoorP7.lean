/- The seat's texts, part P7. -/
import Derived.Test.YthgpheopnhajaaaGreatDoorP0
import Derived.Test.YthgpheopnhajaaaGreatDoorP3
import Derived.Test.YthgpheopnhajaaaGreatDoorP6
set_option maxRecDepth 100000
set_option maxHeartbeats 8000000
namespace Go.Proofs.YthgpheopnhajaaaGreatDoor
section
open Go.RowKit
def eS(x y:Int):Int:=if y<0 then(-x) / (-y) else x / y
def gD(x y:Int):Int:=x-y*eS x y
theorem nH{x y q r:Int}(h:x=q*y+r)(h0:0≤r)(h1:r<y):x / y=q:=by
 have hy:0<y:=by omega
 rw[h,Int.add_comm,Int.add_mul_ediv_right r q (by omega),Int.ediv_eq_zero_of_lt h0 h1,Int.zero_add]
theorem nI{x y q r:Int}(h:x=q*y+r)(hr:(0≤r∧r<y)∨(y<r∧r≤0)):eS x y=q∧gD x y=r:=by
 have hd:eS x y=q:=by
  unfold eS;rcases hr with ⟨h0,h1⟩ | ⟨h0,h1⟩
  ·rw[if_neg (by omega)];exact nH h h0 h1
  ·rw[if_pos (by omega)];refine nH (r := -r) ?_ (by omega) (by omega);rw[h,Int.neg_add,Int.mul_neg]
 refine⟨hd,?_⟩;unfold gD;rw[hd,h,Int.mul_comm y q];omega
theorem yX{sx sy:Bool}{X Y:Nat}(hY:0<Y)(h:sx=sy∨X % Y=0):eS (sgn sx X) (sgn sy Y)=sgn (sx != sy) (X / Y)∧gD (sgn sx X) (sgn sy Y)=sgn sy (X % Y):=by
 have hd:=Nat.div_add_mod X Y;have hm:=Nat.mod_lt X hY
 have hdI:(X:Int)=(X / Y:Nat)*(Y:Int)+(X % Y:Nat):=by
  rw[←Int.natCast_mul,←Int.natCast_add,Nat.mul_comm,hd]
 generalize X / Y=q at *;generalize X % Y=r at *;apply nI
 ·rcases h with h|h
  ·subst h
   cases sx
   ·show(X:Int)=(q:Int)*Y+r;exact hdI
   ·show -(X:Int)=(q:Int) * -(Y:Int) + -(r:Int);rw[hdI,Int.mul_neg];omega
  ·subst h
   cases sx <;> cases sy
   ·show(X:Int)=(q:Int)*Y+((0:Nat):Int);exact hdI
   ·show(X:Int) = -(q:Int) * -(Y:Int) + -((0:Nat):Int);rw[hdI,Int.neg_mul_neg];omega
   ·show -(X:Int) = -(q:Int)*(Y:Int)+((0:Nat):Int);rw[hdI,Int.neg_mul];omega
   ·show -(X:Int)=(q:Int) * -(Y:Int) + -((0:Nat):Int);rw[hdI,Int.mul_neg];omega
 ·cases sy
  ·left;show 0≤(r:Int)∧(r:Int)<Y;omega
  ·right;show -(Y:Int) < -(r:Int) ∧ -(r:Int)≤0;omega
theorem wU{sx sy:Bool}{X Y:Nat}(hY:0<Y)(hs:sx≠sy)(h0:X % Y≠0):eS (sgn sx X) (sgn sy Y)=sgn true (X / Y+1)∧gD (sgn sx X) (sgn sy Y)=sgn sy (Y-X % Y):=by
 have hd:=Nat.div_add_mod X Y;have hm:=Nat.mod_lt X hY
 have hdI:(X:Int)=(X / Y:Nat)*(Y:Int)+(X % Y:Nat):=by
  rw[←Int.natCast_mul,←Int.natCast_add,Nat.mul_comm,hd]
 generalize X / Y=q at *;generalize X % Y=r at *;have e:((Y-r:Nat):Int)=(Y:Int)-r:=by omega
 apply nI
 ·cases sx <;> cases sy
  ·exact absurd rfl hs
  ·show(X:Int) = -((q+1:Nat):Int) * -(Y:Int) + -((Y-r:Nat):Int);rw[Int.neg_mul_neg,e,hdI,Int.natCast_add,Int.add_mul];simp;omega
  ·show -(X:Int) = -((q+1:Nat):Int)*(Y:Int)+((Y-r:Nat):Int);rw[Int.neg_mul,e,hdI,Int.natCast_add,Int.add_mul];simp;omega
  ·exact absurd rfl hs
 ·cases sy
  ·left;show 0≤((Y-r:Nat):Int)∧((Y-r:Nat):Int)<Y;omega
  ·right;show -(Y:Int) < -((Y-r:Nat):Int) ∧ -((Y-r:Nat):Int)≤0;omega
def cmpI(x y:Int):Int:=if x<y then -1 else if x=y then 0 else 1
end
section
open Go.RowKit
def lt(a b:Bs):Bool:=Op.bytesLess a b
end
section
open Go.RowKit
theorem Dn{c:UInt8}(h:cF c=true):c.toNat=dt c+48:=by have:=(fB c).1 h;unfold dt;omega
theorem vx(c:UInt8)(r:Bs):natOf (c :: r)=dt c*10 ^ r.length+natOf r:=by
 have:=eh [c] r;rw[show natOf [c]=dt c by show 10*0+dt c=_;omega]at this
 exact this
theorem BR{t:Bs}(ht:t.all cF=true)(hl:gU t)(hn:t≠[]):10 ^ (t.length-1)≤natOf t:=by
 cases t with
 |nil=>exact absurd rfl hn
 |cons c r =>
  simp only[List.all_cons,Bool.and_eq_true]at ht;rw[vx,List.length_cons,Nat.add_sub_cancel];have h1:=hl c r rfl;have h2:=Dn ht.1;have h3:dt c≠0:=fun h=>h1 (UInt8.toNat_inj.1 (by rw[h2,h];rfl))
  have:1*10 ^ r.length≤dt c*10 ^ r.length:=Nat.mul_le_mul_right _ (by omega);omega
theorem uB{l:Bs}(h:neg l=true):0<natOf (mag l):=by
 have h0:mag l≠[]:=by
  unfold neg at h
  first
   |(intro e;simp[e]at h)
   |(intro e;unfold pJ at h;rw[show jE (cM l)=mag l from rfl,e]at h;simp at h)
 have:=BR (mag_all l) (iX l) h0;exact Nat.lt_of_lt_of_le (Nat.pow_pos (by decide)) this
end
section
open Go.RowKit
attribute [local go_sem] size_bs toList_bs
theorem qL(x y:Nat)(hy:0<y)(A A':Option Addr)(c c':Nat)(w:World)(hA:RdU w A (gr x))(hA':RdU w A' (gr y))(hn:(gr x).length≤900000)(hn':(gr y).length≤900000)(hc:(gr x).length≤c)(hm:c≤maxLen) :
  Calls Tryz.prog 213 #[.slice A (gr x).length c,.slice A' (gr y).length c'] w (na (x / y) (x % y) w):=by
 rcases Nat.lt_or_ge x y with h|h
 ·exact sE x y h A A' c c' w hA hA' (by omega) (by omega) hc hm
 ·rcases Nat.lt_or_ge (gr y).length 2 with h2|h2
  ·have h0:(gr y).length≠0:=by
    intro e;have e2:gr y=[]:=List.length_eq_zero_iff.1 e;have e3:y=0:=iv (by rw[e2,gr_zero]);omega
   exact rH x y h (by omega) A A' c c' w hA hA' (by omega)
  ·exact pN x y h h2 A A' c c' w hA hA' hn hn'
theorem Dp(a:Bs)(w:World)(ha:a.length≤100000)(hE:Env w) :
  Calls Tryz.prog 222 #[.string (bs a)] w fun e w'=>e = .returned (.string (bs (ofI (-(valI a)))))∧Ext w w':=by
 have HR1:=qh (fun W=>intRead a W (by omega));have HL1:Hid ((gr (natOf (mag a))).length≤1000000):=qh (by have:=gr_len10 (mag_pow a ha);omega);have HE:=qh hE;have HV:Hid (txt (!(neg a)) (natOf (mag a))=ofI (-(valI a))):=qh (by rw[txt_ofI,sgn_not];rfl);generalize ofI (-(valI a))=z at *;generalize natOf (mag a)=x at *;generalize neg a=ba at *;clear ha hE;go_enter Tryz.func222,Tryz.ntmps222;go_wp2_with fail;refine(HR1.out _).mono ?_;rintro e w1⟨A,c,rfl,hrd1,hx1,hc1,hc2⟩;have HD1:=qh hrd1;have HX1:=qh hx1;have HC:=qh (And.intro hc1 hc2);clear hrd1 hx1 hc1 hc2;go_wp2_with fail;have HX2:Hid (Ext w (w1.alloc (.cells #[.bool (!ba),.slice A (gr x).length c] 124))):=qh (HX1.out.alloc _);refine(intText (!ba) x A c _ (HD1.out.ext (Ext.new _ _)) HL1.out HC.out.1 HC.out.2 (HE.out.ext HX2.out)).mono ?_;rintro e w5⟨rfl,hx5⟩;rw[HV.out];go_wp2_with fail;go_ret;exact⟨rfl,HX2.out.trans hx5⟩
theorem Dq{a b:Bool}{x y:Nat}{r:Int}(ha:a=true→0<x)(hb:b=true→0<y)(h:(r<0∧x<y)∨(r=0∧x=y)∨(0<r∧y<x)):cmpI (sgn a x) (sgn b y)=max (-1) (min (if(!(a == b))=true then(if a then -1 else 1) else if a then -r else r) 1):=by
 unfold cmpI sgn
 cases a <;> cases b
 ·simp;split <;> (try split) <;> omega
 ·have:=hb rfl;simp;omega
 ·have:=ha rfl;simp;omega
 ·simp;split <;> (try split) <;> omega
theorem Dr(a b:Bs)(w:World)(ha:a.length≤100000)(hb:b.length≤100000) :
  Calls Tryz.prog 20 #[.string (bs a),.string (bs b)] w fun e w'=>e = .returned (.int .i64 (cmpI (valI a) (valI b)))∧Ext w w':=by
 have HR1:=qh (fun W=>intRead a W (by omega));have HR2:=qh (fun W=>intRead b W (by omega));have HL1:Hid ((gr (natOf (mag a))).length≤1000000):=qh (by have:=gr_len10 (mag_pow a ha);omega);have HL2:Hid ((gr (natOf (mag b))).length≤1000000):=qh (by have:=gr_len10 (mag_pow b hb);omega);have HV:=qh (fun r h=>Dq (a:=neg a) (b:=neg b) (x:=natOf (mag a)) (y:=natOf (mag b)) (r:=r) uB uB h);rw[show sgn (neg a) (natOf (mag a))=valI a from rfl,show sgn (neg b) (natOf (mag b))=valI b from rfl]at HV;generalize cmpI (valI a) (valI b)=z at *;generalize natOf (mag a)=x at *;generalize natOf (mag b)=y at *;generalize neg a=ba at *;generalize neg b=bb at *;clear ha hb;go_enter Tryz.func20,Tryz.ntmps20;go_wp2_with fail;refine(HR1.out _).mono ?_;rintro e w1⟨A,c,rfl,hrd1,hx1,_,_⟩;go_wp2_with fail;refine(HR2.out _).mono ?_;rintro e w2⟨A',c',rfl,hrd2,hx2,_,_⟩;have HB1:=qh ((Blk.new w2 124 #[.bool ba,.slice A (gr x).length c]).alloc (.cells #[.bool bb,.slice A' (gr y).length c'] 124));have HB2:=qh (blk_at (w2.alloc (.cells #[.bool ba,.slice A (gr x).length c] 124)) 124 #[.bool bb,.slice A' (gr y).length c'] (w2.heap.size+1) (by simp));have HX:Hid (Ext w ((w2.alloc (.cells #[.bool ba,.slice A (gr x).length c] 124)).alloc (.cells #[.bool bb,.slice A' (gr y).length c'] 124))):=qh (((hx1.trans hx2).alloc _).alloc _);have HD1:=qh (((hrd1.ext hx2).ext (Ext.new _ (.cells #[.bool ba,.slice A (gr x).length c] 124))).ext (Ext.new _ (.cells #[.bool bb,.slice A' (gr y).length c'] 124)));have HD2:=qh ((hrd2.ext (Ext.new _ (.cells #[.bool ba,.slice A (gr x).length c] 124))).ext (Ext.new _ (.cells #[.bool bb,.slice A' (gr y).length c'] 124)));clear hrd1 hrd2 hx1 hx2;go_wp2_with fail;generalize ((w2.alloc (.cells #[.bool ba,.slice A (gr x).length c] 124)).alloc (.cells #[.bool bb,.slice A' (gr y).length c'] 124))=W at *;generalize w2.heap.size=g at *;refine(nG x y A A' c c' _ HD1.out HD2.out HL1.out HL2.out).mono ?_;rintro e w4⟨hx,r,rfl,hcase,hr1,hr2⟩;have x0:=(HB1.out.ext hx).cell 0;have y0:=(HB2.out.ext hx).cell 0;simp only[List.getElem?_toArray,List.getElem?_cons_zero]at x0 y0;replace HX:=HX.qt hx;have HZ:=qh (HV.out r hcase);clear hx hcase
 cases ba <;> cases bb
 all_goals
  go_wp2_with fail;go_ret;exact⟨by rw[HZ.out];simp,HX.out⟩
end
section
open Go.RowKit
attribute [local go_sem] size_bs toList_bs
structure DvAt (w:World) (g:Nat) (ba bb:Bool) (A A' A1 A2:Option Addr) (x y q r c c':Nat) (W:World):Prop where
 ext:Ext w W
 b1:Blk W g 124 #[.bool ba,.slice A (gr x).length c]
 b2:Blk W (g+1) 124 #[.bool bb,.slice A' (gr y).length c']
 ry:RdU W A' (gr y)
 rq:RdU W A1 (gr q)
 rr:RdU W A2 (gr r)
theorem DvAt.on{w:World}{g:Nat}{ba bb:Bool}{A A' A1 A2:Option Addr}{x y q r c c':Nat}{W W':World}(h:DvAt w g ba bb A A' A1 A2 x y q r c c' W)(hx:Ext W W'):DvAt w g ba bb A A' A1 A2 x y q r c c' W' :=
 ⟨h.ext.trans hx,h.b1.ext hx,h.b2.ext hx,h.ry.ext hx,h.rq.ext hx,h.rr.ext hx⟩
theorem DvAt.cells{w:World}{g:Nat}{ba bb:Bool}{A A' A1 A2:Option Addr}{x y q r c c':Nat}{W:World}(h:DvAt w g ba bb A A' A1 A2 x y q r c c' W):W.cell? ⟨g,0,none⟩=some (.bool ba)∧W.cell? ⟨g+1,0,none⟩=some (.bool bb)∧W.cell? ⟨g+1,1,none⟩=some (.slice A' (gr y).length c'):=by
 have x0:=h.b1.cell 0;have y0:=h.b2.cell 0;have y1:=h.b2.cell 1;simp only[List.getElem?_toArray,List.getElem?_cons_zero,List.getElem?_cons_succ]at x0 y0 y1;exact⟨x0,y0,y1⟩
theorem pO{W:World}{g:Nat}(h:W.heap.size=g):RdU (W.alloc (.cells #[.int .u64 1] 183)) (some ⟨g,0,none⟩) [1]:=by
 subst h;exact Reads.lit rfl
theorem Bf{m n L:Nat}(h:n≤m+1)(hm:m<10 ^ L)(hL:L≤100000):(gr n).length≤1000000:=by
 have h1:n<10 ^ (L+1):=by rw[Nat.pow_succ];omega
 have:=gr_len10 h1;omega
theorem E4(a b:Bs)(w:World)(ha:a.length≤100000)(hb:b.length≤100000)(h0:natOf (mag b)=0) :
  Calls Tryz.prog 144 #[.string (bs a),.string (bs b)] w fun e w'=>e = .returned (.tuple #[.string (bs []),.string (bs []),.int .i64 10])∧Ext w w':=by
 have HR1:=qh (fun W=>intRead a W (by omega));have HR2:=qh (fun W=>intRead b W (by omega));rw[h0,gr_zero]at HR2;generalize natOf (mag a)=x at *;generalize neg a=ba at *;generalize neg b=bb at *;clear ha hb h0;go_enter Tryz.func144,Tryz.ntmps144;go_wp2_with fail;refine(HR1.out _).mono ?_;rintro e w1⟨A,c,rfl,hrd1,hx1,_,_⟩;go_wp2_with fail;refine(HR2.out _).mono ?_;rintro e w2⟨A',c',rfl,hrd2,hx2,_,_⟩;have HX:Hid (Ext w ((w2.alloc (.cells #[.bool ba,.slice A (gr x).length c] 124)).alloc (.cells #[.bool bb,.slice A' 0 c'] 124))):=qh (((hx1.trans hx2).alloc _).alloc _);clear hrd1 hrd2 hx1 hx2;go_wp2_with fail;go_ret3
 exact⟨rfl,HX.out⟩
theorem ua(a b:Bs)(w:World)(ha:a.length≤100000)(hb:b.length≤100000)(h0:0<natOf (mag b))(hE:Env w) :
  Calls Tryz.prog 144 #[.string (bs a),.string (bs b)] w fun e w'=>e = .returned (.tuple #[.string (bs (ofI (eS (valI a) (valI b)))),.string (bs (ofI (gD (valI a) (valI b)))),.int .i64 0])∧Ext w w':=by
 have HR1:=qh (fun W=>intRead a W (by omega));have HR2:=qh (fun W=>intRead b W (by omega));obtain⟨L,hLa,hLb,hL⟩:∃L:Nat,a.length≤L∧b.length≤L∧L≤100000:=⟨max a.length b.length,by omega,by omega,by omega⟩;have HL1:Hid ((gr (natOf (mag a))).length≤900000):=qh (by have:=gr_len10 (mag_pow a hLa);omega);have HL2:Hid ((gr (natOf (mag b))).length≤900000):=qh (by have:=gr_len10 (mag_pow b hLb);omega);have HLQ:Hid (∀n,n≤natOf (mag a)+1→(gr n).length≤1000000):=qh (fun n h=>Bf h (mag_pow a hLa) hL);have HLR:Hid (∀n,n≤natOf (mag b)+1→(gr n).length≤1000000):=qh (fun n h=>Bf h (mag_pow b hLb) hL);have HE:=qh hE
 have HS:Hid ((neg a=neg b∨natOf (mag a) % natOf (mag b)=0)→txt (neg a != neg b) (natOf (mag a) / natOf (mag b))=ofI (eS (valI a) (valI b))∧txt (neg b) (natOf (mag a) % natOf (mag b))=ofI (gD (valI a) (valI b))):=qh (fun h=>by
  have:=yX h0 h;rw[txt_ofI,txt_ofI,←this.1,←this.2];exact⟨rfl,rfl⟩)
 have HO:Hid (neg a≠neg b→natOf (mag a) % natOf (mag b)≠0→txt true (natOf (mag a) / natOf (mag b)+1)=ofI (eS (valI a) (valI b))∧txt (neg b) (natOf (mag b)-natOf (mag a) % natOf (mag b))=ofI (gD (valI a) (valI b))):=qh (fun h h2=>by
  have:=wU h0 h h2;rw[txt_ofI,txt_ofI,←this.1,←this.2];exact⟨rfl,rfl⟩)
 generalize ofI (eS (valI a) (valI b))=zq at *;generalize ofI (gD (valI a) (valI b))=zr at *;generalize natOf (mag a)=x at *;generalize natOf (mag b)=y at *;generalize neg a=ba at *;generalize neg b=bb at *
 have hyl:0<(gr y).length:=by
  rcases Nat.eq_zero_or_pos (gr y).length with e|e
  ·have e3:y=0:=iv (by rw[List.length_eq_zero_iff.1 e,gr_zero]);omega
  ·exact e
 clear ha hb hLa hLb hE;go_enter Tryz.func144,Tryz.ntmps144;go_wp2_with fail;refine(HR1.out _).mono ?_;rintro e w1⟨A,c,rfl,hrd1,hx1,hca,hcm⟩;have HC:=qh (And.intro hca hcm);clear hca hcm;go_wp2_with fail;refine(HR2.out _).mono ?_;rintro e w2⟨A',c',rfl,hrd2,hx2,_,_⟩;have HB1:=qh ((Blk.new w2 124 #[.bool ba,.slice A (gr x).length c]).alloc (.cells #[.bool bb,.slice A' (gr y).length c'] 124));have HB2:=qh (blk_at (w2.alloc (.cells #[.bool ba,.slice A (gr x).length c] 124)) 124 #[.bool bb,.slice A' (gr y).length c'] (w2.heap.size+1) (by simp));have HX:Hid (Ext w ((w2.alloc (.cells #[.bool ba,.slice A (gr x).length c] 124)).alloc (.cells #[.bool bb,.slice A' (gr y).length c'] 124))):=qh (((hx1.trans hx2).alloc _).alloc _);have HD1:=qh (((hrd1.ext hx2).ext (Ext.new _ (.cells #[.bool ba,.slice A (gr x).length c] 124))).ext (Ext.new _ (.cells #[.bool bb,.slice A' (gr y).length c'] 124)));have HD2:=qh ((hrd2.ext (Ext.new _ (.cells #[.bool ba,.slice A (gr x).length c] 124))).ext (Ext.new _ (.cells #[.bool bb,.slice A' (gr y).length c'] 124)));clear hrd1 hrd2 hx1 hx2;go_wp2_with fail;generalize ((w2.alloc (.cells #[.bool ba,.slice A (gr x).length c] 124)).alloc (.cells #[.bool bb,.slice A' (gr y).length c'] 124))=W at *;generalize w2.heap.size=g at *;refine(qL x y h0 A A' c c' _ HD1.out HD2.out HL1.out HL2.out HC.out.1 HC.out.2).mono ?_;rintro e w4⟨A1,c1,A2,c2,rfl,hrq,hrr,hx,hq,hr⟩;have H:Hid (DvAt w g ba bb A A' A1 A2 x y (x / y) (x % y) c c' w4):=qh ⟨HX.out.trans hx,HB1.out.ext hx,HB2.out.ext hx,HD2.out.ext hx,hrq,hrr⟩;have HCQ:=qh hq;have HCR:=qh hr;have hrl:x % y<y:=Nat.mod_lt _ h0;have hql:x / y≤x:=Nat.div_le_self _ _;have HLq:=qh (HLQ.out (x / y) (by omega));have HLr:=qh (HLR.out (x % y) (by omega));have HLq1:=qh (HLQ.out (x / y+1) (by omega));have HLr1:=qh (HLR.out (y-x % y) (by omega));have HMI:=qh (fun W hW hW'=>nW y (x % y) (by omega) A' A2 c' c2 W hW hW' (by have:=HL2.out;omega) HLr.out)
 have HPL:Hid (∀W B,RdU W A1 (gr (x / y))→RdU W B [1]→Calls Tryz.prog 133 #[.slice A1 (gr (x / y)).length c1,.slice B 1 1] W (j7 (x / y+1) W)):=qh (fun W B h1 h2=>by
  have e1:gr 1=[1]:=l8 (by decide) (by decide);have:=uA (x / y) 1 A1 B c1 1 W h1 (by rw[e1];exact h2) HLq.out (by rw[e1];simp);rw[e1]at this
  exact this)
 clear hrq hrr hx hq hr HB1 HB2 HX HD1 HD2 HR1 HR2 HL1 HL2 HLQ HLR hrl hql
 cases ba <;> cases bb
 ·have HVQ:Hid (txt false (x / y)=zq):=qh (HS.out (.inl rfl)).1;have HVR:Hid (txt false (x % y)=zr):=qh (HS.out (.inl rfl)).2;clear HLq1 HLr1 HMI HPL HS HO;generalize x / y=qq at *;generalize x % y=rr at *;have HT2:=qh (fun s W h1 h2=>intText s rr A2 c2 W h1 HLr.out HCR.out.1 HCR.out.2 h2);obtain⟨x0,y0,y1⟩:=H.out.cells;go_wp2_with fail;replace H:=qh (H.out.on (Ext.refl _).drew)
  go_region_held3 (fun w'=>w'.cell? ⟨g,0,none⟩=some (.bool false)∧w'.cell? ⟨g+1,0,none⟩=some (.bool false))
   (go_keep)
   (first
    |(go_at_call 80;((with_reducible refine(intText _ qq A1 c1 _ H.out.rq HLq.out HCQ.out.1 HCQ.out.2 (HE.out.ext H.out.ext)).mono ?_);rintro e w5⟨rfl,hx⟩);(replace H:=qh (H.out.on hx));(obtain⟨u0,v0,_⟩:=H.out.cells);clear hx)
    |(go_at_call 80;((with_reducible refine(HT2.out _ _ H.out.rr (HE.out.ext H.out.ext)).mono ?_);rintro e w6⟨rfl,hx⟩);(replace H:=qh (H.out.on hx));(obtain⟨s0,t0,_⟩:=H.out.cells);clear hx))
  all_goals
   rw[HVQ.out,HVR.out];go_wp2_with fail;go_ret3
   exact⟨rfl,H.out.ext⟩
 ·by_cases hz:x % y=0
  ·have HVQ:Hid (txt true (x / y)=zq):=qh (HS.out (.inr hz)).1;have HVR:Hid (txt true (x % y)=zr):=qh (HS.out (.inr hz)).2;have hl0:(gr (x % y)).length=0:=by rw[hz,gr_zero];rfl
   clear HLq1 HLr1 HMI HPL HS HO hz;generalize x / y=qq at *;generalize x % y=rr at *;have HT2:=qh (fun s W h1 h2=>intText s rr A2 c2 W h1 HLr.out HCR.out.1 HCR.out.2 h2);rw[hl0]at HT2;obtain⟨x0,y0,y1⟩:=H.out.cells;go_wp2_with fail;replace H:=qh (H.out.on (Ext.refl _).drew)
   go_region_held3 (fun w'=>w'.cell? ⟨g,0,none⟩=some (.bool false)∧w'.cell? ⟨g+1,0,none⟩=some (.bool true))
    (go_keep)
    (first
     |(go_at_call 80;((with_reducible refine(intText _ qq A1 c1 _ H.out.rq HLq.out HCQ.out.1 HCQ.out.2 (HE.out.ext H.out.ext)).mono ?_);rintro e w5⟨rfl,hx⟩);(replace H:=qh (H.out.on hx));(obtain⟨u0,v0,_⟩:=H.out.cells);clear hx)
     |(go_at_call 80;((with_reducible refine(HT2.out _ _ H.out.rr (HE.out.ext H.out.ext)).mono ?_);rintro e w6⟨rfl,hx⟩);(replace H:=qh (H.out.on hx));(obtain⟨s0,t0,_⟩:=H.out.cells);clear hx))
   all_goals
    rw[HVQ.out,HVR.out];go_wp2_with fail;go_ret3
    exact⟨rfl,H.out.ext⟩
  ·have HVQ:Hid (txt true (x / y+1)=zq):=qh (HO.out (by decide) hz).1;have HVR:Hid (txt true (y-x % y)=zr):=qh (HO.out (by decide) hz).2
   have hl0:0<(gr (x % y)).length:=by
    rcases Nat.eq_zero_or_pos (gr (x % y)).length with e|e
    ·exact absurd (iv (by rw[List.length_eq_zero_iff.1 e,gr_zero]):x % y=0) hz
    ·exact e
   clear HS HO hz HLq HLr HCQ HCR;generalize x / y=q0 at *;generalize x % y=r0 at *;obtain⟨x0,y0,y1⟩:=H.out.cells;have hgs:=H.out.b2.lt;go_wp2_with fail;have H0:=H;replace H:=qh (H.out.on (Ext.refl _).drew);obtain⟨x2,y2,y3⟩:=H.out.cells
   go_region_held3 (fun w'=>w'.cell? ⟨g+1,1,none⟩=some (.slice A' (gr y).length c'))
    (go_keep)
    (first
     |(go_at_call 133;((with_reducible refine(HPL.out _ _ ((H0.out.on (Ext.new _ _)).on (Ext.refl _).drew).rq ((pO (by first|rfl|simp)).ext (Ext.refl _).drew)).mono ?_);rintro e w5⟨A3,c3,rfl,hrd3,hx,hc3,hm3⟩);(replace H:=qh (((H0.out.on (Ext.new _ _)).on (Ext.refl _).drew).on hx));(have HCQ:=qh (And.intro hc3 hm3));(have HRQ:=qh hrd3);(obtain⟨_,_,v1⟩:=H.out.cells);(try (replace HRR:=qh (HRR.out.ext hx)));clear hx hrd3 hc3 hm3)
     |(go_at_call 133;((with_reducible refine(HPL.out _ _ (H.out.on (Ext.new _ _)).rq (pO (by first|rfl|simp))).mono ?_);rintro e w5⟨A3,c3,rfl,hrd3,hx,hc3,hm3⟩);(replace H:=qh ((H.out.on (Ext.new _ _)).on hx));(have HCQ:=qh (And.intro hc3 hm3));(have HRQ:=qh hrd3);(obtain⟨_,_,v1⟩:=H.out.cells);(try (replace HRR:=qh (HRR.out.ext hx)));clear hx hrd3 hc3 hm3)
     |(go_at_call 133;((with_reducible refine(HPL.out _ _ H.out.rq HLIT.out).mono ?_);rintro e w5⟨A3,c3,rfl,hrd3,hx,hc3,hm3⟩);(replace H:=qh (H.out.on hx));(have HCQ:=qh (And.intro hc3 hm3));(have HRQ:=qh hrd3);(obtain⟨_,_,v1⟩:=H.out.cells);(try (replace HRR:=qh (HRR.out.ext hx)));clear hx hrd3 hc3 hm3)
     |(go_at_call 134;((with_reducible refine(HMI.out _ H.out.ry H.out.rr).mono ?_);rintro e w6⟨A4,c4,rfl,hrd4,hx,hc4,hm4⟩);(replace H:=qh (H.out.on hx));(have HCR:=qh (And.intro hc4 hm4));(have HRR:=qh hrd4);(obtain⟨_,_,v1⟩:=H.out.cells);(try (replace HRQ:=qh (HRQ.out.ext hx)));clear hx hrd4 hc4 hm4)
     |(go_at_call 134;((with_reducible refine(HMI.out _ ((H0.out.on (Ext.new _ _)).on (Ext.refl _).drew).ry ((H0.out.on (Ext.new _ _)).on (Ext.refl _).drew).rr).mono ?_);rintro e w6⟨A4,c4,rfl,hrd4,hx,hc4,hm4⟩);(have HLIT:Hid (RdU w6 _ [1]):=qh (((pO rfl).ext (Ext.refl _).drew).ext hx));(replace H:=qh (((H0.out.on (Ext.new _ _)).on (Ext.refl _).drew).on hx));(have HCR:=qh (And.intro hc4 hm4));(have HRR:=qh hrd4);(obtain⟨_,_,v1⟩:=H.out.cells);clear hx hrd4 hc4 hm4))
   all_goals
    replace H:Hid (DvAt w g false true A A' A3 A4 x y (q0+1) (y-r0) c c' _):=qh ⟨H.out.ext,H.out.b1,H.out.b2,H.out.ry,HRQ.out,HRR.out⟩;have HLq:=HLq1;have HLr:=HLr1;clear HLq1 HLr1 HMI HPL HRQ HRR;generalize q0+1=qq at *;generalize y-r0=rr at *;have HT2:=qh (fun s W h1 h2=>intText s rr A4 c4 W h1 HLr.out HCR.out.1 HCR.out.2 h2);obtain⟨x0,y0,y1⟩:=H.out.cells;go_wp2_with fail;replace H:=qh (H.out.on (Ext.refl _).drew)
    go_region_held3 (fun w'=>w'.cell? ⟨g,0,none⟩=some (.bool false)∧w'.cell? ⟨g+1,0,none⟩=some (.bool true))
     (go_keep)
     (first
      |(go_at_call 80;((with_reducible refine(intText _ qq A3 c3 _ H.out.rq HLq.out HCQ.out.1 HCQ.out.2 (HE.out.ext H.out.ext)).mono ?_);rintro e w5⟨rfl,hx⟩);(replace H:=qh (H.out.on hx));(obtain⟨u0,v0,_⟩:=H.out.cells);clear hx)
      |(go_at_call 80;((with_reducible refine(HT2.out _ _ H.out.rr (HE.out.ext H.out.ext)).mono ?_);rintro e w6⟨rfl,hx⟩);(replace H:=qh (H.out.on hx));(obtain⟨s0,t0,_⟩:=H.out.cells);clear hx))
    all_goals
     rw[HVQ.out,HVR.out];go_wp2_with fail;go_ret3
     exact⟨rfl,H.out.ext⟩
 ·by_cases hz:x % y=0
  ·have HVQ:Hid (txt true (x / y)=zq):=qh (HS.out (.inr hz)).1;have HVR:Hid (txt false (x % y)=zr):=qh (HS.out (.inr hz)).2;have hl0:(gr (x % y)).length=0:=by rw[hz,gr_zero];rfl
   clear HLq1 HLr1 HMI HPL HS HO hz;generalize x / y=qq at *;generalize x % y=rr at *;have HT2:=qh (fun s W h1 h2=>intText s rr A2 c2 W h1 HLr.out HCR.out.1 HCR.out.2 h2);rw[hl0]at HT2;obtain⟨x0,y0,y1⟩:=H.out.cells;go_wp2_with fail;replace H:=qh (H.out.on (Ext.refl _).drew)
   go_region_held3 (fun w'=>w'.cell? ⟨g,0,none⟩=some (.bool true)∧w'.cell? ⟨g+1,0,none⟩=some (.bool false))
    (go_keep)
    (first
     |(go_at_call 80;((with_reducible refine(intText _ qq A1 c1 _ H.out.rq HLq.out HCQ.out.1 HCQ.out.2 (HE.out.ext H.out.ext)).mono ?_);rintro e w5⟨rfl,hx⟩);(replace H:=qh (H.out.on hx));(obtain⟨u0,v0,_⟩:=H.out.cells);clear hx)
     |(go_at_call 80;((with_reducible refine(HT2.out _ _ H.out.rr (HE.out.ext H.out.ext)).mono ?_);rintro e w6⟨rfl,hx⟩);(replace H:=qh (H.out.on hx));(obtain⟨s0,t0,_⟩:=H.out.cells);clear hx))
   all_goals
    rw[HVQ.out,HVR.out];go_wp2_with fail;go_ret3
    exact⟨rfl,H.out.ext⟩
  ·have HVQ:Hid (txt true (x / y+1)=zq):=qh (HO.out (by decide) hz).1;have HVR:Hid (txt false (y-x % y)=zr):=qh (HO.out (by decide) hz).2
   have hl0:0<(gr (x % y)).length:=by
    rcases Nat.eq_zero_or_pos (gr (x % y)).length with e|e
    ·exact absurd (iv (by rw[List.length_eq_zero_iff.1 e,gr_zero]):x % y=0) hz
    ·exact e
   clear HS HO hz HLq HLr HCQ HCR;generalize x / y=q0 at *;generalize x % y=r0 at *;obtain⟨x0,y0,y1⟩:=H.out.cells;have hgs:=H.out.b2.lt;go_wp2_with fail;have H0:=H;replace H:=qh (H.out.on (Ext.refl _).drew);obtain⟨x2,y2,y3⟩:=H.out.cells
   go_region_held3 (fun w'=>w'.cell? ⟨g+1,1,none⟩=some (.slice A' (gr y).length c'))
    (go_keep)
    (first
     |(go_at_call 133;((with_reducible refine(HPL.out _ _ ((H0.out.on (Ext.new _ _)).on (Ext.refl _).drew).rq ((pO (by first|rfl|simp)).ext (Ext.refl _).drew)).mono ?_);rintro e w5⟨A3,c3,rfl,hrd3,hx,hc3,hm3⟩);(replace H:=qh (((H0.out.on (Ext.new _ _)).on (Ext.refl _).drew).on hx));(have HCQ:=qh (And.intro hc3 hm3));(have HRQ:=qh hrd3);(obtain⟨_,_,v1⟩:=H.out.cells);(try (replace HRR:=qh (HRR.out.ext hx)));clear hx hrd3 hc3 hm3)
     |(go_at_call 133;((with_reducible refine(HPL.out _ _ (H.out.on (Ext.new _ _)).rq (pO (by first|rfl|simp))).mono ?_);rintro e w5⟨A3,c3,rfl,hrd3,hx,hc3,hm3⟩);(replace H:=qh ((H.out.on (Ext.new _ _)).on hx));(have HCQ:=qh (And.intro hc3 hm3));(have HRQ:=qh hrd3);(obtain⟨_,_,v1⟩:=H.out.cells);(try (replace HRR:=qh (HRR.out.ext hx)));clear hx hrd3 hc3 hm3)
     |(go_at_call 133;((with_reducible refine(HPL.out _ _ H.out.rq HLIT.out).mono ?_);rintro e w5⟨A3,c3,rfl,hrd3,hx,hc3,hm3⟩);(replace H:=qh (H.out.on hx));(have HCQ:=qh (And.intro hc3 hm3));(have HRQ:=qh hrd3);(obtain⟨_,_,v1⟩:=H.out.cells);(try (replace HRR:=qh (HRR.out.ext hx)));clear hx hrd3 hc3 hm3)
     |(go_at_call 134;((with_reducible refine(HMI.out _ H.out.ry H.out.rr).mono ?_);rintro e w6⟨A4,c4,rfl,hrd4,hx,hc4,hm4⟩);(replace H:=qh (H.out.on hx));(have HCR:=qh (And.intro hc4 hm4));(have HRR:=qh hrd4);(obtain⟨_,_,v1⟩:=H.out.cells);(try (replace HRQ:=qh (HRQ.out.ext hx)));clear hx hrd4 hc4 hm4)
     |(go_at_call 134;((with_reducible refine(HMI.out _ ((H0.out.on (Ext.new _ _)).on (Ext.refl _).drew).ry ((H0.out.on (Ext.new _ _)).on (Ext.refl _).drew).rr).mono ?_);rintro e w6⟨A4,c4,rfl,hrd4,hx,hc4,hm4⟩);(have HLIT:Hid (RdU w6 _ [1]):=qh (((pO rfl).ext (Ext.refl _).drew).ext hx));(replace H:=qh (((H0.out.on (Ext.new _ _)).on (Ext.refl _).drew).on hx));(have HCR:=qh (And.intro hc4 hm4));(have HRR:=qh hrd4);(obtain⟨_,_,v1⟩:=H.out.cells);clear hx hrd4 hc4 hm4))
   all_goals
    replace H:Hid (DvAt w g true false A A' A3 A4 x y (q0+1) (y-r0) c c' _):=qh ⟨H.out.ext,H.out.b1,H.out.b2,H.out.ry,HRQ.out,HRR.out⟩;have HLq:=HLq1;have HLr:=HLr1;clear HLq1 HLr1 HMI HPL HRQ HRR;generalize q0+1=qq at *;generalize y-r0=rr at *;have HT2:=qh (fun s W h1 h2=>intText s rr A4 c4 W h1 HLr.out HCR.out.1 HCR.out.2 h2);obtain⟨x0,y0,y1⟩:=H.out.cells;go_wp2_with fail;replace H:=qh (H.out.on (Ext.refl _).drew)
    go_region_held3 (fun w'=>w'.cell? ⟨g,0,none⟩=some (.bool true)∧w'.cell? ⟨g+1,0,none⟩=some (.bool false))
     (go_keep)
     (first
      |(go_at_call 80;((with_reducible refine(intText _ qq A3 c3 _ H.out.rq HLq.out HCQ.out.1 HCQ.out.2 (HE.out.ext H.out.ext)).mono ?_);rintro e w5⟨rfl,hx⟩);(replace H:=qh (H.out.on hx));(obtain⟨u0,v0,_⟩:=H.out.cells);clear hx)
      |(go_at_call 80;((with_reducible refine(HT2.out _ _ H.out.rr (HE.out.ext H.out.ext)).mono ?_);rintro e w6⟨rfl,hx⟩);(replace H:=qh (H.out.on hx));(obtain⟨s0,t0,_⟩:=H.out.cells);clear hx))
    all_goals
     rw[HVQ.out,HVR.out];go_wp2_with fail;go_ret3
     exact⟨rfl,H.out.ext⟩
 ·have HVQ:Hid (txt false (x / y)=zq):=qh (HS.out (.inl rfl)).1;have HVR:Hid (txt true (x % y)=zr):=qh (HS.out (.inl rfl)).2;clear HLq1 HLr1 HMI HPL HS HO;generalize x / y=qq at *;generalize x % y=rr at *;have HT2:=qh (fun s W h1 h2=>intText s rr A2 c2 W h1 HLr.out HCR.out.1 HCR.out.2 h2);obtain⟨x0,y0,y1⟩:=H.out.cells;go_wp2_with fail;replace H:=qh (H.out.on (Ext.refl _).drew)
  go_region_held3 (fun w'=>w'.cell? ⟨g,0,none⟩=some (.bool true)∧w'.cell? ⟨g+1,0,none⟩=some (.bool true))
   (go_keep)
   (first
    |(go_at_call 80;((with_reducible refine(intText _ qq A1 c1 _ H.out.rq HLq.out HCQ.out.1 HCQ.out.2 (HE.out.ext H.out.ext)).mono ?_);rintro e w5⟨rfl,hx⟩);(replace H:=qh (H.out.on hx));(obtain⟨u0,v0,_⟩:=H.out.cells);clear hx)
    |(go_at_call 80;((with_reducible refine(HT2.out _ _ H.out.rr (HE.out.ext H.out.ext)).mono ?_);rintro e w6⟨rfl,hx⟩);(replace H:=qh (H.out.on hx));(obtain⟨s0,t0,_⟩:=H.out.cells);clear hx))
  all_goals
   rw[HVQ.out,HVR.out];go_wp2_with fail;go_ret3
   exact⟨rfl,H.out.ext⟩
end
section
open Go.RowKit
structure Fr where
 num:Bs
 den:Bs
def iy(n d:Int):Int:=(if d<0 then -n else n) / (Int.gcd n d:Nat)
def fR(n d:Int):Int:=(d.natAbs / Int.gcd n d:Nat)
def Ds(n d:Int):Fr:=⟨ofI (iy n d),if fR n d=1 then [] else ofI (fR n d)⟩
theorem pP{n d:Int}(hd:d≠0):0<Int.gcd n d:=Int.gcd_pos_of_ne_zero_right _ hd
theorem vy{n d:Int}(_hd:d≠0):iy n d*(Int.gcd n d:Nat)=if d<0 then -n else n:=by
 unfold iy;apply Int.ediv_mul_cancel;split
 ·exact Int.dvd_neg.2 (Int.gcd_dvd_left n d)
 ·exact Int.gcd_dvd_left n d
theorem vA{n d:Int}(_hd:d≠0):fR n d*(Int.gcd n d:Nat)=d.natAbs:=by
 unfold fR;rw[←Int.natCast_mul];congr 1
 apply Nat.div_mul_cancel;exact Nat.gcd_dvd_right n.natAbs d.natAbs
def Hz(f:Fr):Int:=valI f.num
def oX(f:Fr):Int:=if valI f.den=0 then 1 else valI f.den
theorem eT(f:Fr):oX f≠0:=by unfold oX;split;decide;assumption
end
section
open Go.RowKit
def bz(q:Rat):Fr:=⟨ofI q.num,if q.den=1 then [] else ofI q.den⟩
def aj(f:Fr):Rat:=Rat.divInt (Hz f) (oX f)
theorem nZ{n d:Int}(hd:d≠0):iy n d=(Rat.divInt n d).num:=by
 unfold iy;rw[Rat.num_divInt,Int.gcd_comm d n];congr 1
 rcases Int.lt_or_gt_of_ne hd with h|h
 ·rw[if_pos h,Int.sign_eq_neg_one_of_neg h];omega
 ·rw[if_neg (by omega),Int.sign_eq_one_of_pos h];omega
theorem oh{n d:Int}(hd:d≠0):fR n d=(Rat.divInt n d).den:=by
 unfold fR;rw[Rat.den_divInt,if_neg hd,Int.gcd_comm d n]
theorem BS{n d:Int}(hd:d≠0):Ds n d=bz (Rat.divInt n d):=by
 unfold Ds bz;rw[nZ hd,oh hd];congr 1
 by_cases h:(Rat.divInt n d).den=1
 ·rw[if_pos (by omega),if_pos h]
 ·rw[if_neg (by omega),if_neg h]
theorem uC(q:Rat):Hz (bz q)=q.num:=ag _
theorem BT(q:Rat):oX (bz q)=q.den:=by
 have hp:=q.den_pos;unfold oX bz;by_cases h:q.den=1
 ·simp only[if_pos h];rw[h];decide
 ·simp only[if_neg h];rw[ag,if_neg (by omega)]
theorem fE(q:Rat):aj (bz q)=q:=by
 unfold aj;rw[uC,BT];exact Rat.num_divInt_den q
theorem uD(z:Int):bz z=⟨ofI z,[]⟩:=by
 unfold bz;simp
theorem ma:bz 0=⟨[],[]⟩:=by
 have:bz ((0:Int):Rat)=⟨[],[]⟩:=by rw[uD];rw[show ofI 0=[] by unfold ofI;simp[dig10_zero]]
 exact this
def QB(L:Nat)(q:Rat):Prop:=q.num.natAbs<10 ^ L∧q.den<10 ^ L
theorem mI{L:Nat}{n d:Int}(hL:0<L)(hn:n.natAbs<10 ^ L)(hd:d.natAbs<10 ^ L):QB L (Rat.divInt n d):=by
 have h1:1<10 ^ L:=Nat.one_lt_pow (by omega) (by decide);constructor
 ·rw[Rat.num_divInt];refine Nat.lt_of_le_of_lt ?_ hn;refine Nat.le_trans (Int.natAbs_ediv_le_natAbs _ _) ?_;rw[Int.natAbs_mul]
  have:d.sign.natAbs≤1:=by
   rcases Int.lt_trichotomy d 0 with h|h|h
   ·rw[Int.sign_eq_neg_one_of_neg h];decide
   ·rw[h];decide
   ·rw[Int.sign_eq_one_of_pos h];decide
  exact Nat.le_trans (Nat.mul_le_mul_right _ this) (Nat.le_of_eq (Nat.one_mul _))
 ·rw[Rat.den_divInt];split
  ·exact h1
  ·exact Nat.lt_of_le_of_lt (Nat.div_le_self _ _) hd
theorem QB.neg{L:Nat}{q:Rat}(h:QB L q):QB L (-q):=⟨by rw[Rat.neg_num,Int.natAbs_neg];exact h.1,h.2⟩
theorem eK{a b L M:Nat}(ha:a<10 ^ L)(hb:b<10 ^ M):a*b<10 ^ (L+M):=by
 rw[Nat.pow_add];rcases Nat.eq_zero_or_pos b with h|h
 ·subst h;rw[Nat.mul_zero];exact Nat.mul_pos (Nat.pow_pos (by decide)) (Nat.pow_pos (by decide))
 ·exact Nat.lt_of_lt_of_le (Nat.mul_lt_mul_of_pos_right ha h) (Nat.mul_le_mul_left _ (by omega))
theorem QB.pos{L:Nat}{q:Rat}(h:QB L q):0<L:=by
 rcases Nat.eq_zero_or_pos L with h0|h0
 ·subst h0;have:=h.2;have:=q.den_pos;omega
 ·exact h0
theorem gV{a b L:Nat}(ha:a<10 ^ L)(hb:b<10 ^ L):a+b<10 ^ (L+1):=by rw[Nat.pow_succ];omega
theorem QB.mul{L M:Nat}{p q:Rat}(h:QB L p)(k:QB M q):QB (L+M) (p*q):=by
 rw[Rat.mul_def',←Rat.divInt_ofNat];refine mI (by have:=h.pos;omega) ?_ ?_
 ·rw[Int.natAbs_mul];exact eK h.1 k.1
 ·rw[Int.natAbs_natCast];exact eK h.2 k.2
theorem QB.add{L M:Nat}{p q:Rat}(h:QB L p)(k:QB M q):QB (L+M+1) (p+q):=by
 rw[Rat.add_def',←Rat.divInt_ofNat];refine mI (by omega) ?_ ?_
 ·refine Nat.lt_of_le_of_lt (Int.natAbs_add_le _ _) ?_;rw[Int.natAbs_mul,Int.natAbs_mul,Int.natAbs_natCast,Int.natAbs_natCast];refine gV (eK h.1 k.2) ?_;rw[Nat.add_comm L M];exact eK k.1 h.2
 ·rw[Int.natAbs_natCast];have:=eK h.2 k.2;rw[Nat.pow_succ];omega
theorem QB.sub{L M:Nat}{p q:Rat}(h:QB L p)(k:QB M q):QB (L+M+1) (p-q):=by
 rw[Rat.sub_eq_add_neg];exact h.add k.neg
theorem lH{L:Nat}{z:Int}(hL:0<L)(h:z.natAbs<10 ^ L):QB L (z:Rat):=⟨by simpa using h,by simp;exact Nat.one_lt_pow (by omega) (by decide)⟩
theorem bu{z:Int}{L:Nat}(h:z.natAbs<10 ^ L):(ofI z).length≤L+1:=by
 have:=eY h;unfold ofI;split
 ·rw[List.length_cons];omega
 ·omega
theorem QB.num_len{L:Nat}{q:Rat}(h:QB L q):(bz q).num.length≤L+1:=bu h.1
theorem QB.den_len{L:Nat}{q:Rat}(h:QB L q):(bz q).den.length≤L+1:=by
 unfold bz;simp only;split
 ·simp
 ·exact bu (by rw[Int.natAbs_natCast];exact h.2)
theorem aF{l:Bs}{L:Nat}(h:l.length≤L):(valI l).natAbs<10 ^ L:=by
 have h1:=natOf_lt (mag_all l);have h2:10 ^ (mag l).length≤10 ^ L:=Nat.pow_le_pow_right (by decide) (Nat.le_trans (mag_le l) h);unfold valI;split <;> omega
theorem fm{f:Fr}{L:Nat}(h1:f.num.length≤L)(h2:f.den.length≤L)(h0:0<L):QB L (aj f):=by
 refine mI h0 (aF h1) ?_;unfold oX;split
 ·exact Nat.one_lt_pow (by omega) (by decide)
 ·exact aF h2
theorem vB(z:Int):Rat.divInt z 1=(z:Rat):=by
 rw[Rat.divInt_eq_div];simp only[Rat.intCast_one];grind
theorem BU(q:Rat):q.num<0↔q<0:=by
 have:=Rat.num_nonneg (q:=q);grind
def bN(p q:Rat):Int:=if p<q then -1 else if p=q then 0 else 1
theorem yY(p q:Rat):cmpI (p-q).num 0=bN p q:=by
 unfold cmpI bN;have h1:=BU (p-q);have h2:(p-q).num=0↔p-q=0:=Rat.num_eq_zero;have h3:p-q<0↔p<q:=by grind
 have h4:p-q=0↔p=q:=by grind
 by_cases a:p<q
 ·rw[if_pos (h1.2 (h3.2 a)),if_pos a]
 ·rw[if_neg (fun h=>a (h3.1 (h1.1 h))),if_neg a];by_cases b:p=q
  ·rw[if_pos (h2.2 (h4.2 b)),if_pos b]
  ·rw[if_neg (fun h=>b (h4.1 (h2.1 h))),if_neg b]
theorem om{p q:Rat}:bN p q<0↔p<q:=by unfold bN;split <;> (try split) <;> simp_all
theorem yZ{p q:Rat}:0<bN p q↔q<p:=by
 unfold bN;split
 ·simp;grind
 ·split
  ·simp;grind
  ·simp;grind
theorem gj{x y:Bs}{L M:Nat}(hx:x.length≤L)(hy:y.length≤M):(ofI (valI x*valI y)).length≤L+M+1:=bu (by rw[Int.natAbs_mul];exact eK (aF hx) (aF hy))
theorem j8{x y:Bs}{L:Nat}(hx:x.length≤L)(hy:y.length≤L):(ofI (valI x+valI y)).length≤L+2:=bu (Nat.lt_of_le_of_lt (Int.natAbs_add_le _ _) (gV (aF hx) (aF hy)))
theorem nd{x y:Bs}{L:Nat}(hx:x.length≤L)(hy:y.length≤L):(ofI (valI x-valI y)).length≤L+2:=bu (Nat.lt_of_le_of_lt (Int.natAbs_sub_le _ _) (gV (aF hx) (aF hy)))
end
end Go.Proofs.YthgpheopnhajaaaGreatDoor
