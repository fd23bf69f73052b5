/- The seat's texts, part P7. -/
import Derived.Test.YtaegjkllenlfpaaGreatDoorP0
import Derived.Test.YtaegjkllenlfpaaGreatDoorP1
import Derived.Test.YtaegjkllenlfpaaGreatDoorP3
import Derived.Test.YtaegjkllenlfpaaGreatDoorP5
import Derived.Test.YtaegjkllenlfpaaGreatDoorP6
import Derived.Test.YtaegjkllenlfpaaGreatDoorProg
set_option maxRecDepth 100000
set_option maxHeartbeats 8000000
namespace Go.Proofs.YtaegjkllenlfpaaGreatDoor
section
open Go.RowKit
def fS(x y:Int):Int:=if y<0 then(-x) / (-y) else x / y
def iu(x y:Int):Int:=x-y*fS x y
theorem oE{x y q r:Int}(h:x=q*y+r)(h0:0≤r)(h1:r<y):x / y=q:=by
 have hy:0<y:=by omega
 rw[h,Int.add_comm,Int.add_mul_ediv_right r q (by omega),Int.ediv_eq_zero_of_lt h0 h1,Int.zero_add]
theorem oG{x y q r:Int}(h:x=q*y+r)(hr:(0≤r∧r<y)∨(y<r∧r≤0)):fS x y=q∧iu x y=r:=by
 have hd:fS x y=q:=by
  unfold fS;rcases hr with ⟨h0,h1⟩ | ⟨h0,h1⟩
  ·rw[if_neg (by omega)];exact oE h h0 h1
  ·rw[if_pos (by omega)];refine oE (r := -r) ?_ (by omega) (by omega);rw[h,Int.neg_add,Int.mul_neg]
 refine⟨hd,?_⟩;unfold iu;rw[hd,h,Int.mul_comm y q];omega
theorem Bg{sx sy:Bool}{X Y:Nat}(hY:0<Y)(h:sx=sy∨X % Y=0):fS (sgn sx X) (sgn sy Y)=sgn (sx != sy) (X / Y)∧iu (sgn sx X) (sgn sy Y)=sgn sy (X % Y):=by
 have hd:=Nat.div_add_mod X Y;have hm:=Nat.mod_lt X hY
 have hdI:(X:Int)=(X / Y:Nat)*(Y:Int)+(X % Y:Nat):=by
  rw[←Int.natCast_mul,←Int.natCast_add,Nat.mul_comm,hd]
 generalize X / Y=q at *;generalize X % Y=r at *;apply oG
 ·rcases h with h|h
  ·subst h
   cases sx
   ·show(X:Int)=(q:Int)*Y+r;exact hdI
   ·show -(X:Int)=(q:Int) * -(Y:Int) + -(r:Int);rw[hdI,Int.mul_neg];omega
  ·subst h
   cases sx <;> cases sy
   ·show(X:Int)=(q:Int)*Y+((0:Nat):Int);exact hdI
   ·show(X:Int) = -(q:Int) * -(Y:Int) + -((0:Nat):Int);rw[hdI,Int.neg_mul_neg];omega
   ·show -(X:Int) = -(q:Int)*(Y:Int)+((0:Nat):Int);rw[hdI,Int.neg_mul];omega
   ·show -(X:Int)=(q:Int) * -(Y:Int) + -((0:Nat):Int);rw[hdI,Int.mul_neg];omega
 ·cases sy
  ·left;show 0≤(r:Int)∧(r:Int)<Y;omega
  ·right;show -(Y:Int) < -(r:Int) ∧ -(r:Int)≤0;omega
theorem yD{sx sy:Bool}{X Y:Nat}(hY:0<Y)(hs:sx≠sy)(h0:X % Y≠0):fS (sgn sx X) (sgn sy Y)=sgn true (X / Y+1)∧iu (sgn sx X) (sgn sy Y)=sgn sy (Y-X % Y):=by
 have hd:=Nat.div_add_mod X Y;have hm:=Nat.mod_lt X hY
 have hdI:(X:Int)=(X / Y:Nat)*(Y:Int)+(X % Y:Nat):=by
  rw[←Int.natCast_mul,←Int.natCast_add,Nat.mul_comm,hd]
 generalize X / Y=q at *;generalize X % Y=r at *;have e:((Y-r:Nat):Int)=(Y:Int)-r:=by omega
 apply oG
 ·cases sx <;> cases sy
  ·exact absurd rfl hs
  ·show(X:Int) = -((q+1:Nat):Int) * -(Y:Int) + -((Y-r:Nat):Int);rw[Int.neg_mul_neg,e,hdI,Int.natCast_add,Int.add_mul];simp;omega
  ·show -(X:Int) = -((q+1:Nat):Int)*(Y:Int)+((Y-r:Nat):Int);rw[Int.neg_mul,e,hdI,Int.natCast_add,Int.add_mul];simp;omega
  ·exact absurd rfl hs
 ·cases sy
  ·left;show 0≤((Y-r:Nat):Int)∧((Y-r:Nat):Int)<Y;omega
  ·right;show -(Y:Int) < -((Y-r:Nat):Int) ∧ -((Y-r:Nat):Int)≤0;omega
def cmpI(x y:Int):Int:=if x<y then -1 else if x=y then 0 else 1
end
section
open Go.RowKit
def lt(a b:Bs):Bool:=Op.bytesLess a b
end
section
open Go.RowKit
theorem Gb{c:UInt8}(h:isD c=true):c.toNat=dx c+48:=by have:=(fM c).1 h;unfold dx;omega
theorem xh(c:UInt8)(r:Bs):ap (c :: r)=dx c*10 ^ r.length+ap r:=by
 have:=ew [c] r;rw[show ap [c]=dx c by show 10*0+dx c=_;omega]at this
 exact this
theorem Eo{t:Bs}(ht:t.all isD=true)(hl:iq t)(hn:t≠[]):10 ^ (t.length-1)≤ap t:=by
 cases t with
 |nil=>exact absurd rfl hn
 |cons c r =>
  simp only[List.all_cons,Bool.and_eq_true]at ht;rw[xh,List.length_cons,Nat.add_sub_cancel];have h1:=hl c r rfl;have h2:=Gb ht.1;have h3:dx c≠0:=fun h=>h1 (UInt8.toNat_inj.1 (by rw[h2,h];rfl))
  have:1*10 ^ r.length≤dx c*10 ^ r.length:=Nat.mul_le_mul_right _ (by omega);omega
theorem wh{l:Bs}(h:neg l=true):0<ap (mag l):=by
 have h0:mag l≠[]:=by
  unfold neg at h
  first
   |(intro e;simp[e]at h)
   |(intro e;unfold negT at h;rw[show magT (strip l)=mag l from rfl,e]at h;simp at h)
 have:=Eo (gI l) (jr l) h0;exact Nat.lt_of_lt_of_le (Nat.pow_pos (by decide)) this
end
section
open Go.RowKit
attribute [local go_sem] size_bs toList_bs
theorem rX(x y:Nat)(hy:0<y)(A A':Option Addr)(c c':Nat)(w:World)(hA:RdU w A (gr x))(hA':RdU w A' (gr y))(hn:(gr x).length≤900000)(hn':(gr y).length≤900000)(hc:(gr x).length≤c)(hm:c≤maxLen) :
  Calls Tryz.prog 263 #[.slice A (gr x).length c,.slice A' (gr y).length c'] w (nR (x / y) (x % y) w):=by
 rcases Nat.lt_or_ge x y with h|h
 ·exact tD x y h A A' c c' w hA hA' (by omega) (by omega) hc hm
 ·rcases Nat.lt_or_ge (gr y).length 2 with h2|h2
  ·have h0:(gr y).length≠0:=by
    intro e;have e2:gr y=[]:=List.length_eq_zero_iff.1 e;have e3:y=0:=iX (by rw[e2,bh]);omega
   exact sN x y h (by omega) A A' c c' w hA hA' (by omega)
  ·exact qD x y h h2 A A' c c' w hA hA' hn hn'
theorem Gc(a:Bs)(w:World)(ha:a.length≤100000)(hE:Env w) :
  Calls Tryz.prog 223 #[.string (bs a)] w fun e w'=>e = .returned (.string (bs (af (-(valI a)))))∧Ext w w':=by
 have HR1:=qh (fun W=>dA a W (by omega));have HL1:Hid ((gr (ap (mag a))).length≤1000000):=qh (by have:=cJ (bZ a ha);omega);have HE:=qh hE;have HV:Hid (ey (!(neg a)) (ap (mag a))=af (-(valI a))):=qh (by rw[gJ,wg];rfl);generalize af (-(valI a))=z at *;generalize ap (mag a)=x at *;generalize neg a=ba at *;clear ha hE;go_enter Tryz.func223,Tryz.ntmps223;go_wp2_with fail;refine(HR1.out _).mono ?_;rintro e w1⟨A,c,rfl,hrd1,hx1,hc1,hc2⟩;have HD1:=qh hrd1;have HX1:=qh hx1;have HC:=qh (And.intro hc1 hc2);clear hrd1 hx1 hc1 hc2;go_wp2_with fail;have HX2:Hid (Ext w (w1.alloc (.cells #[.bool (!ba),.slice A (gr x).length c] 112))):=qh (HX1.out.alloc _);refine(dc (!ba) x A c _ (HD1.out.ext (Ext.new _ _)) HL1.out HC.out.1 HC.out.2 (HE.out.ext HX2.out)).mono ?_;rintro e w5⟨rfl,hx5⟩;rw[HV.out];go_wp2_with fail;go_ret;exact⟨rfl,HX2.out.trans hx5⟩
theorem Gd{a b:Bool}{x y:Nat}{r:Int}(ha:a=true→0<x)(hb:b=true→0<y)(h:(r<0∧x<y)∨(r=0∧x=y)∨(0<r∧y<x)):cmpI (sgn a x) (sgn b y)=max (-1) (min (if(!(a == b))=true then(if a then -1 else 1) else if a then -r else r) 1):=by
 unfold cmpI sgn
 cases a <;> cases b
 ·simp;split <;> (try split) <;> omega
 ·have:=hb rfl;simp;omega
 ·have:=ha rfl;simp;omega
 ·simp;split <;> (try split) <;> omega
theorem Gf(a b:Bs)(w:World)(ha:a.length≤100000)(hb:b.length≤100000) :
  Calls Tryz.prog 16 #[.string (bs a),.string (bs b)] w fun e w'=>e = .returned (.int .i64 (cmpI (valI a) (valI b)))∧Ext w w':=by
 have HR1:=qh (fun W=>dA a W (by omega));have HR2:=qh (fun W=>dA b W (by omega));have HL1:Hid ((gr (ap (mag a))).length≤1000000):=qh (by have:=cJ (bZ a ha);omega);have HL2:Hid ((gr (ap (mag b))).length≤1000000):=qh (by have:=cJ (bZ b hb);omega);have HV:=qh (fun r h=>Gd (a:=neg a) (b:=neg b) (x:=ap (mag a)) (y:=ap (mag b)) (r:=r) wh wh h);rw[show sgn (neg a) (ap (mag a))=valI a from rfl,show sgn (neg b) (ap (mag b))=valI b from rfl]at HV;generalize cmpI (valI a) (valI b)=z at *;generalize ap (mag a)=x at *;generalize ap (mag b)=y at *;generalize neg a=ba at *;generalize neg b=bb at *;clear ha hb;go_enter Tryz.func16,Tryz.ntmps16;go_wp2_with fail;refine(HR1.out _).mono ?_;rintro e w1⟨A,c,rfl,hrd1,hx1,_,_⟩;go_wp2_with fail;refine(HR2.out _).mono ?_;rintro e w2⟨A',c',rfl,hrd2,hx2,_,_⟩;have HB1:=qh ((Blk.new w2 112 #[.bool ba,.slice A (gr x).length c]).alloc (.cells #[.bool bb,.slice A' (gr y).length c'] 112));have HB2:=qh (blk_at (w2.alloc (.cells #[.bool ba,.slice A (gr x).length c] 112)) 112 #[.bool bb,.slice A' (gr y).length c'] (w2.heap.size+1) (by simp));have HX:Hid (Ext w ((w2.alloc (.cells #[.bool ba,.slice A (gr x).length c] 112)).alloc (.cells #[.bool bb,.slice A' (gr y).length c'] 112))):=qh (((hx1.trans hx2).alloc _).alloc _);have HD1:=qh (((hrd1.ext hx2).ext (Ext.new _ (.cells #[.bool ba,.slice A (gr x).length c] 112))).ext (Ext.new _ (.cells #[.bool bb,.slice A' (gr y).length c'] 112)));have HD2:=qh ((hrd2.ext (Ext.new _ (.cells #[.bool ba,.slice A (gr x).length c] 112))).ext (Ext.new _ (.cells #[.bool bb,.slice A' (gr y).length c'] 112)));clear hrd1 hrd2 hx1 hx2;go_wp2_with fail;generalize ((w2.alloc (.cells #[.bool ba,.slice A (gr x).length c] 112)).alloc (.cells #[.bool bb,.slice A' (gr y).length c'] 112))=W at *;generalize w2.heap.size=g at *;refine(oC x y A A' c c' _ HD1.out HD2.out HL1.out HL2.out).mono ?_;rintro e w4⟨hx,r,rfl,hcase,hr1,hr2⟩;have x0:=(HB1.out.ext hx).cell 0;have y0:=(HB2.out.ext hx).cell 0;simp only[List.getElem?_toArray,List.getElem?_cons_zero]at x0 y0;replace HX:=HX.qt hx;have HZ:=qh (HV.out r hcase);clear hx hcase
 cases ba <;> cases bb
 all_goals
  go_wp2_with fail;go_ret;exact⟨by rw[HZ.out];simp,HX.out⟩
end
section
open Go.RowKit
attribute [local go_sem] size_bs toList_bs
structure DvAt (w:World) (g:Nat) (ba bb:Bool) (A A' A1 A2:Option Addr) (x y q r c c':Nat) (W:World):Prop where
 ext:Ext w W
 b1:Blk W g 112 #[.bool ba,.slice A (gr x).length c]
 b2:Blk W (g+1) 112 #[.bool bb,.slice A' (gr y).length c']
 ry:RdU W A' (gr y)
 rq:RdU W A1 (gr q)
 rr:RdU W A2 (gr r)
theorem DvAt.on{w:World}{g:Nat}{ba bb:Bool}{A A' A1 A2:Option Addr}{x y q r c c':Nat}{W W':World}(h:DvAt w g ba bb A A' A1 A2 x y q r c c' W)(hx:Ext W W'):DvAt w g ba bb A A' A1 A2 x y q r c c' W' :=
 ⟨h.ext.trans hx,h.b1.ext hx,h.b2.ext hx,h.ry.ext hx,h.rq.ext hx,h.rr.ext hx⟩
theorem DvAt.cells{w:World}{g:Nat}{ba bb:Bool}{A A' A1 A2:Option Addr}{x y q r c c':Nat}{W:World}(h:DvAt w g ba bb A A' A1 A2 x y q r c c' W):W.cell? ⟨g,0,none⟩=some (.bool ba)∧W.cell? ⟨g+1,0,none⟩=some (.bool bb)∧W.cell? ⟨g+1,1,none⟩=some (.slice A' (gr y).length c'):=by
 have x0:=h.b1.cell 0;have y0:=h.b2.cell 0;have y1:=h.b2.cell 1;simp only[List.getElem?_toArray,List.getElem?_cons_zero,List.getElem?_cons_succ]at x0 y0 y1;exact⟨x0,y0,y1⟩
theorem qE{W:World}{g:Nat}(h:W.heap.size=g):RdU (W.alloc (.cells #[.int .u64 1] 173)) (some ⟨g,0,none⟩) [1]:=by
 subst h;exact Reads.lit rfl
theorem DT{m n L:Nat}(h:n≤m+1)(hm:m<10 ^ L)(hL:L≤100000):(gr n).length≤1000000:=by
 have h1:n<10 ^ (L+1):=by rw[Nat.pow_succ];omega
 have:=cJ h1;omega
theorem II(a b:Bs)(w:World)(ha:a.length≤100000)(hb:b.length≤100000)(h0:ap (mag b)=0) :
  Calls Tryz.prog 180 #[.string (bs a),.string (bs b)] w fun e w'=>e = .returned (.tuple #[.string (bs []),.string (bs []),.int .i64 10])∧Ext w w':=by
 have HR1:=qh (fun W=>dA a W (by omega));have HR2:=qh (fun W=>dA b W (by omega));rw[h0,bh]at HR2;generalize ap (mag a)=x at *;generalize neg a=ba at *;generalize neg b=bb at *;clear ha hb h0;go_enter Tryz.func180,Tryz.ntmps180;go_wp2_with fail;refine(HR1.out _).mono ?_;rintro e w1⟨A,c,rfl,hrd1,hx1,_,_⟩;go_wp2_with fail;refine(HR2.out _).mono ?_;rintro e w2⟨A',c',rfl,hrd2,hx2,_,_⟩;have HX:Hid (Ext w ((w2.alloc (.cells #[.bool ba,.slice A (gr x).length c] 112)).alloc (.cells #[.bool bb,.slice A' 0 c'] 112))):=qh (((hx1.trans hx2).alloc _).alloc _);clear hrd1 hrd2 hx1 hx2;go_wp2_with fail;go_ret3
 exact⟨rfl,HX.out⟩
theorem vC(a b:Bs)(w:World)(ha:a.length≤100000)(hb:b.length≤100000)(h0:0<ap (mag b))(hE:Env w) :
  Calls Tryz.prog 180 #[.string (bs a),.string (bs b)] w fun e w'=>e = .returned (.tuple #[.string (bs (af (fS (valI a) (valI b)))),.string (bs (af (iu (valI a) (valI b)))),.int .i64 0])∧Ext w w':=by
 have HR1:=qh (fun W=>dA a W (by omega));have HR2:=qh (fun W=>dA b W (by omega));obtain⟨L,hLa,hLb,hL⟩:∃L:Nat,a.length≤L∧b.length≤L∧L≤100000:=⟨max a.length b.length,by omega,by omega,by omega⟩;have HL1:Hid ((gr (ap (mag a))).length≤900000):=qh (by have:=cJ (bZ a hLa);omega);have HL2:Hid ((gr (ap (mag b))).length≤900000):=qh (by have:=cJ (bZ b hLb);omega);have HLQ:Hid (∀n,n≤ap (mag a)+1→(gr n).length≤1000000):=qh (fun n h=>DT h (bZ a hLa) hL);have HLR:Hid (∀n,n≤ap (mag b)+1→(gr n).length≤1000000):=qh (fun n h=>DT h (bZ b hLb) hL);have HE:=qh hE
 have HS:Hid ((neg a=neg b∨ap (mag a) % ap (mag b)=0)→ey (neg a != neg b) (ap (mag a) / ap (mag b))=af (fS (valI a) (valI b))∧ey (neg b) (ap (mag a) % ap (mag b))=af (iu (valI a) (valI b))):=qh (fun h=>by
  have:=Bg h0 h;rw[gJ,gJ,←this.1,←this.2];exact⟨rfl,rfl⟩)
 have HO:Hid (neg a≠neg b→ap (mag a) % ap (mag b)≠0→ey true (ap (mag a) / ap (mag b)+1)=af (fS (valI a) (valI b))∧ey (neg b) (ap (mag b)-ap (mag a) % ap (mag b))=af (iu (valI a) (valI b))):=qh (fun h h2=>by
  have:=yD h0 h h2;rw[gJ,gJ,←this.1,←this.2];exact⟨rfl,rfl⟩)
 generalize af (fS (valI a) (valI b))=zq at *;generalize af (iu (valI a) (valI b))=zr at *;generalize ap (mag a)=x at *;generalize ap (mag b)=y at *;generalize neg a=ba at *;generalize neg b=bb at *
 have hyl:0<(gr y).length:=by
  rcases Nat.eq_zero_or_pos (gr y).length with e|e
  ·have e3:y=0:=iX (by rw[List.length_eq_zero_iff.1 e,bh]);omega
  ·exact e
 clear ha hb hLa hLb hE;go_enter Tryz.func180,Tryz.ntmps180;go_wp2_with fail;refine(HR1.out _).mono ?_;rintro e w1⟨A,c,rfl,hrd1,hx1,hca,hcm⟩;have HC:=qh (And.intro hca hcm);clear hca hcm;go_wp2_with fail;refine(HR2.out _).mono ?_;rintro e w2⟨A',c',rfl,hrd2,hx2,_,_⟩;have HB1:=qh ((Blk.new w2 112 #[.bool ba,.slice A (gr x).length c]).alloc (.cells #[.bool bb,.slice A' (gr y).length c'] 112));have HB2:=qh (blk_at (w2.alloc (.cells #[.bool ba,.slice A (gr x).length c] 112)) 112 #[.bool bb,.slice A' (gr y).length c'] (w2.heap.size+1) (by simp));have HX:Hid (Ext w ((w2.alloc (.cells #[.bool ba,.slice A (gr x).length c] 112)).alloc (.cells #[.bool bb,.slice A' (gr y).length c'] 112))):=qh (((hx1.trans hx2).alloc _).alloc _);have HD1:=qh (((hrd1.ext hx2).ext (Ext.new _ (.cells #[.bool ba,.slice A (gr x).length c] 112))).ext (Ext.new _ (.cells #[.bool bb,.slice A' (gr y).length c'] 112)));have HD2:=qh ((hrd2.ext (Ext.new _ (.cells #[.bool ba,.slice A (gr x).length c] 112))).ext (Ext.new _ (.cells #[.bool bb,.slice A' (gr y).length c'] 112)));clear hrd1 hrd2 hx1 hx2;go_wp2_with fail;generalize ((w2.alloc (.cells #[.bool ba,.slice A (gr x).length c] 112)).alloc (.cells #[.bool bb,.slice A' (gr y).length c'] 112))=W at *;generalize w2.heap.size=g at *;refine(rX x y h0 A A' c c' _ HD1.out HD2.out HL1.out HL2.out HC.out.1 HC.out.2).mono ?_;rintro e w4⟨A1,c1,A2,c2,rfl,hrq,hrr,hx,hq,hr⟩;have H:Hid (DvAt w g ba bb A A' A1 A2 x y (x / y) (x % y) c c' w4):=qh ⟨HX.out.trans hx,HB1.out.ext hx,HB2.out.ext hx,HD2.out.ext hx,hrq,hrr⟩;have HCQ:=qh hq;have HCR:=qh hr;have hrl:x % y<y:=Nat.mod_lt _ h0;have hql:x / y≤x:=Nat.div_le_self _ _;have HLq:=qh (HLQ.out (x / y) (by omega));have HLr:=qh (HLR.out (x % y) (by omega));have HLq1:=qh (HLQ.out (x / y+1) (by omega));have HLr1:=qh (HLR.out (y-x % y) (by omega));have HMI:=qh (fun W hW hW'=>intMinus y (x % y) (by omega) A' A2 c' c2 W hW hW' (by have:=HL2.out;omega) HLr.out)
 have HPL:Hid (∀W B,RdU W A1 (gr (x / y))→RdU W B [1]→Calls Tryz.prog 140 #[.slice A1 (gr (x / y)).length c1,.slice B 1 1] W (MagEnds (x / y+1) W)):=qh (fun W B h1 h2=>by
  have e1:gr 1=[1]:=mK (by decide) (by decide);have:=intPlus (x / y) 1 A1 B c1 1 W h1 (by rw[e1];exact h2) HLq.out (by rw[e1];simp);rw[e1]at this
  exact this)
 clear hrq hrr hx hq hr HB1 HB2 HX HD1 HD2 HR1 HR2 HL1 HL2 HLQ HLR hrl hql
 cases ba <;> cases bb
 ·have HVQ:Hid (ey false (x / y)=zq):=qh (HS.out (.inl rfl)).1;have HVR:Hid (ey false (x % y)=zr):=qh (HS.out (.inl rfl)).2;clear HLq1 HLr1 HMI HPL HS HO;generalize x / y=qq at *;generalize x % y=rr at *;have HT2:=qh (fun s W h1 h2=>dc s rr A2 c2 W h1 HLr.out HCR.out.1 HCR.out.2 h2);obtain⟨x0,y0,y1⟩:=H.out.cells;go_wp2_with fail;replace H:=qh (H.out.on (Ext.refl _).drew)
  go_region_held3 (fun w'=>w'.cell? ⟨g,0,none⟩=some (.bool false)∧w'.cell? ⟨g+1,0,none⟩=some (.bool false))
   (go_keep)
   (first
    |(go_at_call 69;((with_reducible refine(dc _ qq A1 c1 _ H.out.rq HLq.out HCQ.out.1 HCQ.out.2 (HE.out.ext H.out.ext)).mono ?_);rintro e w5⟨rfl,hx⟩);(replace H:=qh (H.out.on hx));(obtain⟨u0,v0,_⟩:=H.out.cells);clear hx)
    |(go_at_call 69;((with_reducible refine(HT2.out _ _ H.out.rr (HE.out.ext H.out.ext)).mono ?_);rintro e w6⟨rfl,hx⟩);(replace H:=qh (H.out.on hx));(obtain⟨s0,t0,_⟩:=H.out.cells);clear hx))
  all_goals
   rw[HVQ.out,HVR.out];go_wp2_with fail;go_ret3
   exact⟨rfl,H.out.ext⟩
 ·by_cases hz:x % y=0
  ·have HVQ:Hid (ey true (x / y)=zq):=qh (HS.out (.inr hz)).1;have HVR:Hid (ey true (x % y)=zr):=qh (HS.out (.inr hz)).2;have hl0:(gr (x % y)).length=0:=by rw[hz,bh];rfl
   clear HLq1 HLr1 HMI HPL HS HO hz;generalize x / y=qq at *;generalize x % y=rr at *;have HT2:=qh (fun s W h1 h2=>dc s rr A2 c2 W h1 HLr.out HCR.out.1 HCR.out.2 h2);rw[hl0]at HT2;obtain⟨x0,y0,y1⟩:=H.out.cells;go_wp2_with fail;replace H:=qh (H.out.on (Ext.refl _).drew)
   go_region_held3 (fun w'=>w'.cell? ⟨g,0,none⟩=some (.bool false)∧w'.cell? ⟨g+1,0,none⟩=some (.bool true))
    (go_keep)
    (first
     |(go_at_call 69;((with_reducible refine(dc _ qq A1 c1 _ H.out.rq HLq.out HCQ.out.1 HCQ.out.2 (HE.out.ext H.out.ext)).mono ?_);rintro e w5⟨rfl,hx⟩);(replace H:=qh (H.out.on hx));(obtain⟨u0,v0,_⟩:=H.out.cells);clear hx)
     |(go_at_call 69;((with_reducible refine(HT2.out _ _ H.out.rr (HE.out.ext H.out.ext)).mono ?_);rintro e w6⟨rfl,hx⟩);(replace H:=qh (H.out.on hx));(obtain⟨s0,t0,_⟩:=H.out.cells);clear hx))
   all_goals
    rw[HVQ.out,HVR.out];go_wp2_with fail;go_ret3
    exact⟨rfl,H.out.ext⟩
  ·have HVQ:Hid (ey true (x / y+1)=zq):=qh (HO.out (by decide) hz).1;have HVR:Hid (ey true (y-x % y)=zr):=qh (HO.out (by decide) hz).2
   have hl0:0<(gr (x % y)).length:=by
    rcases Nat.eq_zero_or_pos (gr (x % y)).length with e|e
    ·exact absurd (iX (by rw[List.length_eq_zero_iff.1 e,bh]):x % y=0) hz
    ·exact e
   clear HS HO hz HLq HLr HCQ HCR;generalize x / y=q0 at *;generalize x % y=r0 at *;obtain⟨x0,y0,y1⟩:=H.out.cells;have hgs:=H.out.b2.lt;go_wp2_with fail;have H0:=H;replace H:=qh (H.out.on (Ext.refl _).drew);obtain⟨x2,y2,y3⟩:=H.out.cells
   go_region_held3 (fun w'=>w'.cell? ⟨g+1,1,none⟩=some (.slice A' (gr y).length c'))
    (go_keep)
    (first
     |(go_at_call 140;((with_reducible refine(HPL.out _ _ ((H0.out.on (Ext.new _ _)).on (Ext.refl _).drew).rq ((qE (by first|rfl|simp)).ext (Ext.refl _).drew)).mono ?_);rintro e w5⟨A3,c3,rfl,hrd3,hx,hc3,hm3⟩);(replace H:=qh (((H0.out.on (Ext.new _ _)).on (Ext.refl _).drew).on hx));(have HCQ:=qh (And.intro hc3 hm3));(have HRQ:=qh hrd3);(obtain⟨_,_,v1⟩:=H.out.cells);(try (replace HRR:=qh (HRR.out.ext hx)));clear hx hrd3 hc3 hm3)
     |(go_at_call 140;((with_reducible refine(HPL.out _ _ (H.out.on (Ext.new _ _)).rq (qE (by first|rfl|simp))).mono ?_);rintro e w5⟨A3,c3,rfl,hrd3,hx,hc3,hm3⟩);(replace H:=qh ((H.out.on (Ext.new _ _)).on hx));(have HCQ:=qh (And.intro hc3 hm3));(have HRQ:=qh hrd3);(obtain⟨_,_,v1⟩:=H.out.cells);(try (replace HRR:=qh (HRR.out.ext hx)));clear hx hrd3 hc3 hm3)
     |(go_at_call 140;((with_reducible refine(HPL.out _ _ H.out.rq HLIT.out).mono ?_);rintro e w5⟨A3,c3,rfl,hrd3,hx,hc3,hm3⟩);(replace H:=qh (H.out.on hx));(have HCQ:=qh (And.intro hc3 hm3));(have HRQ:=qh hrd3);(obtain⟨_,_,v1⟩:=H.out.cells);(try (replace HRR:=qh (HRR.out.ext hx)));clear hx hrd3 hc3 hm3)
     |(go_at_call 141;((with_reducible refine(HMI.out _ H.out.ry H.out.rr).mono ?_);rintro e w6⟨A4,c4,rfl,hrd4,hx,hc4,hm4⟩);(replace H:=qh (H.out.on hx));(have HCR:=qh (And.intro hc4 hm4));(have HRR:=qh hrd4);(obtain⟨_,_,v1⟩:=H.out.cells);(try (replace HRQ:=qh (HRQ.out.ext hx)));clear hx hrd4 hc4 hm4)
     |(go_at_call 141;((with_reducible refine(HMI.out _ ((H0.out.on (Ext.new _ _)).on (Ext.refl _).drew).ry ((H0.out.on (Ext.new _ _)).on (Ext.refl _).drew).rr).mono ?_);rintro e w6⟨A4,c4,rfl,hrd4,hx,hc4,hm4⟩);(have HLIT:Hid (RdU w6 _ [1]):=qh (((qE rfl).ext (Ext.refl _).drew).ext hx));(replace H:=qh (((H0.out.on (Ext.new _ _)).on (Ext.refl _).drew).on hx));(have HCR:=qh (And.intro hc4 hm4));(have HRR:=qh hrd4);(obtain⟨_,_,v1⟩:=H.out.cells);clear hx hrd4 hc4 hm4))
   all_goals
    replace H:Hid (DvAt w g false true A A' A3 A4 x y (q0+1) (y-r0) c c' _):=qh ⟨H.out.ext,H.out.b1,H.out.b2,H.out.ry,HRQ.out,HRR.out⟩;have HLq:=HLq1;have HLr:=HLr1;clear HLq1 HLr1 HMI HPL HRQ HRR;generalize q0+1=qq at *;generalize y-r0=rr at *;have HT2:=qh (fun s W h1 h2=>dc s rr A4 c4 W h1 HLr.out HCR.out.1 HCR.out.2 h2);obtain⟨x0,y0,y1⟩:=H.out.cells;go_wp2_with fail;replace H:=qh (H.out.on (Ext.refl _).drew)
    go_region_held3 (fun w'=>w'.cell? ⟨g,0,none⟩=some (.bool false)∧w'.cell? ⟨g+1,0,none⟩=some (.bool true))
     (go_keep)
     (first
      |(go_at_call 69;((with_reducible refine(dc _ qq A3 c3 _ H.out.rq HLq.out HCQ.out.1 HCQ.out.2 (HE.out.ext H.out.ext)).mono ?_);rintro e w5⟨rfl,hx⟩);(replace H:=qh (H.out.on hx));(obtain⟨u0,v0,_⟩:=H.out.cells);clear hx)
      |(go_at_call 69;((with_reducible refine(HT2.out _ _ H.out.rr (HE.out.ext H.out.ext)).mono ?_);rintro e w6⟨rfl,hx⟩);(replace H:=qh (H.out.on hx));(obtain⟨s0,t0,_⟩:=H.out.cells);clear hx))
    all_goals
     rw[HVQ.out,HVR.out];go_wp2_with fail;go_ret3
     exact⟨rfl,H.out.ext⟩
 ·by_cases hz:x % y=0
  ·have HVQ:Hid (ey true (x / y)=zq):=qh (HS.out (.inr hz)).1;have HVR:Hid (ey false (x % y)=zr):=qh (HS.out (.inr hz)).2;have hl0:(gr (x % y)).length=0:=by rw[hz,bh];rfl
   clear HLq1 HLr1 HMI HPL HS HO hz;generalize x / y=qq at *;generalize x % y=rr at *;have HT2:=qh (fun s W h1 h2=>dc s rr A2 c2 W h1 HLr.out HCR.out.1 HCR.out.2 h2);rw[hl0]at HT2;obtain⟨x0,y0,y1⟩:=H.out.cells;go_wp2_with fail;replace H:=qh (H.out.on (Ext.refl _).drew)
   go_region_held3 (fun w'=>w'.cell? ⟨g,0,none⟩=some (.bool true)∧w'.cell? ⟨g+1,0,none⟩=some (.bool false))
    (go_keep)
    (first
     |(go_at_call 69;((with_reducible refine(dc _ qq A1 c1 _ H.out.rq HLq.out HCQ.out.1 HCQ.out.2 (HE.out.ext H.out.ext)).mono ?_);rintro e w5⟨rfl,hx⟩);(replace H:=qh (H.out.on hx));(obtain⟨u0,v0,_⟩:=H.out.cells);clear hx)
     |(go_at_call 69;((with_reducible refine(HT2.out _ _ H.out.rr (HE.out.ext H.out.ext)).mono ?_);rintro e w6⟨rfl,hx⟩);(replace H:=qh (H.out.on hx));(obtain⟨s0,t0,_⟩:=H.out.cells);clear hx))
   all_goals
    rw[HVQ.out,HVR.out];go_wp2_with fail;go_ret3
    exact⟨rfl,H.out.ext⟩
  ·have HVQ:Hid (ey true (x / y+1)=zq):=qh (HO.out (by decide) hz).1;have HVR:Hid (ey false (y-x % y)=zr):=qh (HO.out (by decide) hz).2
   have hl0:0<(gr (x % y)).length:=by
    rcases Nat.eq_zero_or_pos (gr (x % y)).length with e|e
    ·exact absurd (iX (by rw[List.length_eq_zero_iff.1 e,bh]):x % y=0) hz
    ·exact e
   clear HS HO hz HLq HLr HCQ HCR;generalize x / y=q0 at *;generalize x % y=r0 at *;obtain⟨x0,y0,y1⟩:=H.out.cells;have hgs:=H.out.b2.lt;go_wp2_with fail;have H0:=H;replace H:=qh (H.out.on (Ext.refl _).drew);obtain⟨x2,y2,y3⟩:=H.out.cells
   go_region_held3 (fun w'=>w'.cell? ⟨g+1,1,none⟩=some (.slice A' (gr y).length c'))
    (go_keep)
    (first
     |(go_at_call 140;((with_reducible refine(HPL.out _ _ ((H0.out.on (Ext.new _ _)).on (Ext.refl _).drew).rq ((qE (by first|rfl|simp)).ext (Ext.refl _).drew)).mono ?_);rintro e w5⟨A3,c3,rfl,hrd3,hx,hc3,hm3⟩);(replace H:=qh (((H0.out.on (Ext.new _ _)).on (Ext.refl _).drew).on hx));(have HCQ:=qh (And.intro hc3 hm3));(have HRQ:=qh hrd3);(obtain⟨_,_,v1⟩:=H.out.cells);(try (replace HRR:=qh (HRR.out.ext hx)));clear hx hrd3 hc3 hm3)
     |(go_at_call 140;((with_reducible refine(HPL.out _ _ (H.out.on (Ext.new _ _)).rq (qE (by first|rfl|simp))).mono ?_);rintro e w5⟨A3,c3,rfl,hrd3,hx,hc3,hm3⟩);(replace H:=qh ((H.out.on (Ext.new _ _)).on hx));(have HCQ:=qh (And.intro hc3 hm3));(have HRQ:=qh hrd3);(obtain⟨_,_,v1⟩:=H.out.cells);(try (replace HRR:=qh (HRR.out.ext hx)));clear hx hrd3 hc3 hm3)
     |(go_at_call 140;((with_reducible refine(HPL.out _ _ H.out.rq HLIT.out).mono ?_);rintro e w5⟨A3,c3,rfl,hrd3,hx,hc3,hm3⟩);(replace H:=qh (H.out.on hx));(have HCQ:=qh (And.intro hc3 hm3));(have HRQ:=qh hrd3);(obtain⟨_,_,v1⟩:=H.out.cells);(try (replace HRR:=qh (HRR.out.ext hx)));clear hx hrd3 hc3 hm3)
     |(go_at_call 141;((with_reducible refine(HMI.out _ H.out.ry H.out.rr).mono ?_);rintro e w6⟨A4,c4,rfl,hrd4,hx,hc4,hm4⟩);(replace H:=qh (H.out.on hx));(have HCR:=qh (And.intro hc4 hm4));(have HRR:=qh hrd4);(obtain⟨_,_,v1⟩:=H.out.cells);(try (replace HRQ:=qh (HRQ.out.ext hx)));clear hx hrd4 hc4 hm4)
     |(go_at_call 141;((with_reducible refine(HMI.out _ ((H0.out.on (Ext.new _ _)).on (Ext.refl _).drew).ry ((H0.out.on (Ext.new _ _)).on (Ext.refl _).drew).rr).mono ?_);rintro e w6⟨A4,c4,rfl,hrd4,hx,hc4,hm4⟩);(have HLIT:Hid (RdU w6 _ [1]):=qh (((qE rfl).ext (Ext.refl _).drew).ext hx));(replace H:=qh (((H0.out.on (Ext.new _ _)).on (Ext.refl _).drew).on hx));(have HCR:=qh (And.intro hc4 hm4));(have HRR:=qh hrd4);(obtain⟨_,_,v1⟩:=H.out.cells);clear hx hrd4 hc4 hm4))
   all_goals
    replace H:Hid (DvAt w g true false A A' A3 A4 x y (q0+1) (y-r0) c c' _):=qh ⟨H.out.ext,H.out.b1,H.out.b2,H.out.ry,HRQ.out,HRR.out⟩;have HLq:=HLq1;have HLr:=HLr1;clear HLq1 HLr1 HMI HPL HRQ HRR;generalize q0+1=qq at *;generalize y-r0=rr at *;have HT2:=qh (fun s W h1 h2=>dc s rr A4 c4 W h1 HLr.out HCR.out.1 HCR.out.2 h2);obtain⟨x0,y0,y1⟩:=H.out.cells;go_wp2_with fail;replace H:=qh (H.out.on (Ext.refl _).drew)
    go_region_held3 (fun w'=>w'.cell? ⟨g,0,none⟩=some (.bool true)∧w'.cell? ⟨g+1,0,none⟩=some (.bool false))
     (go_keep)
     (first
      |(go_at_call 69;((with_reducible refine(dc _ qq A3 c3 _ H.out.rq HLq.out HCQ.out.1 HCQ.out.2 (HE.out.ext H.out.ext)).mono ?_);rintro e w5⟨rfl,hx⟩);(replace H:=qh (H.out.on hx));(obtain⟨u0,v0,_⟩:=H.out.cells);clear hx)
      |(go_at_call 69;((with_reducible refine(HT2.out _ _ H.out.rr (HE.out.ext H.out.ext)).mono ?_);rintro e w6⟨rfl,hx⟩);(replace H:=qh (H.out.on hx));(obtain⟨s0,t0,_⟩:=H.out.cells);clear hx))
    all_goals
     rw[HVQ.out,HVR.out];go_wp2_with fail;go_ret3
     exact⟨rfl,H.out.ext⟩
 ·have HVQ:Hid (ey false (x / y)=zq):=qh (HS.out (.inl rfl)).1;have HVR:Hid (ey true (x % y)=zr):=qh (HS.out (.inl rfl)).2;clear HLq1 HLr1 HMI HPL HS HO;generalize x / y=qq at *;generalize x % y=rr at *;have HT2:=qh (fun s W h1 h2=>dc s rr A2 c2 W h1 HLr.out HCR.out.1 HCR.out.2 h2);obtain⟨x0,y0,y1⟩:=H.out.cells;go_wp2_with fail;replace H:=qh (H.out.on (Ext.refl _).drew)
  go_region_held3 (fun w'=>w'.cell? ⟨g,0,none⟩=some (.bool true)∧w'.cell? ⟨g+1,0,none⟩=some (.bool true))
   (go_keep)
   (first
    |(go_at_call 69;((with_reducible refine(dc _ qq A1 c1 _ H.out.rq HLq.out HCQ.out.1 HCQ.out.2 (HE.out.ext H.out.ext)).mono ?_);rintro e w5⟨rfl,hx⟩);(replace H:=qh (H.out.on hx));(obtain⟨u0,v0,_⟩:=H.out.cells);clear hx)
    |(go_at_call 69;((with_reducible refine(HT2.out _ _ H.out.rr (HE.out.ext H.out.ext)).mono ?_);rintro e w6⟨rfl,hx⟩);(replace H:=qh (H.out.on hx));(obtain⟨s0,t0,_⟩:=H.out.cells);clear hx))
  all_goals
   rw[HVQ.out,HVR.out];go_wp2_with fail;go_ret3
   exact⟨rfl,H.out.ext⟩
end
section
open Go.RowKit
structure Fr where
 num:Bs
 den:Bs
def kO(n d:Int):Int:=(if d<0 then -n else n) / (Int.gcd n d:Nat)
def iZ(n d:Int):Int:=(d.natAbs / Int.gcd n d:Nat)
def Gg(n d:Int):Fr:=⟨af (kO n d),if iZ n d=1 then [] else af (iZ n d)⟩
theorem wi{n d:Int}(hd:d≠0):0<Int.gcd n d:=Int.gcd_pos_of_ne_zero_right _ hd
def Gh(f:Fr):Int:=valI f.num
def oH(f:Fr):Int:=if valI f.den=0 then 1 else valI f.den
theorem kP(f:Fr):oH f≠0:=by unfold oH;split;decide;assumption
end
section
open Go.RowKit
def dp(q:Rat):Fr:=⟨af q.num,if q.den=1 then [] else af q.den⟩
def aN(f:Fr):Rat:=Rat.divInt (Gh f) (oH f)
theorem tF{n d:Int}(hd:d≠0):kO n d=(Rat.divInt n d).num:=by
 unfold kO;rw[Rat.num_divInt,Int.gcd_comm d n];congr 1
 rcases Int.lt_or_gt_of_ne hd with h|h
 ·rw[if_pos h,Int.sign_eq_neg_one_of_neg h];omega
 ·rw[if_neg (by omega),Int.sign_eq_one_of_pos h];omega
theorem tG{n d:Int}(hd:d≠0):iZ n d=(Rat.divInt n d).den:=by
 unfold iZ;rw[Rat.den_divInt,if_neg hd,Int.gcd_comm d n]
theorem Ep{n d:Int}(hd:d≠0):Gg n d=dp (Rat.divInt n d):=by
 unfold Gg dp;rw[tF hd,tG hd];congr 1
 by_cases h:(Rat.divInt n d).den=1
 ·rw[if_pos (by omega),if_pos h]
 ·rw[if_neg (by omega),if_neg h]
theorem wj(q:Rat):Gh (dp q)=q.num:=ah _
theorem Er(q:Rat):oH (dp q)=q.den:=by
 have hp:=q.den_pos;unfold oH dp;by_cases h:q.den=1
 ·simp only[if_pos h];rw[h];decide
 ·simp only[if_neg h];rw[ah,if_neg (by omega)]
theorem qF(q:Rat):aN (dp q)=q:=by
 unfold aN;rw[wj,Er];exact Rat.num_divInt_den q
theorem wk(z:Int):dp z=⟨af z,[]⟩:=by
 unfold dp;simp
theorem Bh:dp 0=⟨[],[]⟩:=by
 have:dp ((0:Int):Rat)=⟨[],[]⟩:=by rw[wk];rw[show af 0=[] by unfold af;simp[dig10_zero]]
 exact this
def QB(L:Nat)(q:Rat):Prop:=q.num.natAbs<10 ^ L∧q.den<10 ^ L
theorem nz{L:Nat}{n d:Int}(hL:0<L)(hn:n.natAbs<10 ^ L)(hd:d.natAbs<10 ^ L):QB L (Rat.divInt n d):=by
 have h1:1<10 ^ L:=Nat.one_lt_pow (by omega) (by decide);constructor
 ·rw[Rat.num_divInt];refine Nat.lt_of_le_of_lt ?_ hn;refine Nat.le_trans (Int.natAbs_ediv_le_natAbs _ _) ?_;rw[Int.natAbs_mul]
  have:d.sign.natAbs≤1:=by
   rcases Int.lt_trichotomy d 0 with h|h|h
   ·rw[Int.sign_eq_neg_one_of_neg h];decide
   ·rw[h];decide
   ·rw[Int.sign_eq_one_of_pos h];decide
  exact Nat.le_trans (Nat.mul_le_mul_right _ this) (Nat.le_of_eq (Nat.one_mul _))
 ·rw[Rat.den_divInt];split
  ·exact h1
  ·exact Nat.lt_of_le_of_lt (Nat.div_le_self _ _) hd
theorem QB.neg{L:Nat}{q:Rat}(h:QB L q):QB L (-q):=⟨by rw[Rat.neg_num,Int.natAbs_neg];exact h.1,h.2⟩
theorem iv{a b L M:Nat}(ha:a<10 ^ L)(hb:b<10 ^ M):a*b<10 ^ (L+M):=by
 rw[Nat.pow_add];rcases Nat.eq_zero_or_pos b with h|h
 ·subst h;rw[Nat.mul_zero];exact Nat.mul_pos (Nat.pow_pos (by decide)) (Nat.pow_pos (by decide))
 ·exact Nat.lt_of_lt_of_le (Nat.mul_lt_mul_of_pos_right ha h) (Nat.mul_le_mul_left _ (by omega))
theorem kQ{a b L:Nat}(ha:a<10 ^ L)(hb:b<10 ^ L):a+b<10 ^ (L+1):=by rw[Nat.pow_succ];omega
theorem QB.add{L M:Nat}{p q:Rat}(h:QB L p)(k:QB M q):QB (L+M+1) (p+q):=by
 rw[Rat.add_def',←Rat.divInt_ofNat];refine nz (by omega) ?_ ?_
 ·refine Nat.lt_of_le_of_lt (Int.natAbs_add_le _ _) ?_;rw[Int.natAbs_mul,Int.natAbs_mul,Int.natAbs_natCast,Int.natAbs_natCast];refine kQ (iv h.1 k.2) ?_;rw[Nat.add_comm L M];exact iv k.1 h.2
 ·rw[Int.natAbs_natCast];have:=iv h.2 k.2;rw[Nat.pow_succ];omega
theorem QB.sub{L M:Nat}{p q:Rat}(h:QB L p)(k:QB M q):QB (L+M+1) (p-q):=by
 rw[Rat.sub_eq_add_neg];exact h.add k.neg
theorem bN{z:Int}{L:Nat}(h:z.natAbs<10 ^ L):(af z).length≤L+1:=by
 have:=fY h;unfold af;split
 ·rw[List.length_cons];omega
 ·omega
theorem QB.num_len{L:Nat}{q:Rat}(h:QB L q):(dp q).num.length≤L+1:=bN h.1
theorem QB.den_len{L:Nat}{q:Rat}(h:QB L q):(dp q).den.length≤L+1:=by
 unfold dp;simp only;split
 ·simp
 ·exact bN (by rw[Int.natAbs_natCast];exact h.2)
theorem aQ{l:Bs}{L:Nat}(h:l.length≤L):(valI l).natAbs<10 ^ L:=by
 have h1:=kJ (gI l);have h2:10 ^ (mag l).length≤10 ^ L:=Nat.pow_le_pow_right (by decide) (Nat.le_trans (mag_le l) h);unfold valI;split <;> omega
theorem tH{f:Fr}{L:Nat}(h1:f.num.length≤L)(h2:f.den.length≤L)(h0:0<L):QB L (aN f):=by
 refine nz h0 (aQ h1) ?_;unfold oH;split
 ·exact Nat.one_lt_pow (by omega) (by decide)
 ·exact aQ h2
theorem pM(z:Int):Rat.divInt z 1=(z:Rat):=by
 rw[Rat.divInt_eq_div];simp only[Rat.intCast_one];grind
theorem Es(q:Rat):q.num<0↔q<0:=by
 have:=Rat.num_nonneg (q:=q);grind
def dz(p q:Rat):Int:=if p<q then -1 else if p=q then 0 else 1
theorem Bi(p q:Rat):cmpI (p-q).num 0=dz p q:=by
 unfold cmpI dz;have h1:=Es (p-q);have h2:(p-q).num=0↔p-q=0:=Rat.num_eq_zero;have h3:p-q<0↔p<q:=by grind
 have h4:p-q=0↔p=q:=by grind
 by_cases a:p<q
 ·rw[if_pos (h1.2 (h3.2 a)),if_pos a]
 ·rw[if_neg (fun h=>a (h3.1 (h1.1 h))),if_neg a];by_cases b:p=q
  ·rw[if_pos (h2.2 (h4.2 b)),if_pos b]
  ·rw[if_neg (fun h=>b (h4.1 (h2.1 h))),if_neg b]
theorem Bj{p q:Rat}:dz p q<0↔p<q:=by unfold dz;split <;> (try split) <;> simp_all
theorem yE{p q:Rat}:dz p q=0↔p=q:=by
 unfold dz;split
 ·simp;grind
 ·split <;> simp_all
theorem ju{x y:Bs}{L M:Nat}(hx:x.length≤L)(hy:y.length≤M):(af (valI x*valI y)).length≤L+M+1:=bN (by rw[Int.natAbs_mul];exact iv (aQ hx) (aQ hy))
theorem Et{x y:Bs}{L:Nat}(hx:x.length≤L)(hy:y.length≤L):(af (valI x+valI y)).length≤L+2:=bN (Nat.lt_of_le_of_lt (Int.natAbs_add_le _ _) (kQ (aQ hx) (aQ hy)))
theorem mo{x y:Bs}{L:Nat}(hx:x.length≤L)(hy:y.length≤L):(af (valI x-valI y)).length≤L+2:=bN (Nat.lt_of_le_of_lt (Int.natAbs_sub_le _ _) (kQ (aQ hx) (aQ hy)))
end
section
open Go.RowKit
def cfR(r:List Int)(i k:Fin r.length):Int:=if cmpI r[k] r[i]≠0 then cmpI r[k] r[i] else cmpI (i.val:Int) (k.val:Int)
def ltR(r:List Int)(i k:Fin r.length):Bool:=decide (cfR r i k<0)
theorem dB{x y:Int}:cmpI x y<0↔x<y:=by unfold cmpI;split <;> (try split) <;> omega
theorem ef{x y:Int}:cmpI x y=0↔x=y:=by unfold cmpI;split <;> (try split) <;> omega
theorem cK{x y:Int}:0<cmpI x y↔y<x:=by unfold cmpI;split <;> (try split) <;> omega
theorem ltR_iff{r:List Int}{i k:Fin r.length}:ltR r i k=true↔r[k]<r[i]∨(r[k]=r[i]∧i.val<k.val):=by
 unfold ltR cfR;rw[decide_eq_true_iff];by_cases h:r[k]=r[i]
 ·rw[if_neg (by rw[Ne,ef];omega),dB];omega
 ·rw[if_pos (by rw[Ne,ef];omega),dB];omega
def ordR(r:List Int):List (Fin r.length):=(List.finRange r.length).mergeSort (fun x y=>!ltR r y x)
theorem rY(r:List Int):(ordR r).Perm (List.finRange r.length):=List.mergeSort_perm _ _
theorem ordR_len(r:List Int):(ordR r).length=r.length:=by rw[ordR,List.length_mergeSort,List.length_finRange]
theorem xk(r:List Int):(ordR r).Nodup:=(rY r).nodup_iff.2 (List.nodup_finRange _)
theorem vD(r:List Int):(ordR r).Pairwise (fun x y=>r[y]≤r[x]):=by
 have h:=List.pairwise_mergeSort (le:=fun x y=>!ltR r y x) (by
  intro a b c h1 h2;simp only[Bool.not_eq_true',←Bool.not_eq_true,ltR_iff]at *;omega) (by
  intro a b;simp only[Bool.or_eq_true,Bool.not_eq_true',←Bool.not_eq_true,ltR_iff];omega) (List.finRange r.length)
 refine List.Pairwise.imp ?_ h;intro a b hab;simp only[Bool.not_eq_true',←Bool.not_eq_true,ltR_iff]at hab;omega
def cP(p:List Int)(is:List Nat):List Int:=is.foldl (fun l i=>l.modify i (·+1)) p
theorem lS(p:List Int)(is:List Nat):(cP p is).length=p.length:=by
 unfold cP;induction is generalizing p with
 |nil=>rfl
 |cons i r ih=>rw[List.foldl_cons,ih,List.length_modify]
theorem xl(p:List Int)(i:Nat)(h:i<p.length):(p.modify i (·+1)).sum=p.sum+1:=by
 induction p generalizing i with
 |nil=>simp at h
 |cons a r ih =>
  cases i with
  |zero=>simp;omega
  |succ i=>simp only[List.modify_succ_cons,List.sum_cons];rw[ih i (by simpa using h)];omega
theorem vE(p:List Int)(is:List Nat)(h:∀i ∈ is,i<p.length):(cP p is).sum=p.sum+is.length:=by
 unfold cP;induction is generalizing p with
 |nil=>simp
 |cons i r ih =>
  rw[List.foldl_cons,ih _ (fun k hk=>by rw[List.length_modify];exact h k (by simp[hk])),xl _ _ (h i (by simp)),List.length_cons];omega
theorem lU(p:List Int)(is:List Nat)(hn:is.Nodup)(k:Nat)(hk:k<p.length):(cP p is)[k]? = some (p[k]+if k ∈ is then 1 else 0):=by
 unfold cP;induction is generalizing p with
 |nil=>simp[hk]
 |cons i r ih =>
  rw[List.nodup_cons]at hn;rw[List.foldl_cons,ih _ hn.2 (by rw[List.length_modify];exact hk),List.getElem_modify];congr 1
  by_cases e:i=k
  ·subst e;rw[if_pos rfl,if_neg hn.1,if_pos (by simp)];omega
  ·rw[if_neg e];by_cases hr:k ∈ r
   ·rw[if_pos hr,if_pos (by simp[hr])]
   ·rw[if_neg hr,if_neg (by simp[hr];omega)]
def ct(T:Int)(ws:List Int):List Int:=ws.map (fun x=>T*x / ws.sum)
def cL(T:Int)(ws:List Int):List Int:=ws.map (fun x=>T*x % ws.sum)
def bS(T:Int)(ws:List Int):Int:=T-(ct T ws).sum
def dq(T:Int)(ws:List Int):List Nat:=((ordR (cL T ws)).take (bS T ws).toNat).map (·.val)
def bG(T:Int)(ws:List Int):List Int:=cP (ct T ws) (dq T ws)
def cI(T:Int)(ws:List Int):List Int:=if T<0 then(bG (-T) ws).map (-·) else bG T ws
theorem kR(T:Int)(ws:List Int):(ct T ws).length=ws.length:=List.length_map ..
theorem jv(T:Int)(ws:List Int):(cL T ws).length=ws.length:=List.length_map ..
theorem i6(T:Int)(ws:List Int):(bG T ws).length=ws.length:=by rw[bG,lS,kR]
theorem mL(T:Int)(ws:List Int):(cI T ws).length=ws.length:=by
 unfold cI;split
 ·rw[List.length_map,i6]
 ·exact i6 _ _
theorem xm(T S:Int)(l:List Int):S*(l.map (fun x=>T*x / S)).sum+(l.map (fun x=>T*x % S)).sum=T*l.sum:=by
 induction l with
 |nil=>simp
 |cons a r ih =>
  simp only[List.map_cons,List.sum_cons];have:=Int.mul_ediv_add_emod (T*a) S;rw[Int.mul_add,Int.mul_add];omega
theorem wl{T:Int}{ws:List Int}:ws.sum*bS T ws=(cL T ws).sum:=by
 have:=xm T ws.sum ws;have e:(ct T ws).sum=(ws.map (fun x=>T*x / ws.sum)).sum:=rfl;have e2:(cL T ws).sum=(ws.map (fun x=>T*x % ws.sum)).sum:=rfl;unfold bS;rw[Int.mul_sub,e,e2,Int.mul_comm ws.sum T];omega
theorem pN{S:Int}(l:List Int)(h:∀x ∈ l,0≤x∧x<S):0≤l.sum∧l.sum≤l.length*(S-1):=by
 induction l with
 |nil=>simp
 |cons a r ih =>
  have h1:=h a (by simp);have h2:=ih (fun x hx=>h x (by simp[hx]));simp only[List.sum_cons,List.length_cons];rw[Int.natCast_add,Int.add_mul];omega
theorem oI{T:Int}{ws:List Int}(hS:0<ws.sum):∀x ∈ cL T ws,0≤x∧x<ws.sum:=by
 intro x hx;obtain⟨a,_,rfl⟩:=List.mem_map.1 hx;exact⟨Int.emod_nonneg _ (by omega),Int.emod_lt_of_pos _ hS⟩
theorem gZ{T:Int}{ws:List Int}(hS:0<ws.sum):0≤bS T ws∧bS T ws≤ws.length:=by
 have h1:=pN _ (oI (T:=T) hS);rw[←wl,jv]at h1;constructor
 ·have:=Int.le_of_mul_le_mul_left (a:=ws.sum) (b:=0) (c:=bS T ws) (by rw[Int.mul_zero];exact h1.1) hS;exact this
 ·have h2:ws.sum*bS T ws≤ws.sum*ws.length:=by
   refine Int.le_trans h1.2 ?_;rw[Int.mul_sub,Int.mul_one,Int.mul_comm];omega
  exact Int.le_of_mul_le_mul_left h2 hS
theorem tI{T:Int}{ws:List Int}(hS:0<ws.sum):((dq T ws).length:Int)=bS T ws:=by
 have:=gZ (T:=T) hS;rw[dq,List.length_map,List.length_take,ordR_len,jv];omega
theorem wm{T:Int}{ws:List Int}:∀i ∈ dq T ws,i<ws.length:=by
 intro i hi;obtain⟨k,_,rfl⟩:=List.mem_map.1 hi;exact Nat.lt_of_lt_of_eq k.isLt (jv T ws)
theorem mM{T:Int}{ws:List Int}:(dq T ws).Nodup:=by
 unfold dq;refine List.pairwise_map.2 (List.Pairwise.imp ?_ ((xk _).sublist (List.take_sublist _ _)));intro a b hab he;exact hab (Fin.ext he)
theorem mN{T:Int}{ws:List Int}(hS:0<ws.sum):(bG T ws).sum=T:=by
 rw[bG,vE _ _ (fun i hi=>by rw[kR];exact wm i hi),tI hS];unfold bS;omega
theorem Eu(l:List Int):(l.map (-·)).sum = -l.sum:=by
 induction l with
 |nil=>simp
 |cons a r ih=>simp only[List.map_cons,List.sum_cons];rw[ih];omega
theorem pO{T:Int}{ws:List Int}(hS:0<ws.sum):(cI T ws).sum=T:=by
 unfold cI;split
 ·rw[Eu,mN hS];omega
 ·exact mN hS
theorem yF{α:Type}(f:α→Int)(a b:List α):((a++b).map f).sum=(a.map f).sum+(b.map f).sum:=by simp
theorem Bk{α:Type}(f:α→Int){a b:List α}(h:a.Perm b):(a.map f).sum=(b.map f).sum:=by
 induction h with
 |nil=>rfl
 |cons x _ ih=>simp[ih]
 |swap x y l=>simp;omega
 |trans _ _ ih1 ih2=>exact ih1.trans ih2
theorem tJ(r:List Int):((List.finRange r.length).map (fun i=>r[i])).sum=r.sum:=by
 congr 1
 apply List.ext_getElem
 ·simp
 ·intro i h1 h2;simp
theorem Bl{α:Type}(f:α→Int)(l:List α)(h:∀x ∈ l,f x=0):(l.map f).sum=0:=by
 induction l with
 |nil=>rfl
 |cons a r ih=>simp only[List.map_cons,List.sum_cons];rw[h a (by simp),ih (fun x hx=>h x (by simp[hx]))];rfl
theorem sO{α:Type}{S:Int}(f:α→Int)(l:List α)(h:∀x ∈ l,0≤f x∧f x<S){i:α}(hi:i ∈ l)(h0:f i=0):(l.map f).sum≤(l.length-1)*(S-1):=by
 induction l with
 |nil=>simp at hi
 |cons a r ih =>
  have h1:=h a (by simp);have h2:=fun x hx=>h x (List.mem_cons_of_mem a hx)
  have hb:=pN (S:=S) (r.map f) (fun x hx=>by obtain⟨y,hy,rfl⟩:=List.mem_map.1 hx;exact h2 y hy);rw[List.length_map]at hb;simp only[List.map_cons,List.sum_cons,List.length_cons];rcases List.mem_cons.1 hi with rfl|hi
  ·rw[h0];rw[Int.natCast_add,show((r.length:Int)+((1:Nat):Int)-1)=r.length by omega];omega
  ·have:=ih h2 hi;rw[Int.natCast_add,show((r.length:Int)+((1:Nat):Int)-1)=(r.length-1)+1 by omega,Int.add_mul];omega
theorem yG{T:Int}{ws:List Int}(hS:0<ws.sum){k:Nat}(hk:k ∈ dq T ws)(hl:k<(cL T ws).length):0<(cL T ws)[k]:=by
 obtain⟨i,hi,rfl⟩:=List.mem_map.1 hk;have hr:=oI (T:=T) hS;have hget:∀j:Fin (cL T ws).length,0≤(cL T ws)[j]∧(cL T ws)[j]<ws.sum:=fun j=>hr _ (List.getElem_mem _)
 have hm:=gZ (T:=T) hS;have hme:=wl (T:=T) (ws:=ws);have hord:=vD (cL T ws);have hperm:=rY (cL T ws);have hlen:=ordR_len (cL T ws);rcases Int.lt_or_le 0 ((cL T ws)[i.val]'hl) with h|h
 ·exact h
 ·exfalso
  have h0:(cL T ws)[i]=0:=by have:=hget i;simp only[Fin.getElem_fin]at *;omega
  generalize hL:ordR (cL T ws)=L at *;have hsp:L.take (bS T ws).toNat++L.drop (bS T ws).toNat=L:=List.take_append_drop _ _
  have hz:∀x ∈ L.drop (bS T ws).toNat,(cL T ws)[x]=0:=by
   intro x hx;rw[←hsp,List.pairwise_append]at hord;have:=hord.2.2 i hi x hx;have:=hget x;omega
  have hs:((L.take (bS T ws).toNat).map (fun j=>(cL T ws)[j])).sum=(cL T ws).sum:=by
   have e1:=yF (fun j=>(cL T ws)[j]) (L.take (bS T ws).toNat) (L.drop (bS T ws).toNat);rw[hsp,Bl _ _ hz,Bk _ hperm,tJ]at e1;omega
  have hb:=sO (S:=ws.sum) (fun j=>(cL T ws)[j]) (L.take (bS T ws).toNat) (fun x _=>hget x) hi h0;rw[hs,←hme]at hb
  have hln:((L.take (bS T ws).toNat).length:Int)=bS T ws:=by
   rw[List.length_take,hlen,jv];omega
  have hpos:0<bS T ws:=by
   rw[←hln];have:=List.length_pos_of_mem hi;omega
  rw[hln]at hb
  have e2:(bS T ws-1)*(ws.sum-1)=ws.sum*bS T ws-bS T ws-ws.sum+1:=by
   rw[Int.sub_mul,Int.mul_sub,Int.mul_comm (bS T ws) ws.sum];omega
  omega
theorem vF{T:Int}{ws:List Int}(hS:0<ws.sum)(k:Nat)(hk:k<ws.length)(hk2:k<(bG T ws).length) :
  -ws.sum<(bG T ws)[k]*ws.sum-T*ws[k]∧(bG T ws)[k]*ws.sum-T*ws[k]<ws.sum:=by
 have hp:k<(ct T ws).length:=by rw[kR];exact hk
 have hr:k<(cL T ws).length:=by rw[jv];exact hk
 have hg:=lU (ct T ws) (dq T ws) mM k hp
 have e:(bG T ws)[k]=(ct T ws)[k]+if k ∈ dq T ws then 1 else 0:=by
  have:(bG T ws)[k]? = some ((bG T ws)[k]):=List.getElem?_eq_getElem hk2;unfold bG at this hg ⊢
  rw[hg]at this;injection this with this;exact this.symm
 have ep:(ct T ws)[k]=T*ws[k] / ws.sum:=by simp[ct]
 have er:(cL T ws)[k]=T*ws[k] % ws.sum:=by simp[cL]
 have h1:=Int.mul_ediv_add_emod (T*ws[k]) ws.sum;have h2:=Int.emod_nonneg (T*ws[k]) (b:=ws.sum) (by omega);have h3:=Int.emod_lt_of_pos (T*ws[k]) hS;rw[e,ep,Int.add_mul,Int.mul_comm (T*ws[k] / ws.sum) ws.sum];by_cases h:k ∈ dq T ws
 ·have h4:=yG hS h hr;rw[er]at h4;rw[if_pos h,Int.one_mul];omega
 ·rw[if_neg h,Int.zero_mul];omega
theorem nj{T:Int}{ws:List Int}(hT:0≤T)(hw:∀x ∈ ws,0≤x)(hS:0<ws.sum):∀x ∈ bG T ws,0≤x:=by
 intro x hx;obtain⟨k,hk,rfl⟩:=List.mem_iff_getElem.1 hx;have hk':k<ws.length:=by rw[i6]at hk;exact hk
 have hp:k<(ct T ws).length:=by rw[kR];exact hk'
 have hg:=lU (ct T ws) (dq T ws) mM k hp
 have e:(bG T ws)[k]=(ct T ws)[k]+if k ∈ dq T ws then 1 else 0:=by
  have:(bG T ws)[k]? = some ((bG T ws)[k]):=List.getElem?_eq_getElem hk;unfold bG at this hg ⊢
  rw[hg]at this;injection this with this;exact this.symm
 have ep:(ct T ws)[k]=T*ws[k] / ws.sum:=by simp[ct]
 have:0≤T*ws[k] / ws.sum:=Int.ediv_nonneg (Int.mul_nonneg hT (hw _ (List.getElem_mem _))) (by omega);rw[e,ep];split <;> omega
end
section
open Go.RowKit
attribute [local go_sem] size_bs toList_bs
abbrev cu(f:FuncId)(args:Array Value)(v:Value):Prop:=∀W,Env W→Calls Tryz.prog f args W fun e w'=>e = .returned v∧Ext W w'
theorem eS(a b:Bs)(ha:a.length≤100000)(hb:b.length≤100000):cu 19 #[.string (bs a),.string (bs b)] (.string (bs (af (valI a+valI b)))):=fun W h=>Em a b W ha hb h
theorem j8(a b:Bs)(ha:a.length≤100000)(hb:b.length≤100000):cu 18 #[.string (bs a),.string (bs b)] (.string (bs (af (valI a-valI b)))):=fun W h=>FZ a b W ha hb h
theorem lV(a b:Bs)(ha:a.length≤100000)(hb:b.length≤100000):cu 264 #[.string (bs a),.string (bs b)] (.string (bs (af (valI a*valI b)))):=fun W h=>F7 a b W ha hb h
theorem xp(a:Bs)(ha:a.length≤100000):cu 223 #[.string (bs a)] (.string (bs (af (-(valI a))))):=fun W h=>Gc a W ha h
theorem cmpP(a b:Bs)(ha:a.length≤100000)(hb:b.length≤100000):cu 16 #[.string (bs a),.string (bs b)] (.int .i64 (cmpI (valI a) (valI b))):=fun W _=>Gf a b W ha hb
theorem mO:valI []=0:=by decide
theorem ii(a:Bs)(ha:a.length≤100000):cu 16 #[.string (bs a),.string ⟨#[]⟩] (.int .i64 (cmpI (valI a) 0)):=by
 have:=cmpP a [] ha (by simp);rw[mO]at this;exact this
theorem nA(l:Bs):ap (mag l)=(valI l).natAbs:=by unfold valI;split <;> omega
theorem oX(a b:Bs)(ha:a.length≤100000)(hb:b.length≤100000)(h:valI b≠0):cu 180 #[.string (bs a),.string (bs b)] (.tuple #[.string (bs (af (fS (valI a) (valI b)))),.string (bs (af (iu (valI a) (valI b)))),.int .i64 0]):=fun W hE=>vC a b W ha hb (by rw[nA];omega) hE
theorem dR(a:Bs)(ha:a.length≤100000):cu 72 #[.string (bs a)] (.int .i64 (checkI a)):=fun W _=>intCheck a W (by omega)
theorem iw{x y:Int}(h:0<y):fS x y=x / y:=by unfold fS;rw[if_neg (by omega)]
theorem oY{x y:Int}(h:0<y):iu x y=x % y:=by unfold iu;rw[iw h,Int.emod_def]
theorem de{z:Int}:af z=[]↔z=0:=by
 constructor
 ·intro h;rw[←ah z,h,mO]
 ·rintro rfl;unfold af;simp[dig10_zero]
theorem Ev{a b:Int}(h:af a=af b):a=b:=by rw[←ah a,h,ah]
theorem Ew:af 1=[49]:=by decide +kernel
theorem jw:valI [49]=1:=by decide +kernel
theorem dI{l:Bs}:checkI l=0↔af (valI l)=l:=by
 unfold checkI;rw[rM];split
 ·simp[*]
 ·simp[*]
end
section
open Go.RowKit
attribute [local go_sem] size_bs toList_bs extract_bs get_bs append_bs lit_append append_lit
theorem gL(l:Bs)(w:World)(hs:l.length≤1000000000) :
  Calls Tryz.prog 61 #[.string (bs l)] w fun e w'=>e = .returned (.bool (aB l))∧Ext w w':=by
 by_cases h0:l.length=0
 ·obtain rfl:l=[]:=List.eq_nil_of_length_eq_zero h0;go_enter Tryz.func61,Tryz.ntmps61;go_wp2_with fail;go_ret;exact⟨rfl,Ext.refl _⟩
 have h0b:((l.length:Int) == 0)=false:=by rw[beq_eq_false_iff_ne];omega
 by_cases h1:16<l.length
 ·have h1b:decide (16<(l.length:Int))=true:=by simp;omega
  clear h0;go_enter Tryz.func61,Tryz.ntmps61;go_wp2_with fail;go_ret;exact⟨by simp[aB];omega,Ext.refl _⟩
 have h1b:decide (16<(l.length:Int))=false:=by simp;omega
 obtain⟨cap,w1,hrun,hx,hsz,hcell⟩:=xe (P:=Tryz.prog) w 9 159 5 l Tryz.underlying9 Tryz.underlying159 Tryz.underlying5;have HC:=qh hcell;have HN:Hid (1≤l.length):=qh (by omega);clear hcell hsz h0;go_enter Tryz.func61,Tryz.ntmps61;go_wp2_with fail;go_loop [16] (fun i=>∃k:Nat,k≤l.length∧i = .int .i64 k∧(l.take k).all mg=true) (fun i=>l.length-(intOf i).toNat)
 case atStart=>exact⟨0,Nat.zero_le _,rfl,rfl⟩
 case round =>
  obtain⟨k,hk,rfl,hd⟩:=hrel;have HD:=qh hd;clear hd hrun;by_cases hlt:k<l.length
  ·have hc:=HC.out k hlt;by_cases h95:((l[k]'hlt).toNat:Int)=95
   ·have h95a:((l[k]'hlt).toNat:Int)≤95:=by omega
    have h95c:95≤((l[k]'hlt).toNat:Int):=by omega
    have h95b:(((l[k]'hlt).toNat:Int) != 95)=false:=by rw[bne_eq_false_iff_eq];exact h95
    clear h95;go_wp2_with fail
    all_goals
     go_round
     case rel=>exact⟨k+1,by omega,by go_num,pH l k hlt HD.out (sY (by omega))⟩
     case measure=>simp[intOf];omega
   ·have h95b:(((l[k]'hlt).toNat:Int) != 95)=true:=by rw[bne_iff_ne];exact h95
    go_wp2_with fail
    all_goals first
     |(go_ret
       exact⟨by rw[wZ l k hlt (Ef (by omega))];rfl,hx⟩)
     |(go_round
       case rel=>exact⟨k+1,by omega,by go_num,pH l k hlt HD.out (sY (by omega))⟩
       case measure=>simp[intOf];omega)
  ·go_wp2_with fail;go_ret;exact⟨by rw[vh l k hlt HD.out HN.out (by omega)];rfl,hx⟩
end
end Go.Proofs.YtaegjkllenlfpaaGreatDoor
