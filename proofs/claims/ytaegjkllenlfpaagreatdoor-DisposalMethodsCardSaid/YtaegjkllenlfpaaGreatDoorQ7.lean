/- The seat's texts, part Q7. -/
import Derived.Test.YtaegjkllenlfpaaGreatDoorQ0
import Derived.Test.YtaegjkllenlfpaaGreatDoorQ1
import Derived.Test.YtaegjkllenlfpaaGreatDoorQ3
import Derived.Test.YtaegjkllenlfpaaGreatDoorQ5
import Derived.Test.YtaegjkllenlfpaaGreatDoorQ6
import Derived.Test.YtaegjkllenlfpaaGreatDoorProg
set_option maxRecDepth 100000
set_option maxHeartbeats 8000000
namespace Go.Proofs.YtaegjkllenlfpaaGreatDoor
variable {sx sy ba bb:Bool}{X Y g c' m M:Nat}{t l:Bs}{w W W':World}{d z T S:Int}{ws:List Int}
section
open Go.RowKit
def fx(x y:Int):Int:=if y<0 then(-x) / (-y) else x / y
def gF(x y:Int):Int:=x-y*fx x y
theorem nf{x y q r:Int}(h:x=q*y+r)(h0:0<=r)(h1:r<y):x / y=q:=by
 have hy:0<y:=by omega
 rw[h,Int.add_comm,Int.add_mul_ediv_right r q (by omega),Int.ediv_eq_zero_of_lt h0 h1,Int.zero_add]
theorem nh{x y q r:Int}(h:x=q*y+r)(hr:(0<=r∧r<y)∨(y<r∧r<=0)):fx x y=q∧gF x y=r:=by
 have hd:fx x y=q:=by
  unfold fx;rcases hr with ⟨h0,h1⟩ | ⟨h0,h1⟩
  ·rw[if_neg (by omega)];exact nf h h0 h1
  ·rw[if_pos (by omega)];refine nf (r := -r) ?_ (by omega) (by omega);rw[h,Int.neg_add,Int.mul_neg]
 refine⟨hd,?_⟩;unfold gF;rw[hd,h,Int.mul_comm y q];omega
theorem yI(hY:0<Y)(h:sx=sy∨X % Y=0):fx (sgn sx X) (sgn sy Y)=sgn (sx != sy) (X / Y)∧gF (sgn sx X) (sgn sy Y)=sgn sy (X % Y):=by
 have hd:=Nat.div_add_mod X Y;have hm:=Nat.mod_lt X hY
 have hdI:(X:Int)=(X / Y:Nat)*(Y:Int)+(X % Y:Nat):=by
  rw[←Int.natCast_mul,←Int.natCast_add,Nat.mul_comm,hd]
 generalize X / Y=q at *;generalize X % Y=r at *;apply nh
 ·rcases h with h|h
  ·subst h
   cases sx
   ·show(X:Int)=(q:Int)*Y+r;exact hdI
   ·show -(X:Int)=(q:Int) * -(Y:Int) + -(r:Int);rw[hdI,Int.mul_neg];omega
  ·subst h
   cases sx <;> cases sy
   ·show(X:Int)=(q:Int)*Y+((0:Nat):Int);exact hdI
   ·show(X:Int) = -(q:Int) * -(Y:Int) + -((0:Nat):Int);rw[hdI,Int.neg_mul_neg];omega
   ·show -(X:Int) = -(q:Int)*(Y:Int)+((0:Nat):Int);rw[hdI,Int.neg_mul];omega
   ·show -(X:Int)=(q:Int) * -(Y:Int) + -((0:Nat):Int);rw[hdI,Int.mul_neg];omega
 ·cases sy
  ·left;show 0<=(r:Int)∧(r:Int)<Y;omega
  ·right;show -(Y:Int) < -(r:Int) ∧ -(r:Int)<=0;omega
theorem wu(hY:0<Y)(hs:sx≠sy)(h0:X % Y≠0):fx (sgn sx X) (sgn sy Y)=sgn true (X / Y+1)∧gF (sgn sx X) (sgn sy Y)=sgn sy (Y-X % Y):=by
 have hd:=Nat.div_add_mod X Y;have hm:=Nat.mod_lt X hY
 have hdI:(X:Int)=(X / Y:Nat)*(Y:Int)+(X % Y:Nat):=by
  rw[←Int.natCast_mul,←Int.natCast_add,Nat.mul_comm,hd]
 generalize X / Y=q at *;generalize X % Y=r at *;have e:((Y-r:Nat):Int)=(Y:Int)-r:=by omega
 apply nh
 ·cases sx <;> cases sy
  ·exact absurd rfl hs
  ·show(X:Int) = -((q+1:Nat):Int) * -(Y:Int) + -((Y-r:Nat):Int);rw[Int.neg_mul_neg,e,hdI,Int.natCast_add,Int.add_mul];simp;omega
  ·show -(X:Int) = -((q+1:Nat):Int)*(Y:Int)+((Y-r:Nat):Int);rw[Int.neg_mul,e,hdI,Int.natCast_add,Int.add_mul];simp;omega
  ·exact absurd rfl hs
 ·cases sy
  ·left;show 0<=((Y-r:Nat):Int)∧((Y-r:Nat):Int)<Y;omega
  ·right;show -(Y:Int) < -((Y-r:Nat):Int) ∧ -((Y-r:Nat):Int)<=0;omega
def cmpI(x y:Int):Int:=if x<y then -1 else if x=y then 0 else 1
def lt(a b:Bs):Bool:=Op.bytesLess a b
theorem DK{c:UInt8}(h:isD c=true):c.toNat=dval c+48:=by have:=(isD_iff c).1 h;unfold dval;omega
theorem vf(c:UInt8)(r:Bs):natOf (c :: r)=dval c*10 ^ r.length+natOf r:=by
 have:=natOf_append [c] r;rw[show natOf [c]=dval c by show 10*0+dval c=_;omega]at this
 exact this
theorem BV(ht:t.all isD=true)(hl:Lead t)(hn:t≠[]):10 ^ (t.length-1)<=natOf t:=by
 cases t with
 |nil=>exact absurd rfl hn
 |cons c r =>
  simp only[List.all_cons,Bool.and_eq_true]at ht;rw[vf,List.length_cons,Nat.add_sub_cancel];have h1:=hl c r rfl;have h2:=DK ht.1;have h3:dval c≠0:=fun h=>h1 (UInt8.toNat_inj.1 (by rw[h2,h];rfl))
  have:1*10 ^ r.length<=dval c*10 ^ r.length:=Nat.mul_le_mul_right _ (by omega);omega
theorem uq(h:neg l=true):0<natOf (mag l):=by
 have h0:mag l≠[]:=by
  unfold neg at h
  first
   |(intro e;simp[e]at h)
   |(intro e;unfold negT at h;rw[show magT (strip l)=mag l from rfl,e]at h;simp at h)
 have:=BV (mag_all l) (mag_lead l) h0;exact Nat.lt_of_lt_of_le (Nat.pow_pos (by decide)) this
end
section
open Go.RowKit
attribute [local go_sem] size_bs toList_bs
theorem qx(x y:Nat)(hy:0<y)(A A':Option Addr)(c c':Nat)(w:World)(hA:RdU w A (gr x))(hA':RdU w A' (gr y))(hn:(gr x).length<=900000)(hn':(gr y).length<=900000)(hc:(gr x).length<=c)(hm:c<=maxLen) :
  Calls Tryz.prog 263 #[.slice A (gr x).length c,.slice A' (gr y).length c'] w (mH (x / y) (x % y) w):=by
 rcases Nat.lt_or_ge x y with h|h
 ·exact rD x y h A A' c c' w hA hA' (by omega) (by omega) hc hm
 ·rcases Nat.lt_or_ge (gr y).length 2 with h2|h2
  ·have h0:(gr y).length≠0:=by
    intro e;have e2:gr y=[]:=List.length_eq_zero_iff.1 e;have e3:y=0:=gr_inj (by rw[e2,gr_zero]);omega
   exact rf x y h (by omega) A A' c c' w hA hA' (by omega)
  ·exact pp x y h h2 A A' c c' w hA hA' hn hn'
theorem DL(a:Bs)(w:World)(ha:a.length<=100000)(hE:Env w) :
  Calls Tryz.prog 223 #[.string (bs a)] w fun e w'=>e = .returned (.string (bs (ofI (-(valI a)))))∧Ext w w':=by
 have HR1:=qh (fun W=>cY a W (by omega));have HL1:Hid ((gr (natOf (mag a))).length<=1000000):=qh (by have:=ct (bK a ha);omega);have HE:=qh hE;have HV:Hid (dH (!(neg a)) (natOf (mag a))=ofI (-(valI a))):=qh (by rw[fN,uo];rfl);generalize ofI (-(valI a))=z at *;generalize natOf (mag a)=x at *;generalize neg a=ba at *;clear ha hE;go_enter Tryz.func223,Tryz.ntmps223;go_wp2_with fail;refine(HR1.out _).mono ?_;rintro e w1⟨A,c,rfl,hrd1,hx1,hc1,hc2⟩;have HD1:=qh hrd1;have HX1:=qh hx1;have HC:=qh (And.intro hc1 hc2);clear hrd1 hx1 hc1 hc2;go_wp2_with fail;have HX2:Hid (Ext w (w1.alloc (.cells #[.bool (!ba),.slice A (gr x).length c] 112))):=qh (HX1.out.alloc _);refine(cO (!ba) x A c _ (HD1.out.ext (Ext.new _ _)) HL1.out HC.out.1 HC.out.2 (HE.out.ext HX2.out)).mono ?_;rintro e w5⟨rfl,hx5⟩;rw[HV.out];go_wp2_with fail;go_ret;exact⟨rfl,HX2.out.trans hx5⟩
theorem DM{a b:Bool}{x y:Nat}{r:Int}(ha:a=true->0<x)(hb:b=true->0<y)(h:(r<0∧x<y)∨(r=0∧x=y)∨(0<r∧y<x)):cmpI (sgn a x) (sgn b y)=max (-1) (min (if(!(a == b))=true then(if a then -1 else 1) else if a then -r else r) 1):=by
 unfold cmpI sgn
 cases a <;> cases b
 ·simp;split <;> (try split) <;> omega
 ·have:=hb rfl;simp;omega
 ·have:=ha rfl;simp;omega
 ·simp;split <;> (try split) <;> omega
theorem DN(a b:Bs)(w:World)(ha:a.length<=100000)(hb:b.length<=100000) :
  Calls Tryz.prog 16 #[.string (bs a),.string (bs b)] w fun e w'=>e = .returned (.int .i64 (cmpI (valI a) (valI b)))∧Ext w w':=by
 have HR1:=qh (fun W=>cY a W (by omega));have HR2:=qh (fun W=>cY b W (by omega));have HL1:Hid ((gr (natOf (mag a))).length<=1000000):=qh (by have:=ct (bK a ha);omega);have HL2:Hid ((gr (natOf (mag b))).length<=1000000):=qh (by have:=ct (bK b hb);omega);have HV:=qh (fun r h=>DM (a:=neg a) (b:=neg b) (x:=natOf (mag a)) (y:=natOf (mag b)) (r:=r) uq uq h);rw[show sgn (neg a) (natOf (mag a))=valI a from rfl,show sgn (neg b) (natOf (mag b))=valI b from rfl]at HV;generalize cmpI (valI a) (valI b)=z at *;generalize natOf (mag a)=x at *;generalize natOf (mag b)=y at *;generalize neg a=ba at *;generalize neg b=bb at *;clear ha hb;go_enter Tryz.func16,Tryz.ntmps16;go_wp2_with fail;refine(HR1.out _).mono ?_;rintro e w1⟨A,c,rfl,hrd1,hx1,_,_⟩;go_wp2_with fail;refine(HR2.out _).mono ?_;rintro e w2⟨A',c',rfl,hrd2,hx2,_,_⟩;have HB1:=qh ((Blk.new w2 112 #[.bool ba,.slice A (gr x).length c]).alloc (.cells #[.bool bb,.slice A' (gr y).length c'] 112));have HB2:=qh (blk_at (w2.alloc (.cells #[.bool ba,.slice A (gr x).length c] 112)) 112 #[.bool bb,.slice A' (gr y).length c'] (w2.heap.size+1) (by simp));have HX:Hid (Ext w ((w2.alloc (.cells #[.bool ba,.slice A (gr x).length c] 112)).alloc (.cells #[.bool bb,.slice A' (gr y).length c'] 112))):=qh (((hx1.trans hx2).alloc _).alloc _);have HD1:=qh (((hrd1.ext hx2).ext (Ext.new _ (.cells #[.bool ba,.slice A (gr x).length c] 112))).ext (Ext.new _ (.cells #[.bool bb,.slice A' (gr y).length c'] 112)));have HD2:=qh ((hrd2.ext (Ext.new _ (.cells #[.bool ba,.slice A (gr x).length c] 112))).ext (Ext.new _ (.cells #[.bool bb,.slice A' (gr y).length c'] 112)));clear hrd1 hrd2 hx1 hx2;go_wp2_with fail;generalize ((w2.alloc (.cells #[.bool ba,.slice A (gr x).length c] 112)).alloc (.cells #[.bool bb,.slice A' (gr y).length c'] 112))=W at *;generalize w2.heap.size=g at *;refine(m8 x y A A' c c' _ HD1.out HD2.out HL1.out HL2.out).mono ?_;rintro e w4⟨hx,r,rfl,hcase,hr1,hr2⟩;have x0:=(HB1.out.ext hx).cell 0;have y0:=(HB2.out.ext hx).cell 0;simp only[List.getElem?_toArray,List.getElem?_cons_zero]at x0 y0;replace HX:=HX.qt hx;have HZ:=qh (HV.out r hcase);clear hx hcase
 cases ba <;> cases bb
 all_goals
  go_wp2_with fail;go_ret;exact⟨by rw[HZ.out];simp,HX.out⟩
structure DvAt (w:World) (g:Nat) (ba bb:Bool) (A A' A1 A2:Option Addr) (x y q r c c':Nat) (W:World):Prop where
 ext:Ext w W
 b1:Blk W g 112 #[.bool ba,.slice A (gr x).length c]
 b2:Blk W (g+1) 112 #[.bool bb,.slice A' (gr y).length c']
 ry:RdU W A' (gr y)
 rq:RdU W A1 (gr q)
 rr:RdU W A2 (gr r)
theorem DvAt.on{A A' A1 A2:Option Addr}{x y q r c:Nat}(h:DvAt w g ba bb A A' A1 A2 x y q r c c' W)(hx:Ext W W'):DvAt w g ba bb A A' A1 A2 x y q r c c' W' :=
 ⟨h.ext.trans hx,h.b1.ext hx,h.b2.ext hx,h.ry.ext hx,h.rq.ext hx,h.rr.ext hx⟩
theorem DvAt.cells{A A' A1 A2:Option Addr}{x y q r c:Nat}(h:DvAt w g ba bb A A' A1 A2 x y q r c c' W):W.cell? ⟨g,0,none⟩=some (.bool ba)∧W.cell? ⟨g+1,0,none⟩=some (.bool bb)∧W.cell? ⟨g+1,1,none⟩=some (.slice A' (gr y).length c'):=by
 have x0:=h.b1.cell 0;have y0:=h.b2.cell 0;have y1:=h.b2.cell 1;simp only[List.getElem?_toArray,List.getElem?_cons_zero,List.getElem?_cons_succ]at x0 y0 y1;exact⟨x0,y0,y1⟩
theorem pt(h:W.heap.size=g):RdU (W.alloc (.cells #[.int .u64 1] 173)) (some ⟨g,0,none⟩) [1]:=by
 subst h;exact Reads.lit rfl
theorem Be{n L:Nat}(h:n<=m+1)(hm:m<10 ^ L)(hL:L<=100000):(gr n).length<=1000000:=by
 have h1:n<10 ^ (L+1):=by rw[Nat.pow_succ];omega
 have:=ct h1;omega
theorem Ft(a b:Bs)(w:World)(ha:a.length<=100000)(hb:b.length<=100000)(h0:natOf (mag b)=0) :
  Calls Tryz.prog 180 #[.string (bs a),.string (bs b)] w fun e w'=>e = .returned (.tuple #[.string (bs []),.string (bs []),.int .i64 10])∧Ext w w':=by
 have HR1:=qh (fun W=>cY a W (by omega));have HR2:=qh (fun W=>cY b W (by omega));rw[h0,gr_zero]at HR2;generalize natOf (mag a)=x at *;generalize neg a=ba at *;generalize neg b=bb at *;clear ha hb h0;go_enter Tryz.func180,Tryz.ntmps180;go_wp2_with fail;refine(HR1.out _).mono ?_;rintro e w1⟨A,c,rfl,hrd1,hx1,_,_⟩;go_wp2_with fail;refine(HR2.out _).mono ?_;rintro e w2⟨A',c',rfl,hrd2,hx2,_,_⟩;have HX:Hid (Ext w ((w2.alloc (.cells #[.bool ba,.slice A (gr x).length c] 112)).alloc (.cells #[.bool bb,.slice A' 0 c'] 112))):=qh (((hx1.trans hx2).alloc _).alloc _);clear hrd1 hrd2 hx1 hx2;go_wp2_with fail;go_ret3
 exact⟨rfl,HX.out⟩
theorem tK(a b:Bs)(w:World)(ha:a.length<=100000)(hb:b.length<=100000)(h0:0<natOf (mag b))(hE:Env w) :
  Calls Tryz.prog 180 #[.string (bs a),.string (bs b)] w fun e w'=>e = .returned (.tuple #[.string (bs (ofI (fx (valI a) (valI b)))),.string (bs (ofI (gF (valI a) (valI b)))),.int .i64 0])∧Ext w w':=by
 have HR1:=qh (fun W=>cY a W (by omega));have HR2:=qh (fun W=>cY b W (by omega));obtain⟨L,hLa,hLb,hL⟩:∃L:Nat,a.length<=L∧b.length<=L∧L<=100000:=⟨max a.length b.length,by omega,by omega,by omega⟩;have HL1:Hid ((gr (natOf (mag a))).length<=900000):=qh (by have:=ct (bK a hLa);omega);have HL2:Hid ((gr (natOf (mag b))).length<=900000):=qh (by have:=ct (bK b hLb);omega);have HLQ:Hid (∀n,n<=natOf (mag a)+1->(gr n).length<=1000000):=qh (fun n h=>Be h (bK a hLa) hL);have HLR:Hid (∀n,n<=natOf (mag b)+1->(gr n).length<=1000000):=qh (fun n h=>Be h (bK b hLb) hL);have HE:=qh hE
 have HS:Hid ((neg a=neg b∨natOf (mag a) % natOf (mag b)=0)->dH (neg a != neg b) (natOf (mag a) / natOf (mag b))=ofI (fx (valI a) (valI b))∧dH (neg b) (natOf (mag a) % natOf (mag b))=ofI (gF (valI a) (valI b))):=qh (fun h=>by
  have:=yI h0 h;rw[fN,fN,←this.1,←this.2];exact⟨rfl,rfl⟩)
 have HO:Hid (neg a≠neg b->natOf (mag a) % natOf (mag b)≠0->dH true (natOf (mag a) / natOf (mag b)+1)=ofI (fx (valI a) (valI b))∧dH (neg b) (natOf (mag b)-natOf (mag a) % natOf (mag b))=ofI (gF (valI a) (valI b))):=qh (fun h h2=>by
  have:=wu h0 h h2;rw[fN,fN,←this.1,←this.2];exact⟨rfl,rfl⟩)
 generalize ofI (fx (valI a) (valI b))=zq at *;generalize ofI (gF (valI a) (valI b))=zr at *;generalize natOf (mag a)=x at *;generalize natOf (mag b)=y at *;generalize neg a=ba at *;generalize neg b=bb at *
 have hyl:0<(gr y).length:=by
  rcases Nat.eq_zero_or_pos (gr y).length with e|e
  ·have e3:y=0:=gr_inj (by rw[List.length_eq_zero_iff.1 e,gr_zero]);omega
  ·exact e
 clear ha hb hLa hLb hE;go_enter Tryz.func180,Tryz.ntmps180;go_wp2_with fail;refine(HR1.out _).mono ?_;rintro e w1⟨A,c,rfl,hrd1,hx1,hca,hcm⟩;have HC:=qh (And.intro hca hcm);clear hca hcm;go_wp2_with fail;refine(HR2.out _).mono ?_;rintro e w2⟨A',c',rfl,hrd2,hx2,_,_⟩;have HB1:=qh ((Blk.new w2 112 #[.bool ba,.slice A (gr x).length c]).alloc (.cells #[.bool bb,.slice A' (gr y).length c'] 112));have HB2:=qh (blk_at (w2.alloc (.cells #[.bool ba,.slice A (gr x).length c] 112)) 112 #[.bool bb,.slice A' (gr y).length c'] (w2.heap.size+1) (by simp));have HX:Hid (Ext w ((w2.alloc (.cells #[.bool ba,.slice A (gr x).length c] 112)).alloc (.cells #[.bool bb,.slice A' (gr y).length c'] 112))):=qh (((hx1.trans hx2).alloc _).alloc _);have HD1:=qh (((hrd1.ext hx2).ext (Ext.new _ (.cells #[.bool ba,.slice A (gr x).length c] 112))).ext (Ext.new _ (.cells #[.bool bb,.slice A' (gr y).length c'] 112)));have HD2:=qh ((hrd2.ext (Ext.new _ (.cells #[.bool ba,.slice A (gr x).length c] 112))).ext (Ext.new _ (.cells #[.bool bb,.slice A' (gr y).length c'] 112)));clear hrd1 hrd2 hx1 hx2;go_wp2_with fail;generalize ((w2.alloc (.cells #[.bool ba,.slice A (gr x).length c] 112)).alloc (.cells #[.bool bb,.slice A' (gr y).length c'] 112))=W at *;generalize w2.heap.size=g at *;refine(qx x y h0 A A' c c' _ HD1.out HD2.out HL1.out HL2.out HC.out.1 HC.out.2).mono ?_;rintro e w4⟨A1,c1,A2,c2,rfl,hrq,hrr,hx,hq,hr⟩;have H:Hid (DvAt w g ba bb A A' A1 A2 x y (x / y) (x % y) c c' w4):=qh ⟨HX.out.trans hx,HB1.out.ext hx,HB2.out.ext hx,HD2.out.ext hx,hrq,hrr⟩;have HCQ:=qh hq;have HCR:=qh hr;have hrl:x % y<y:=Nat.mod_lt _ h0;have hql:x / y<=x:=Nat.div_le_self _ _;have HLq:=qh (HLQ.out (x / y) (by omega));have HLr:=qh (HLR.out (x % y) (by omega));have HLq1:=qh (HLQ.out (x / y+1) (by omega));have HLr1:=qh (HLR.out (y-x % y) (by omega));have HMI:=qh (fun W hW hW'=>intMinus y (x % y) (by omega) A' A2 c' c2 W hW hW' (by have:=HL2.out;omega) HLr.out)
 have HPL:Hid (∀W B,RdU W A1 (gr (x / y))->RdU W B [1]->Calls Tryz.prog 140 #[.slice A1 (gr (x / y)).length c1,.slice B 1 1] W (MagEnds (x / y+1) W)):=qh (fun W B h1 h2=>by
  have e1:gr 1=[1]:=lh (by decide) (by decide);have:=intPlus (x / y) 1 A1 B c1 1 W h1 (by rw[e1];exact h2) HLq.out (by rw[e1];simp);rw[e1]at this
  exact this)
 clear hrq hrr hx hq hr HB1 HB2 HX HD1 HD2 HR1 HR2 HL1 HL2 HLQ HLR hrl hql
 cases ba <;> cases bb
 ·have HVQ:Hid (dH false (x / y)=zq):=qh (HS.out (.inl rfl)).1;have HVR:Hid (dH false (x % y)=zr):=qh (HS.out (.inl rfl)).2;clear HLq1 HLr1 HMI HPL HS HO;generalize x / y=qq at *;generalize x % y=rr at *;have HT2:=qh (fun s W h1 h2=>cO s rr A2 c2 W h1 HLr.out HCR.out.1 HCR.out.2 h2);obtain⟨x0,y0,y1⟩:=H.out.cells;go_wp2_with fail;replace H:=qh (H.out.on (Ext.refl _).drew)
  go_region_held3 (fun w'=>w'.cell? ⟨g,0,none⟩=some (.bool false)∧w'.cell? ⟨g+1,0,none⟩=some (.bool false))
   (go_keep)
   (first
    |(go_at_call 69;((with_reducible refine(cO _ qq A1 c1 _ H.out.rq HLq.out HCQ.out.1 HCQ.out.2 (HE.out.ext H.out.ext)).mono ?_);rintro e w5⟨rfl,hx⟩);(replace H:=qh (H.out.on hx));(obtain⟨u0,v0,_⟩:=H.out.cells);clear hx)
    |(go_at_call 69;((with_reducible refine(HT2.out _ _ H.out.rr (HE.out.ext H.out.ext)).mono ?_);rintro e w6⟨rfl,hx⟩);(replace H:=qh (H.out.on hx));(obtain⟨s0,t0,_⟩:=H.out.cells);clear hx))
  all_goals
   rw[HVQ.out,HVR.out];go_wp2_with fail;go_ret3
   exact⟨rfl,H.out.ext⟩
 ·by_cases hz:x % y=0
  ·have HVQ:Hid (dH true (x / y)=zq):=qh (HS.out (.inr hz)).1;have HVR:Hid (dH true (x % y)=zr):=qh (HS.out (.inr hz)).2;have hl0:(gr (x % y)).length=0:=by rw[hz,gr_zero];rfl
   clear HLq1 HLr1 HMI HPL HS HO hz;generalize x / y=qq at *;generalize x % y=rr at *;have HT2:=qh (fun s W h1 h2=>cO s rr A2 c2 W h1 HLr.out HCR.out.1 HCR.out.2 h2);rw[hl0]at HT2;obtain⟨x0,y0,y1⟩:=H.out.cells;go_wp2_with fail;replace H:=qh (H.out.on (Ext.refl _).drew)
   go_region_held3 (fun w'=>w'.cell? ⟨g,0,none⟩=some (.bool false)∧w'.cell? ⟨g+1,0,none⟩=some (.bool true))
    (go_keep)
    (first
     |(go_at_call 69;((with_reducible refine(cO _ qq A1 c1 _ H.out.rq HLq.out HCQ.out.1 HCQ.out.2 (HE.out.ext H.out.ext)).mono ?_);rintro e w5⟨rfl,hx⟩);(replace H:=qh (H.out.on hx));(obtain⟨u0,v0,_⟩:=H.out.cells);clear hx)
     |(go_at_call 69;((with_reducible refine(HT2.out _ _ H.out.rr (HE.out.ext H.out.ext)).mono ?_);rintro e w6⟨rfl,hx⟩);(replace H:=qh (H.out.on hx));(obtain⟨s0,t0,_⟩:=H.out.cells);clear hx))
   all_goals
    rw[HVQ.out,HVR.out];go_wp2_with fail;go_ret3
    exact⟨rfl,H.out.ext⟩
  ·have HVQ:Hid (dH true (x / y+1)=zq):=qh (HO.out (by decide) hz).1;have HVR:Hid (dH true (y-x % y)=zr):=qh (HO.out (by decide) hz).2
   have hl0:0<(gr (x % y)).length:=by
    rcases Nat.eq_zero_or_pos (gr (x % y)).length with e|e
    ·exact absurd (gr_inj (by rw[List.length_eq_zero_iff.1 e,gr_zero]):x % y=0) hz
    ·exact e
   clear HS HO hz HLq HLr HCQ HCR;generalize x / y=q0 at *;generalize x % y=r0 at *;obtain⟨x0,y0,y1⟩:=H.out.cells;have hgs:=H.out.b2.lt;go_wp2_with fail;have H0:=H;replace H:=qh (H.out.on (Ext.refl _).drew);obtain⟨x2,y2,y3⟩:=H.out.cells
   go_region_held3 (fun w'=>w'.cell? ⟨g+1,1,none⟩=some (.slice A' (gr y).length c'))
    (go_keep)
    (first
     |(go_at_call 140;((with_reducible refine(HPL.out _ _ ((H0.out.on (Ext.new _ _)).on (Ext.refl _).drew).rq ((pt (by first|rfl|simp)).ext (Ext.refl _).drew)).mono ?_);rintro e w5⟨A3,c3,rfl,hrd3,hx,hc3,hm3⟩);(replace H:=qh (((H0.out.on (Ext.new _ _)).on (Ext.refl _).drew).on hx));(have HCQ:=qh (And.intro hc3 hm3));(have HRQ:=qh hrd3);(obtain⟨_,_,v1⟩:=H.out.cells);(try (replace HRR:=qh (HRR.out.ext hx)));clear hx hrd3 hc3 hm3)
     |(go_at_call 140;((with_reducible refine(HPL.out _ _ (H.out.on (Ext.new _ _)).rq (pt (by first|rfl|simp))).mono ?_);rintro e w5⟨A3,c3,rfl,hrd3,hx,hc3,hm3⟩);(replace H:=qh ((H.out.on (Ext.new _ _)).on hx));(have HCQ:=qh (And.intro hc3 hm3));(have HRQ:=qh hrd3);(obtain⟨_,_,v1⟩:=H.out.cells);(try (replace HRR:=qh (HRR.out.ext hx)));clear hx hrd3 hc3 hm3)
     |(go_at_call 140;((with_reducible refine(HPL.out _ _ H.out.rq HLIT.out).mono ?_);rintro e w5⟨A3,c3,rfl,hrd3,hx,hc3,hm3⟩);(replace H:=qh (H.out.on hx));(have HCQ:=qh (And.intro hc3 hm3));(have HRQ:=qh hrd3);(obtain⟨_,_,v1⟩:=H.out.cells);(try (replace HRR:=qh (HRR.out.ext hx)));clear hx hrd3 hc3 hm3)
     |(go_at_call 141;((with_reducible refine(HMI.out _ H.out.ry H.out.rr).mono ?_);rintro e w6⟨A4,c4,rfl,hrd4,hx,hc4,hm4⟩);(replace H:=qh (H.out.on hx));(have HCR:=qh (And.intro hc4 hm4));(have HRR:=qh hrd4);(obtain⟨_,_,v1⟩:=H.out.cells);(try (replace HRQ:=qh (HRQ.out.ext hx)));clear hx hrd4 hc4 hm4)
     |(go_at_call 141;((with_reducible refine(HMI.out _ ((H0.out.on (Ext.new _ _)).on (Ext.refl _).drew).ry ((H0.out.on (Ext.new _ _)).on (Ext.refl _).drew).rr).mono ?_);rintro e w6⟨A4,c4,rfl,hrd4,hx,hc4,hm4⟩);(have HLIT:Hid (RdU w6 _ [1]):=qh (((pt rfl).ext (Ext.refl _).drew).ext hx));(replace H:=qh (((H0.out.on (Ext.new _ _)).on (Ext.refl _).drew).on hx));(have HCR:=qh (And.intro hc4 hm4));(have HRR:=qh hrd4);(obtain⟨_,_,v1⟩:=H.out.cells);clear hx hrd4 hc4 hm4))
   all_goals
    replace H:Hid (DvAt w g false true A A' A3 A4 x y (q0+1) (y-r0) c c' _):=qh ⟨H.out.ext,H.out.b1,H.out.b2,H.out.ry,HRQ.out,HRR.out⟩;have HLq:=HLq1;have HLr:=HLr1;clear HLq1 HLr1 HMI HPL HRQ HRR;generalize q0+1=qq at *;generalize y-r0=rr at *;have HT2:=qh (fun s W h1 h2=>cO s rr A4 c4 W h1 HLr.out HCR.out.1 HCR.out.2 h2);obtain⟨x0,y0,y1⟩:=H.out.cells;go_wp2_with fail;replace H:=qh (H.out.on (Ext.refl _).drew)
    go_region_held3 (fun w'=>w'.cell? ⟨g,0,none⟩=some (.bool false)∧w'.cell? ⟨g+1,0,none⟩=some (.bool true))
     (go_keep)
     (first
      |(go_at_call 69;((with_reducible refine(cO _ qq A3 c3 _ H.out.rq HLq.out HCQ.out.1 HCQ.out.2 (HE.out.ext H.out.ext)).mono ?_);rintro e w5⟨rfl,hx⟩);(replace H:=qh (H.out.on hx));(obtain⟨u0,v0,_⟩:=H.out.cells);clear hx)
      |(go_at_call 69;((with_reducible refine(HT2.out _ _ H.out.rr (HE.out.ext H.out.ext)).mono ?_);rintro e w6⟨rfl,hx⟩);(replace H:=qh (H.out.on hx));(obtain⟨s0,t0,_⟩:=H.out.cells);clear hx))
    all_goals
     rw[HVQ.out,HVR.out];go_wp2_with fail;go_ret3
     exact⟨rfl,H.out.ext⟩
 ·by_cases hz:x % y=0
  ·have HVQ:Hid (dH true (x / y)=zq):=qh (HS.out (.inr hz)).1;have HVR:Hid (dH false (x % y)=zr):=qh (HS.out (.inr hz)).2;have hl0:(gr (x % y)).length=0:=by rw[hz,gr_zero];rfl
   clear HLq1 HLr1 HMI HPL HS HO hz;generalize x / y=qq at *;generalize x % y=rr at *;have HT2:=qh (fun s W h1 h2=>cO s rr A2 c2 W h1 HLr.out HCR.out.1 HCR.out.2 h2);rw[hl0]at HT2;obtain⟨x0,y0,y1⟩:=H.out.cells;go_wp2_with fail;replace H:=qh (H.out.on (Ext.refl _).drew)
   go_region_held3 (fun w'=>w'.cell? ⟨g,0,none⟩=some (.bool true)∧w'.cell? ⟨g+1,0,none⟩=some (.bool false))
    (go_keep)
    (first
     |(go_at_call 69;((with_reducible refine(cO _ qq A1 c1 _ H.out.rq HLq.out HCQ.out.1 HCQ.out.2 (HE.out.ext H.out.ext)).mono ?_);rintro e w5⟨rfl,hx⟩);(replace H:=qh (H.out.on hx));(obtain⟨u0,v0,_⟩:=H.out.cells);clear hx)
     |(go_at_call 69;((with_reducible refine(HT2.out _ _ H.out.rr (HE.out.ext H.out.ext)).mono ?_);rintro e w6⟨rfl,hx⟩);(replace H:=qh (H.out.on hx));(obtain⟨s0,t0,_⟩:=H.out.cells);clear hx))
   all_goals
    rw[HVQ.out,HVR.out];go_wp2_with fail;go_ret3
    exact⟨rfl,H.out.ext⟩
  ·have HVQ:Hid (dH true (x / y+1)=zq):=qh (HO.out (by decide) hz).1;have HVR:Hid (dH false (y-x % y)=zr):=qh (HO.out (by decide) hz).2
   have hl0:0<(gr (x % y)).length:=by
    rcases Nat.eq_zero_or_pos (gr (x % y)).length with e|e
    ·exact absurd (gr_inj (by rw[List.length_eq_zero_iff.1 e,gr_zero]):x % y=0) hz
    ·exact e
   clear HS HO hz HLq HLr HCQ HCR;generalize x / y=q0 at *;generalize x % y=r0 at *;obtain⟨x0,y0,y1⟩:=H.out.cells;have hgs:=H.out.b2.lt;go_wp2_with fail;have H0:=H;replace H:=qh (H.out.on (Ext.refl _).drew);obtain⟨x2,y2,y3⟩:=H.out.cells
   go_region_held3 (fun w'=>w'.cell? ⟨g+1,1,none⟩=some (.slice A' (gr y).length c'))
    (go_keep)
    (first
     |(go_at_call 140;((with_reducible refine(HPL.out _ _ ((H0.out.on (Ext.new _ _)).on (Ext.refl _).drew).rq ((pt (by first|rfl|simp)).ext (Ext.refl _).drew)).mono ?_);rintro e w5⟨A3,c3,rfl,hrd3,hx,hc3,hm3⟩);(replace H:=qh (((H0.out.on (Ext.new _ _)).on (Ext.refl _).drew).on hx));(have HCQ:=qh (And.intro hc3 hm3));(have HRQ:=qh hrd3);(obtain⟨_,_,v1⟩:=H.out.cells);(try (replace HRR:=qh (HRR.out.ext hx)));clear hx hrd3 hc3 hm3)
     |(go_at_call 140;((with_reducible refine(HPL.out _ _ (H.out.on (Ext.new _ _)).rq (pt (by first|rfl|simp))).mono ?_);rintro e w5⟨A3,c3,rfl,hrd3,hx,hc3,hm3⟩);(replace H:=qh ((H.out.on (Ext.new _ _)).on hx));(have HCQ:=qh (And.intro hc3 hm3));(have HRQ:=qh hrd3);(obtain⟨_,_,v1⟩:=H.out.cells);(try (replace HRR:=qh (HRR.out.ext hx)));clear hx hrd3 hc3 hm3)
     |(go_at_call 140;((with_reducible refine(HPL.out _ _ H.out.rq HLIT.out).mono ?_);rintro e w5⟨A3,c3,rfl,hrd3,hx,hc3,hm3⟩);(replace H:=qh (H.out.on hx));(have HCQ:=qh (And.intro hc3 hm3));(have HRQ:=qh hrd3);(obtain⟨_,_,v1⟩:=H.out.cells);(try (replace HRR:=qh (HRR.out.ext hx)));clear hx hrd3 hc3 hm3)
     |(go_at_call 141;((with_reducible refine(HMI.out _ H.out.ry H.out.rr).mono ?_);rintro e w6⟨A4,c4,rfl,hrd4,hx,hc4,hm4⟩);(replace H:=qh (H.out.on hx));(have HCR:=qh (And.intro hc4 hm4));(have HRR:=qh hrd4);(obtain⟨_,_,v1⟩:=H.out.cells);(try (replace HRQ:=qh (HRQ.out.ext hx)));clear hx hrd4 hc4 hm4)
     |(go_at_call 141;((with_reducible refine(HMI.out _ ((H0.out.on (Ext.new _ _)).on (Ext.refl _).drew).ry ((H0.out.on (Ext.new _ _)).on (Ext.refl _).drew).rr).mono ?_);rintro e w6⟨A4,c4,rfl,hrd4,hx,hc4,hm4⟩);(have HLIT:Hid (RdU w6 _ [1]):=qh (((pt rfl).ext (Ext.refl _).drew).ext hx));(replace H:=qh (((H0.out.on (Ext.new _ _)).on (Ext.refl _).drew).on hx));(have HCR:=qh (And.intro hc4 hm4));(have HRR:=qh hrd4);(obtain⟨_,_,v1⟩:=H.out.cells);clear hx hrd4 hc4 hm4))
   all_goals
    replace H:Hid (DvAt w g true false A A' A3 A4 x y (q0+1) (y-r0) c c' _):=qh ⟨H.out.ext,H.out.b1,H.out.b2,H.out.ry,HRQ.out,HRR.out⟩;have HLq:=HLq1;have HLr:=HLr1;clear HLq1 HLr1 HMI HPL HRQ HRR;generalize q0+1=qq at *;generalize y-r0=rr at *;have HT2:=qh (fun s W h1 h2=>cO s rr A4 c4 W h1 HLr.out HCR.out.1 HCR.out.2 h2);obtain⟨x0,y0,y1⟩:=H.out.cells;go_wp2_with fail;replace H:=qh (H.out.on (Ext.refl _).drew)
    go_region_held3 (fun w'=>w'.cell? ⟨g,0,none⟩=some (.bool true)∧w'.cell? ⟨g+1,0,none⟩=some (.bool false))
     (go_keep)
     (first
      |(go_at_call 69;((with_reducible refine(cO _ qq A3 c3 _ H.out.rq HLq.out HCQ.out.1 HCQ.out.2 (HE.out.ext H.out.ext)).mono ?_);rintro e w5⟨rfl,hx⟩);(replace H:=qh (H.out.on hx));(obtain⟨u0,v0,_⟩:=H.out.cells);clear hx)
      |(go_at_call 69;((with_reducible refine(HT2.out _ _ H.out.rr (HE.out.ext H.out.ext)).mono ?_);rintro e w6⟨rfl,hx⟩);(replace H:=qh (H.out.on hx));(obtain⟨s0,t0,_⟩:=H.out.cells);clear hx))
    all_goals
     rw[HVQ.out,HVR.out];go_wp2_with fail;go_ret3
     exact⟨rfl,H.out.ext⟩
 ·have HVQ:Hid (dH false (x / y)=zq):=qh (HS.out (.inl rfl)).1;have HVR:Hid (dH true (x % y)=zr):=qh (HS.out (.inl rfl)).2;clear HLq1 HLr1 HMI HPL HS HO;generalize x / y=qq at *;generalize x % y=rr at *;have HT2:=qh (fun s W h1 h2=>cO s rr A2 c2 W h1 HLr.out HCR.out.1 HCR.out.2 h2);obtain⟨x0,y0,y1⟩:=H.out.cells;go_wp2_with fail;replace H:=qh (H.out.on (Ext.refl _).drew)
  go_region_held3 (fun w'=>w'.cell? ⟨g,0,none⟩=some (.bool true)∧w'.cell? ⟨g+1,0,none⟩=some (.bool true))
   (go_keep)
   (first
    |(go_at_call 69;((with_reducible refine(cO _ qq A1 c1 _ H.out.rq HLq.out HCQ.out.1 HCQ.out.2 (HE.out.ext H.out.ext)).mono ?_);rintro e w5⟨rfl,hx⟩);(replace H:=qh (H.out.on hx));(obtain⟨u0,v0,_⟩:=H.out.cells);clear hx)
    |(go_at_call 69;((with_reducible refine(HT2.out _ _ H.out.rr (HE.out.ext H.out.ext)).mono ?_);rintro e w6⟨rfl,hx⟩);(replace H:=qh (H.out.on hx));(obtain⟨s0,t0,_⟩:=H.out.cells);clear hx))
  all_goals
   rw[HVQ.out,HVR.out];go_wp2_with fail;go_ret3
   exact⟨rfl,H.out.ext⟩
end
section
open Go.RowKit
structure Fr where
 num:Bs
 den:Bs
def jN(n d:Int):Int:=(if d<0 then -n else n) / (Int.gcd n d:Nat)
def ib(n d:Int):Int:=(d.natAbs / Int.gcd n d:Nat)
def DP(n d:Int):Fr:=⟨ofI (jN n d),if ib n d=1 then [] else ofI (ib n d)⟩
theorem ur{n:Int}(hd:d≠0):0<Int.gcd n d:=Int.gcd_pos_of_ne_zero_right _ hd
def DQ(f:Fr):Int:=valI f.num
def ni(f:Fr):Int:=if valI f.den=0 then 1 else valI f.den
theorem ic(f:Fr):ni f≠0:=by unfold ni;split;decide;assumption
def cr(q:Rat):Fr:=⟨ofI q.num,if q.den=1 then [] else ofI q.den⟩
def ay(f:Fr):Rat:=Rat.divInt (DQ f) (ni f)
theorem rF{n:Int}(hd:d≠0):jN n d=(Rat.divInt n d).num:=by
 unfold jN;rw[Rat.num_divInt,Int.gcd_comm d n];congr 1
 rcases Int.lt_or_gt_of_ne hd with h|h
 ·rw[if_pos h,Int.sign_eq_neg_one_of_neg h];omega
 ·rw[if_neg (by omega),Int.sign_eq_one_of_pos h];omega
theorem rG{n:Int}(hd:d≠0):ib n d=(Rat.divInt n d).den:=by
 unfold ib;rw[Rat.den_divInt,if_neg hd,Int.gcd_comm d n]
theorem BW{n:Int}(hd:d≠0):DP n d=cr (Rat.divInt n d):=by
 unfold DP cr;rw[rF hd,rG hd];congr 1
 by_cases h:(Rat.divInt n d).den=1
 ·rw[if_pos (by omega),if_pos h]
 ·rw[if_neg (by omega),if_neg h]
theorem us(q:Rat):DQ (cr q)=q.num:=valI_ofI _
theorem B6(q:Rat):ni (cr q)=q.den:=by
 have hp:=q.den_pos;unfold ni cr;by_cases h:q.den=1
 ·simp only[if_pos h];rw[h];decide
 ·simp only[if_neg h];rw[valI_ofI,if_neg (by omega)]
theorem kJ(q:Rat):ay (cr q)=q:=by
 unfold ay;rw[us,B6];exact Rat.num_divInt_den q
theorem pu(z:Int):cr z=⟨ofI z,[]⟩:=by
 unfold cr;simp
theorem yJ:cr 0=⟨[],[]⟩:=by
 have:cr ((0:Int):Rat)=⟨[],[]⟩:=by rw[pu];rw[show ofI 0=[] by unfold ofI;simp[dig10_zero]]
 exact this
def QB(L:Nat)(q:Rat):Prop:=q.num.natAbs<10 ^ L∧q.den<10 ^ L
theorem j7{L:Nat}{n:Int}(hL:0<L)(hn:n.natAbs<10 ^ L)(hd:d.natAbs<10 ^ L):QB L (Rat.divInt n d):=by
 have h1:1<10 ^ L:=Nat.one_lt_pow (by omega) (by decide);constructor
 ·rw[Rat.num_divInt];refine Nat.lt_of_le_of_lt ?_ hn;refine Nat.le_trans (Int.natAbs_ediv_le_natAbs _ _) ?_;rw[Int.natAbs_mul]
  have:d.sign.natAbs<=1:=by
   rcases Int.lt_trichotomy d 0 with h|h|h
   ·rw[Int.sign_eq_neg_one_of_neg h];decide
   ·rw[h];decide
   ·rw[Int.sign_eq_one_of_pos h];decide
  exact Nat.le_trans (Nat.mul_le_mul_right _ this) (Nat.le_of_eq (Nat.one_mul _))
 ·rw[Rat.den_divInt];split
  ·exact h1
  ·exact Nat.lt_of_le_of_lt (Nat.div_le_self _ _) hd
theorem QB.neg{L:Nat}{q:Rat}(h:QB L q):QB L (-q):=⟨by rw[Rat.neg_num,Int.natAbs_neg];exact h.1,h.2⟩
theorem eN{a b L:Nat}(ha:a<10 ^ L)(hb:b<10 ^ M):a*b<10 ^ (L+M):=by
 rw[Nat.pow_add];rcases Nat.eq_zero_or_pos b with h|h
 ·subst h;rw[Nat.mul_zero];exact Nat.mul_pos (Nat.pow_pos (by decide)) (Nat.pow_pos (by decide))
 ·exact Nat.lt_of_lt_of_le (Nat.mul_lt_mul_of_pos_right ha h) (Nat.mul_le_mul_left _ (by omega))
theorem QB.pos{L:Nat}{q:Rat}(h:QB L q):0<L:=by
 rcases Nat.eq_zero_or_pos L with h0|h0
 ·subst h0;have:=h.2;have:=q.den_pos;omega
 ·exact h0
theorem jO{a b L:Nat}(ha:a<10 ^ L)(hb:b<10 ^ L):a+b<10 ^ (L+1):=by rw[Nat.pow_succ];omega
theorem QB.mul{L:Nat}{p q:Rat}(h:QB L p)(k:QB M q):QB (L+M) (p*q):=by
 rw[Rat.mul_def',←Rat.divInt_ofNat];refine j7 (by have:=h.pos;omega) ?_ ?_
 ·rw[Int.natAbs_mul];exact eN h.1 k.1
 ·rw[Int.natAbs_natCast];exact eN h.2 k.2
theorem QB.add{L:Nat}{p q:Rat}(h:QB L p)(k:QB M q):QB (L+M+1) (p+q):=by
 rw[Rat.add_def',←Rat.divInt_ofNat];refine j7 (by omega) ?_ ?_
 ·refine Nat.lt_of_le_of_lt (Int.natAbs_add_le _ _) ?_;rw[Int.natAbs_mul,Int.natAbs_mul,Int.natAbs_natCast,Int.natAbs_natCast];refine jO (eN h.1 k.2) ?_;rw[Nat.add_comm L M];exact eN k.1 h.2
 ·rw[Int.natAbs_natCast];have:=eN h.2 k.2;rw[Nat.pow_succ];omega
theorem QB.sub{L:Nat}{p q:Rat}(h:QB L p)(k:QB M q):QB (L+M+1) (p-q):=by
 rw[Rat.sub_eq_add_neg];exact h.add k.neg
theorem ww{L:Nat}(hL:0<L)(h:z.natAbs<10 ^ L):QB L (z:Rat):=⟨by simpa using h,by simp;exact Nat.one_lt_pow (by omega) (by decide)⟩
theorem bz{L:Nat}(h:z.natAbs<10 ^ L):(ofI z).length<=L+1:=by
 have:=dig10_len h;unfold ofI;split
 ·rw[List.length_cons];omega
 ·omega
theorem QB.num_len{L:Nat}{q:Rat}(h:QB L q):(cr q).num.length<=L+1:=bz h.1
theorem QB.den_len{L:Nat}{q:Rat}(h:QB L q):(cr q).den.length<=L+1:=by
 unfold cr;simp only;split
 ·simp
 ·exact bz (by rw[Int.natAbs_natCast];exact h.2)
theorem aH{L:Nat}(h:l.length<=L):(valI l).natAbs<10 ^ L:=by
 have h1:=natOf_lt (mag_all l);have h2:10 ^ (mag l).length<=10 ^ L:=Nat.pow_le_pow_right (by decide) (Nat.le_trans (mag_le l) h);unfold valI;split <;> omega
theorem oC{f:Fr}{L:Nat}(h1:f.num.length<=L)(h2:f.den.length<=L)(h0:0<L):QB L (ay f):=by
 refine j7 h0 (aH h1) ?_;unfold ni;split
 ·exact Nat.one_lt_pow (by omega) (by decide)
 ·exact aH h2
theorem oD(z:Int):Rat.divInt z 1=(z:Rat):=by
 rw[Rat.divInt_eq_div];simp only[Rat.intCast_one];grind
theorem B7(q:Rat):q.num<0↔q<0:=by
 have:=Rat.num_nonneg (q:=q);grind
def cR(p q:Rat):Int:=if p<q then -1 else if p=q then 0 else 1
theorem yK(p q:Rat):cmpI (p-q).num 0=cR p q:=by
 unfold cmpI cR;have h1:=B7 (p-q);have h2:(p-q).num=0↔p-q=0:=Rat.num_eq_zero;have h3:p-q<0↔p<q:=by grind
 have h4:p-q=0↔p=q:=by grind
 by_cases a:p<q
 ·rw[if_pos (h1.2 (h3.2 a)),if_pos a]
 ·rw[if_neg (fun h=>a (h3.1 (h1.1 h))),if_neg a];by_cases b:p=q
  ·rw[if_pos (h2.2 (h4.2 b)),if_pos b]
  ·rw[if_neg (fun h=>b (h4.1 (h2.1 h))),if_neg b]
theorem rH{p q:Rat}:cR p q<0↔p<q:=by unfold cR;split <;> (try split) <;> simp_all
theorem qy{p q:Rat}:cR p q=0↔p=q:=by
 unfold cR;split
 ·simp;grind
 ·split <;> simp_all
theorem fP{x y:Bs}{L:Nat}(hx:x.length<=L)(hy:y.length<=M):(ofI (valI x*valI y)).length<=L+M+1:=bz (by rw[Int.natAbs_mul];exact eN (aH hx) (aH hy))
theorem B8{x y:Bs}{L:Nat}(hx:x.length<=L)(hy:y.length<=L):(ofI (valI x+valI y)).length<=L+2:=bz (Nat.lt_of_le_of_lt (Int.natAbs_add_le _ _) (jO (aH hx) (aH hy)))
theorem Cb{x y:Bs}{L:Nat}(hx:x.length<=L)(hy:y.length<=L):(ofI (valI x-valI y)).length<=L+2:=bz (Nat.lt_of_le_of_lt (Int.natAbs_sub_le _ _) (jO (aH hx) (aH hy)))
def cfR(r:List Int)(i k:Fin r.length):Int:=if cmpI r[k] r[i]≠0 then cmpI r[k] r[i] else cmpI (i.val:Int) (k.val:Int)
def ltR(r:List Int)(i k:Fin r.length):Bool:=decide (cfR r i k<0)
theorem cZ{x y:Int}:cmpI x y<0↔x<y:=by unfold cmpI;split <;> (try split) <;> omega
theorem dB{x y:Int}:cmpI x y=0↔x=y:=by unfold cmpI;split <;> (try split) <;> omega
theorem dq{x y:Int}:0<cmpI x y↔y<x:=by unfold cmpI;split <;> (try split) <;> omega
theorem ltR_iff{r:List Int}{i k:Fin r.length}:ltR r i k=true↔r[k]<r[i]∨(r[k]=r[i]∧i.val<k.val):=by
 unfold ltR cfR;rw[decide_eq_true_iff];by_cases h:r[k]=r[i]
 ·rw[if_neg (by rw[Ne,dB];omega),cZ];omega
 ·rw[if_pos (by rw[Ne,dB];omega),cZ];omega
def ordR(r:List Int):List (Fin r.length):=(List.finRange r.length).mergeSort (fun x y=>!ltR r y x)
theorem qz(r:List Int):(ordR r).Perm (List.finRange r.length):=List.mergeSort_perm _ _
theorem ordR_len(r:List Int):(ordR r).length=r.length:=by rw[ordR,List.length_mergeSort,List.length_finRange]
theorem vh(r:List Int):(ordR r).Nodup:=(qz r).nodup_iff.2 (List.nodup_finRange _)
theorem tL(r:List Int):(ordR r).Pairwise (fun x y=>r[y]<=r[x]):=by
 have h:=List.pairwise_mergeSort (le:=fun x y=>!ltR r y x) (by
  intro a b c h1 h2;simp only[Bool.not_eq_true',←Bool.not_eq_true,ltR_iff]at *;omega) (by
  intro a b;simp only[Bool.or_eq_true,Bool.not_eq_true',←Bool.not_eq_true,ltR_iff];omega) (List.finRange r.length)
 refine List.Pairwise.imp ?_ h;intro a b hab;simp only[Bool.not_eq_true',←Bool.not_eq_true,ltR_iff]at hab;omega
def cD(p:List Int)(is:List Nat):List Int:=is.foldl (fun l i=>l.modify i (·+1)) p
theorem ky(p:List Int)(is:List Nat):(cD p is).length=p.length:=by
 unfold cD;induction is generalizing p with
 |nil=>rfl
 |cons i r ih=>rw[List.foldl_cons,ih,List.length_modify]
theorem vj(p:List Int)(i:Nat)(h:i<p.length):(p.modify i (·+1)).sum=p.sum+1:=by
 induction p generalizing i with
 |nil=>simp at h
 |cons a r ih =>
  cases i with
  |zero=>simp;omega
  |succ i=>simp only[List.modify_succ_cons,List.sum_cons];rw[ih i (by simpa using h)];omega
theorem tM(p:List Int)(is:List Nat)(h:∀i ∈ is,i<p.length):(cD p is).sum=p.sum+is.length:=by
 unfold cD;induction is generalizing p with
 |nil=>simp
 |cons i r ih =>
  rw[List.foldl_cons,ih _ (fun k hk=>by rw[List.length_modify];exact h k (by simp[hk])),vj _ _ (h i (by simp)),List.length_cons];omega
theorem kz(p:List Int)(is:List Nat)(hn:is.Nodup)(k:Nat)(hk:k<p.length):(cD p is)[k]? = some (p[k]+if k ∈ is then 1 else 0):=by
 unfold cD;induction is generalizing p with
 |nil=>simp[hk]
 |cons i r ih =>
  rw[List.nodup_cons]at hn;rw[List.foldl_cons,ih _ hn.2 (by rw[List.length_modify];exact hk),List.getElem_modify];congr 1
  by_cases e:i=k
  ·subst e;rw[if_pos rfl,if_neg hn.1,if_pos (by simp)];omega
  ·rw[if_neg e];by_cases hr:k ∈ r
   ·rw[if_pos hr,if_pos (by simp[hr])]
   ·rw[if_neg hr,if_neg (by simp[hr];omega)]
def bN(T:Int)(ws:List Int):List Int:=ws.map (fun x=>T*x / ws.sum)
def cu(T:Int)(ws:List Int):List Int:=ws.map (fun x=>T*x % ws.sum)
def bC(T:Int)(ws:List Int):Int:=T-(bN T ws).sum
def cU(T:Int)(ws:List Int):List Nat:=((ordR (cu T ws)).take (bC T ws).toNat).map (·.val)
def be(T:Int)(ws:List Int):List Int:=cD (bN T ws) (cU T ws)
def bU(T:Int)(ws:List Int):List Int:=if T<0 then(be (-T) ws).map (-·) else be T ws
theorem jP(T:Int)(ws:List Int):(bN T ws).length=ws.length:=List.length_map ..
theorem iI(T:Int)(ws:List Int):(cu T ws).length=ws.length:=List.length_map ..
theorem ie(T:Int)(ws:List Int):(be T ws).length=ws.length:=by rw[be,ky,jP]
theorem li(T:Int)(ws:List Int):(bU T ws).length=ws.length:=by
 unfold bU;split
 ·rw[List.length_map,ie]
 ·exact ie _ _
theorem vm(T S:Int)(l:List Int):S*(l.map (fun x=>T*x / S)).sum+(l.map (fun x=>T*x % S)).sum=T*l.sum:=by
 induction l with
 |nil=>simp
 |cons a r ih =>
  simp only[List.map_cons,List.sum_cons];have:=Int.mul_ediv_add_emod (T*a) S;rw[Int.mul_add,Int.mul_add];omega
theorem ut:ws.sum*bC T ws=(cu T ws).sum:=by
 have:=vm T ws.sum ws;have e:(bN T ws).sum=(ws.map (fun x=>T*x / ws.sum)).sum:=rfl;have e2:(cu T ws).sum=(ws.map (fun x=>T*x % ws.sum)).sum:=rfl;unfold bC;rw[Int.mul_sub,e,e2,Int.mul_comm ws.sum T];omega
theorem oE(l:List Int)(h:∀x ∈ l,0<=x∧x<S):0<=l.sum∧l.sum<=l.length*(S-1):=by
 induction l with
 |nil=>simp
 |cons a r ih =>
  have h1:=h a (by simp);have h2:=ih (fun x hx=>h x (by simp[hx]));simp only[List.sum_cons,List.length_cons];rw[Int.natCast_add,Int.add_mul];omega
theorem nj(hS:0<ws.sum):∀x ∈ cu T ws,0<=x∧x<ws.sum:=by
 intro x hx;obtain⟨a,_,rfl⟩:=List.mem_map.1 hx;exact⟨Int.emod_nonneg _ (by omega),Int.emod_lt_of_pos _ hS⟩
theorem gj(hS:0<ws.sum):0<=bC T ws∧bC T ws<=ws.length:=by
 have h1:=oE _ (nj (T:=T) hS);rw[←ut,iI]at h1;constructor
 ·have:=Int.le_of_mul_le_mul_left (a:=ws.sum) (b:=0) (c:=bC T ws) (by rw[Int.mul_zero];exact h1.1) hS;exact this
 ·have h2:ws.sum*bC T ws<=ws.sum*ws.length:=by
   refine Int.le_trans h1.2 ?_;rw[Int.mul_sub,Int.mul_one,Int.mul_comm];omega
  exact Int.le_of_mul_le_mul_left h2 hS
theorem rI(hS:0<ws.sum):((cU T ws).length:Int)=bC T ws:=by
 have:=gj (T:=T) hS;rw[cU,List.length_map,List.length_take,ordR_len,iI];omega
theorem uu:∀i ∈ cU T ws,i<ws.length:=by
 intro i hi;obtain⟨k,_,rfl⟩:=List.mem_map.1 hi;exact Nat.lt_of_lt_of_eq k.isLt (iI T ws)
theorem lj:(cU T ws).Nodup:=by
 unfold cU;refine List.pairwise_map.2 (List.Pairwise.imp ?_ ((vh _).sublist (List.take_sublist _ _)));intro a b hab he;exact hab (Fin.ext he)
theorem ll(hS:0<ws.sum):(be T ws).sum=T:=by
 rw[be,tM _ _ (fun i hi=>by rw[jP];exact uu i hi),rI hS];unfold bC;omega
theorem Cc(l:List Int):(l.map (-·)).sum = -l.sum:=by
 induction l with
 |nil=>simp
 |cons a r ih=>simp only[List.map_cons,List.sum_cons];rw[ih];omega
theorem lm(hS:0<ws.sum):(bU T ws).sum=T:=by
 unfold bU;split
 ·rw[Cc,ll hS];omega
 ·exact ll hS
theorem wy{α:Type}(f:α->Int)(a b:List α):((a++b).map f).sum=(a.map f).sum+(b.map f).sum:=by simp
theorem yL{α:Type}(f:α->Int){a b:List α}(h:a.Perm b):(a.map f).sum=(b.map f).sum:=by
 induction h with
 |nil=>rfl
 |cons x _ ih=>simp[ih]
 |swap x y l=>simp;omega
 |trans _ _ ih1 ih2=>exact ih1.trans ih2
theorem rJ(r:List Int):((List.finRange r.length).map (fun i=>r[i])).sum=r.sum:=by
 congr 1
 apply List.ext_getElem
 ·simp
 ·intro i h1 h2;simp
theorem yM{α:Type}(f:α->Int)(l:List α)(h:∀x ∈ l,f x=0):(l.map f).sum=0:=by
 induction l with
 |nil=>rfl
 |cons a r ih=>simp only[List.map_cons,List.sum_cons];rw[h a (by simp),ih (fun x hx=>h x (by simp[hx]))];rfl
theorem rh{α:Type}(f:α->Int)(l:List α)(h:∀x ∈ l,0<=f x∧f x<S){i:α}(hi:i ∈ l)(h0:f i=0):(l.map f).sum<=(l.length-1)*(S-1):=by
 induction l with
 |nil=>simp at hi
 |cons a r ih =>
  have h1:=h a (by simp);have h2:=fun x hx=>h x (List.mem_cons_of_mem a hx)
  have hb:=oE (S:=S) (r.map f) (fun x hx=>by obtain⟨y,hy,rfl⟩:=List.mem_map.1 hx;exact h2 y hy);rw[List.length_map]at hb;simp only[List.map_cons,List.sum_cons,List.length_cons];rcases List.mem_cons.1 hi with rfl|hi
  ·rw[h0];rw[Int.natCast_add,show((r.length:Int)+((1:Nat):Int)-1)=r.length by omega];omega
  ·have:=ih h2 hi;rw[Int.natCast_add,show((r.length:Int)+((1:Nat):Int)-1)=(r.length-1)+1 by omega,Int.add_mul];omega
theorem wA(hS:0<ws.sum){k:Nat}(hk:k ∈ cU T ws)(hl:k<(cu T ws).length):0<(cu T ws)[k]:=by
 obtain⟨i,hi,rfl⟩:=List.mem_map.1 hk;have hr:=nj (T:=T) hS;have hget:∀j:Fin (cu T ws).length,0<=(cu T ws)[j]∧(cu T ws)[j]<ws.sum:=fun j=>hr _ (List.getElem_mem _)
 have hm:=gj (T:=T) hS;have hme:=ut (T:=T) (ws:=ws);have hord:=tL (cu T ws);have hperm:=qz (cu T ws);have hlen:=ordR_len (cu T ws);rcases Int.lt_or_le 0 ((cu T ws)[i.val]'hl) with h|h
 ·exact h
 ·exfalso
  have h0:(cu T ws)[i]=0:=by have:=hget i;simp only[Fin.getElem_fin]at *;omega
  generalize hL:ordR (cu T ws)=L at *;have hsp:L.take (bC T ws).toNat++L.drop (bC T ws).toNat=L:=List.take_append_drop _ _
  have hz:∀x ∈ L.drop (bC T ws).toNat,(cu T ws)[x]=0:=by
   intro x hx;rw[←hsp,List.pairwise_append]at hord;have:=hord.2.2 i hi x hx;have:=hget x;omega
  have hs:((L.take (bC T ws).toNat).map (fun j=>(cu T ws)[j])).sum=(cu T ws).sum:=by
   have e1:=wy (fun j=>(cu T ws)[j]) (L.take (bC T ws).toNat) (L.drop (bC T ws).toNat);rw[hsp,yM _ _ hz,yL _ hperm,rJ]at e1;omega
  have hb:=rh (S:=ws.sum) (fun j=>(cu T ws)[j]) (L.take (bC T ws).toNat) (fun x _=>hget x) hi h0;rw[hs,←hme]at hb
  have hln:((L.take (bC T ws).toNat).length:Int)=bC T ws:=by
   rw[List.length_take,hlen,iI];omega
  have hpos:0<bC T ws:=by
   rw[←hln];have:=List.length_pos_of_mem hi;omega
  rw[hln]at hb
  have e2:(bC T ws-1)*(ws.sum-1)=ws.sum*bC T ws-bC T ws-ws.sum+1:=by
   rw[Int.sub_mul,Int.mul_sub,Int.mul_comm (bC T ws) ws.sum];omega
  omega
theorem tN(hS:0<ws.sum)(k:Nat)(hk:k<ws.length)(hk2:k<(be T ws).length) :
  -ws.sum<(be T ws)[k]*ws.sum-T*ws[k]∧(be T ws)[k]*ws.sum-T*ws[k]<ws.sum:=by
 have hp:k<(bN T ws).length:=by rw[jP];exact hk
 have hr:k<(cu T ws).length:=by rw[iI];exact hk
 have hg:=kz (bN T ws) (cU T ws) lj k hp
 have e:(be T ws)[k]=(bN T ws)[k]+if k ∈ cU T ws then 1 else 0:=by
  have:(be T ws)[k]? = some ((be T ws)[k]):=List.getElem?_eq_getElem hk2;unfold be at this hg ⊢
  rw[hg]at this;injection this with this;exact this.symm
 have ep:(bN T ws)[k]=T*ws[k] / ws.sum:=by simp[bN]
 have er:(cu T ws)[k]=T*ws[k] % ws.sum:=by simp[cu]
 have h1:=Int.mul_ediv_add_emod (T*ws[k]) ws.sum;have h2:=Int.emod_nonneg (T*ws[k]) (b:=ws.sum) (by omega);have h3:=Int.emod_lt_of_pos (T*ws[k]) hS;rw[e,ep,Int.add_mul,Int.mul_comm (T*ws[k] / ws.sum) ws.sum];by_cases h:k ∈ cU T ws
 ·have h4:=wA hS h hr;rw[er]at h4;rw[if_pos h,Int.one_mul];omega
 ·rw[if_neg h,Int.zero_mul];omega
theorem l7(hT:0<=T)(hw:∀x ∈ ws,0<=x)(hS:0<ws.sum):∀x ∈ be T ws,0<=x:=by
 intro x hx;obtain⟨k,hk,rfl⟩:=List.mem_iff_getElem.1 hx;have hk':k<ws.length:=by rw[ie]at hk;exact hk
 have hp:k<(bN T ws).length:=by rw[jP];exact hk'
 have hg:=kz (bN T ws) (cU T ws) lj k hp
 have e:(be T ws)[k]=(bN T ws)[k]+if k ∈ cU T ws then 1 else 0:=by
  have:(be T ws)[k]? = some ((be T ws)[k]):=List.getElem?_eq_getElem hk;unfold be at this hg ⊢
  rw[hg]at this;injection this with this;exact this.symm
 have ep:(bN T ws)[k]=T*ws[k] / ws.sum:=by simp[bN]
 have:0<=T*ws[k] / ws.sum:=Int.ediv_nonneg (Int.mul_nonneg hT (hw _ (List.getElem_mem _))) (by omega);rw[e,ep];split <;> omega
end
section
open Go.RowKit
attribute [local go_sem] size_bs toList_bs
abbrev cw(f:FuncId)(args:Array Value)(v:Value):Prop:=∀W,Env W->Calls Tryz.prog f args W fun e w'=>e = .returned v∧Ext W w'
theorem ii(a b:Bs)(ha:a.length<=100000)(hb:b.length<=100000):cw 19 #[.string (bs a),.string (bs b)] (.string (bs (ofI (valI a+valI b)))):=fun W h=>BT a b W ha hb h
theorem ln(a b:Bs)(ha:a.length<=100000)(hb:b.length<=100000):cw 18 #[.string (bs a),.string (bs b)] (.string (bs (ofI (valI a-valI b)))):=fun W h=>DC a b W ha hb h
theorem jl(a b:Bs)(ha:a.length<=100000)(hb:b.length<=100000):cw 264 #[.string (bs a),.string (bs b)] (.string (bs (ofI (valI a*valI b)))):=fun W h=>DF a b W ha hb h
theorem vo(a:Bs)(ha:a.length<=100000):cw 223 #[.string (bs a)] (.string (bs (ofI (-(valI a))))):=fun W h=>DL a W ha h
theorem cmpP(a b:Bs)(ha:a.length<=100000)(hb:b.length<=100000):cw 16 #[.string (bs a),.string (bs b)] (.int .i64 (cmpI (valI a) (valI b))):=fun W _=>DN a b W ha hb
theorem lu:valI []=0:=by decide
theorem ij(a:Bs)(ha:a.length<=100000):cw 16 #[.string (bs a),.string ⟨#[]⟩] (.int .i64 (cmpI (valI a) 0)):=by
 have:=cmpP a [] ha (by simp);rw[lu]at this;exact this
theorem me(l:Bs):natOf (mag l)=(valI l).natAbs:=by unfold valI;split <;> omega
theorem nJ(a b:Bs)(ha:a.length<=100000)(hb:b.length<=100000)(h:valI b≠0):cw 180 #[.string (bs a),.string (bs b)] (.tuple #[.string (bs (ofI (fx (valI a) (valI b)))),.string (bs (ofI (gF (valI a) (valI b)))),.int .i64 0]):=fun W hE=>tK a b W ha hb (by rw[me];omega) hE
theorem dI(a:Bs)(ha:a.length<=100000):cw 72 #[.string (bs a)] (.int .i64 (checkI a)):=fun W _=>intCheck a W (by omega)
theorem gG{x y:Int}(h:0<y):fx x y=x / y:=by unfold fx;rw[if_neg (by omega)]
theorem nK{x y:Int}(h:0<y):gF x y=x % y:=by unfold gF;rw[gG h,Int.emod_def]
theorem cP:ofI z=[]↔z=0:=by
 constructor
 ·intro h;rw[←valI_ofI z,h,lu]
 ·rintro rfl;unfold ofI;simp[dig10_zero]
theorem Cd{a b:Int}(h:ofI a=ofI b):a=b:=by rw[←valI_ofI a,h,valI_ofI]
theorem Ce:ofI 1=[49]:=by decide +kernel
theorem iJ:valI [49]=1:=by decide +kernel
theorem di:checkI l=0↔ofI (valI l)=l:=by
 unfold checkI;rw[canon_ofI];split
 ·simp[*]
 ·simp[*]
end
section
open Go.RowKit
attribute [local go_sem] size_bs toList_bs extract_bs get_bs append_bs lit_append append_lit
theorem jG(l:Bs)(w:World)(hs:l.length<=1000000000) :
  Calls Tryz.prog 61 #[.string (bs l)] w fun e w'=>e = .returned (.bool (isName l))∧Ext w w':=by
 by_cases h0:l.length=0
 ·obtain rfl:l=[]:=List.eq_nil_of_length_eq_zero h0;go_enter Tryz.func61,Tryz.ntmps61;go_wp2_with fail;go_ret;exact⟨rfl,Ext.refl _⟩
 have h0b:((l.length:Int) == 0)=false:=by rw[beq_eq_false_iff_ne];omega
 by_cases h1:16<l.length
 ·have h1b:decide (16<(l.length:Int))=true:=by simp;omega
  clear h0;go_enter Tryz.func61,Tryz.ntmps61;go_wp2_with fail;go_ret;exact⟨by simp[isName];omega,Ext.refl _⟩
 have h1b:decide (16<(l.length:Int))=false:=by simp;omega
 obtain⟨cap,w1,hrun,hx,hsz,hcell⟩:=conv_bytes (P:=Tryz.prog) w 9 159 5 l Tryz.underlying9 Tryz.underlying159 Tryz.underlying5;have HC:=qh hcell;have HN:Hid (1<=l.length):=qh (by omega);clear hcell hsz h0;go_enter Tryz.func61,Tryz.ntmps61;go_wp2_with fail;go_loop [16] (fun i=>∃k:Nat,k<=l.length∧i = .int .i64 k∧(l.take k).all isN=true) (fun i=>l.length-(intOf i).toNat)
 case atStart=>exact⟨0,Nat.zero_le _,rfl,rfl⟩
 case round =>
  obtain⟨k,hk,rfl,hd⟩:=hrel;have HD:=qh hd;clear hd hrun;by_cases hlt:k<l.length
  ·have hc:=HC.out k hlt;by_cases h95:((l[k]'hlt).toNat:Int)=95
   ·have h95a:((l[k]'hlt).toNat:Int)<=95:=by omega
    have h95c:95<=((l[k]'hlt).toNat:Int):=by omega
    have h95b:(((l[k]'hlt).toNat:Int) != 95)=false:=by rw[bne_eq_false_iff_eq];exact h95
    clear h95;go_wp2_with fail
    all_goals
     go_round
     case rel=>exact⟨k+1,by omega,by go_num,takeN_succ l k hlt HD.out (isN_good (by omega))⟩
     case measure=>simp[intOf];omega
   ·have h95b:(((l[k]'hlt).toNat:Int) != 95)=true:=by rw[bne_iff_ne];exact h95
    go_wp2_with fail
    all_goals first
     |(go_ret
       exact⟨by rw[isName_bad l k hlt (isN_bad (by omega))];rfl,hx⟩)
     |(go_round
       case rel=>exact⟨k+1,by omega,by go_num,takeN_succ l k hlt HD.out (isN_good (by omega))⟩
       case measure=>simp[intOf];omega)
  ·go_wp2_with fail;go_ret;exact⟨by rw[isName_good l k hlt HD.out HN.out (by omega)];rfl,hx⟩
end
end Go.Proofs.YtaegjkllenlfpaaGreatDoor
