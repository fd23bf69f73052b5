/- The seat's texts, part Y7. -/
import Derived.Test.YtaegjkllenlfpaaGreatDoorY6
set_option maxRecDepth 100000
set_option maxHeartbeats 8000000
namespace Go.Proofs.YtaegjkllenlfpaaGreatDoor
open Tryz
variable {sx sy ba bb:Bool}{X Y g c' m M:Nat}{t l:Bs}{w W W':World}{d z T S:Int}{ws:List Int}
section
open Go.RowKit
def fE(x y:Int):Int:=if y<0 then(-x) / (-y) else x / y
def gU(x y:Int):Int:=x-y*fE x y
theorem oN{x y q r:Int}(h:x=q*y+r)(h0:0<=r)(h1:r<y):x / y=q:=by
 have hy:0<y:=by omega
 rw[h,Int.add_comm,Int.add_mul_ediv_right r q (by omega),Int.ediv_eq_zero_of_lt h0 h1,Int.zero_add]
theorem oO{x y q r:Int}(h:x=q*y+r)(hr:(0<=r∧r<y)∨(y<r∧r<=0)):fE x y=q∧gU x y=r:=by
 have hd:fE x y=q:=by
  unfold fE;rcases hr with ⟨h0,h1⟩ | ⟨h0,h1⟩
  ·rw[Mj (by omega)];exact oN h h0 h1
  ·rw[Mq (by omega)];refine oN (r := -r) ?_ (by omega) (by omega);rw[h,Int.neg_add,SC]
 refine⟨hd,?_⟩;unfold gU;rw[hd,h,Qf y q];omega
theorem Bp(hY:0<Y)(h:sx=sy∨X % Y=0):fE (sgn sx X) (sgn sy Y)=sgn (sx != sy) (X / Y)∧gU (sgn sx X) (sgn sy Y)=sgn sy (X % Y):=by
 have hd:=Qr X Y;have hm:=NV X hY
 have hdI:(X:Int)=(X / Y:Nat)*(Y:Int)+(X % Y:Nat):=by
  rw[←Ou,←Od,MF,hd]
 generalize X / Y=q at *;generalize X % Y=r at *;apply oO
 ·rcases h with h|h
  ·subst h
   cases sx
   ·show(X:Int)=(q:Int)*Y+r;exact hdI
   ·show -(X:Int)=(q:Int) * -(Y:Int) + -(r:Int);rw[hdI,SC];omega
  ·subst h
   cases sx <;> cases sy
   ·show(X:Int)=(q:Int)*Y+((0:Nat):Int);exact hdI
   ·show(X:Int) = -(q:Int) * -(Y:Int) + -((0:Nat):Int);rw[hdI,Int.neg_mul_neg];omega
   ·show -(X:Int) = -(q:Int)*(Y:Int)+((0:Nat):Int);rw[hdI,Int.neg_mul];omega
   ·show -(X:Int)=(q:Int) * -(Y:Int) + -((0:Nat):Int);rw[hdI,SC];omega
 ·cases sy
  ·left;show 0<=(r:Int)∧(r:Int)<Y;omega
  ·right;show -(Y:Int) < -(r:Int) ∧ -(r:Int)<=0;omega
theorem yG(hY:0<Y)(hs:sx≠sy)(h0:X % Y≠0):fE (sgn sx X) (sgn sy Y)=sgn true (X / Y+1)∧gU (sgn sx X) (sgn sy Y)=sgn sy (Y-X % Y):=by
 have hd:=Qr X Y;have hm:=NV X hY
 have hdI:(X:Int)=(X / Y:Nat)*(Y:Int)+(X % Y:Nat):=by
  rw[←Ou,←Od,MF,hd]
 generalize X / Y=q at *;generalize X % Y=r at *;have e:((Y-r:Nat):Int)=(Y:Int)-r:=by omega
 apply oO
 ·cases sx <;> cases sy
  ·exact absurd rfl hs
  ·show(X:Int) = -((q+1:Nat):Int) * -(Y:Int) + -((Y-r:Nat):Int);rw[Int.neg_mul_neg,e,hdI,Od,Qw];simp;omega
  ·show -(X:Int) = -((q+1:Nat):Int)*(Y:Int)+((Y-r:Nat):Int);rw[Int.neg_mul,e,hdI,Od,Qw];simp;omega
  ·exact absurd rfl hs
 ·cases sy
  ·left;show 0<=((Y-r:Nat):Int)∧((Y-r:Nat):Int)<Y;omega
  ·right;show -(Y:Int) < -((Y-r:Nat):Int) ∧ -((Y-r:Nat):Int)<=0;omega
def cmpI(x y:Int):Int:=if x<y then -1 else if x=y then 0 else 1
def lt(a b:Bs):Bool:=Op.bytesLess a b
theorem tF{c:UInt8}(h:isD c=true):c.toNat=dval c+48:=by have:=(isD_iff c).1 h;unfold dval;omega
theorem mu(c:UInt8)(r:Bs):natOf (c :: r)=dval c*10 ^ r.length+natOf r:=by
 have:=natOf_append [c] r;rw[show natOf [c]=dval c by show 10*0+dval c=_;omega]at this
 exact this
theorem wm(ht:t.all isD=true)(hl:Lead t)(hn:t≠[]):10 ^ (t.length-1)<=natOf t:=by
 cases t with
 |nil=>exact absurd rfl hn
 |cons c r =>
  simp only[NH,MJ]at ht;rw[mu,MG,RX];have h1:=hl c r rfl;have h2:=tF ht.1;have h3:dval c≠0:=fun h=>h1 (Po.1 (by rw[h2,h];rfl))
  have:1*10 ^ r.length<=dval c*10 ^ r.length:=MO _ (by omega);omega
theorem nW(h:neg l=true):0<natOf (mag l):=by
 have h0:mag l≠[]:=by
  unfold neg at h
  first
   |(intro e;simp[e]at h)
   |(intro e;unfold negT at h;rw[show magT (strip l)=mag l from rfl,e]at h;simp at h)
 have:=wm (mag_all l) (mag_lead l) h0;exact M5 (Pf (by decide)) this
end
section
open Go.RowKit
attribute [local go_sem] size_bs toList_bs
theorem sw(x y:Nat)(hy:0<y)(A A':Option Addr)(c c':Nat)(w:World)(hA:RdU w A (gr x))(hA':RdU w A' (gr y))(hn:(gr x).length<=900000)(hn':(gr y).length<=900000)(hc:(gr x).length<=c)(hm:c<=maxLen) :
  Calls prog 263 #[.slice A (gr x).length c,.slice A' (gr y).length c'] w (nV (x / y) (x % y) w):=by
 rcases Nw x y with h|h
 ·exact tD x y h A A' c c' w hA hA' (by omega) (by omega) hc hm
 ·rcases Nw (gr y).length 2 with h2|h2
  ·have h0:(gr y).length≠0:=by
    intro e;have e2:gr y=[]:=My.1 e;have e3:y=0:=gr_inj (by rw[e2,gr_zero]);omega
   exact tg x y h (by omega) A A' c c' w hA hA' (by omega)
  ·exact rf x y h h2 A A' c c' w hA hA' hn hn'
theorem Gz(a:Bs)(w:World)(ha:a.length<=100000)(hE:Env w) :
  Calls prog 223 #[.string (bs a)] w fun e w'=>e = .returned (.string (bs (ofI (-(valI a)))))∧Ext w w':=by
 have HR1:=qh (fun W=>cW a W (by omega));have HL1:Hid ((gr (natOf (mag a))).length<=1000000):=qh (by have:=bM (be a ha);omega);have HE:=qh hE;have HV:Hid (dL (!(neg a)) (natOf (mag a))=ofI (-(valI a))):=qh (by rw[fX,wl];rfl);generalize ofI (-(valI a))=z at *;generalize natOf (mag a)=x at *;generalize neg a=ba at *;clear ha hE;go_enter func223,ntmps223;go_wp2_with fail;refine(HR1.out _).mono ?_;rintro e w1⟨A,c,rfl,hrd1,hx1,hc1,hc2⟩;have HD1:=qh hrd1;have HX1:=qh hx1;have HC:=qh (MC hc1 hc2);clear hrd1 hx1 hc1 hc2;go_wp2_with fail;have HX2:Hid (Ext w (w1.alloc (.cells #[.bool (!ba),.slice A (gr x).length c] 112))):=qh (HX1.out.alloc _);refine(cJ (!ba) x A c _ (HD1.out.ext (Id _ _)) HL1.out HC.out.1 HC.out.2 (HE.out.ext HX2.out)).mono ?_;rintro e w5⟨rfl,hx5⟩;rw[HV.out];go_wp2_with fail;go_ret;exact⟨rfl,HX2.out.trans hx5⟩
theorem GA{a b:Bool}{x y:Nat}{r:Int}(ha:a=true->0<x)(hb:b=true->0<y)(h:(r<0∧x<y)∨(r=0∧x=y)∨(0<r∧y<x)):cmpI (sgn a x) (sgn b y)=max (-1) (min (if(!(a == b))=true then(if a then -1 else 1) else if a then -r else r) 1):=by
 unfold cmpI sgn
 cases a <;> cases b
 ·simp;split <;> (try split) <;> omega
 ·have:=hb rfl;simp;omega
 ·have:=ha rfl;simp;omega
 ·simp;split <;> (try split) <;> omega
theorem GB(a b:Bs)(w:World)(ha:a.length<=100000)(hb:b.length<=100000) :
  Calls prog 16 #[.string (bs a),.string (bs b)] w fun e w'=>e = .returned (.int .i64 (cmpI (valI a) (valI b)))∧Ext w w':=by
 have HR1:=qh (fun W=>cW a W (by omega));have HR2:=qh (fun W=>cW b W (by omega));have HL1:Hid ((gr (natOf (mag a))).length<=1000000):=qh (by have:=bM (be a ha);omega);have HL2:Hid ((gr (natOf (mag b))).length<=1000000):=qh (by have:=bM (be b hb);omega);have HV:=qh (fun r h=>GA (a:=neg a) (b:=neg b) (x:=natOf (mag a)) (y:=natOf (mag b)) (r:=r) nW nW h);rw[show sgn (neg a) (natOf (mag a))=valI a from rfl,show sgn (neg b) (natOf (mag b))=valI b from rfl]at HV;generalize cmpI (valI a) (valI b)=z at *;generalize natOf (mag a)=x at *;generalize natOf (mag b)=y at *;generalize neg a=ba at *;generalize neg b=bb at *;clear ha hb;go_enter func16,ntmps16;go_wp2_with fail;refine(HR1.out _).mono ?_;rintro e w1⟨A,c,rfl,hrd1,hx1,_,_⟩;go_wp2_with fail;refine(HR2.out _).mono ?_;rintro e w2⟨A',c',rfl,hrd2,hx2,_,_⟩;have HB1:=qh ((ID w2 112 #[.bool ba,.slice A (gr x).length c]).alloc (.cells #[.bool bb,.slice A' (gr y).length c'] 112));have HB2:=qh (blk_at (w2.alloc (.cells #[.bool ba,.slice A (gr x).length c] 112)) 112 #[.bool bb,.slice A' (gr y).length c'] (w2.heap.size+1) (by simp));have HX:Hid (Ext w ((w2.alloc (.cells #[.bool ba,.slice A (gr x).length c] 112)).alloc (.cells #[.bool bb,.slice A' (gr y).length c'] 112))):=qh (((hx1.trans hx2).alloc _).alloc _);have HD1:=qh (((hrd1.ext hx2).ext (Id _ (.cells #[.bool ba,.slice A (gr x).length c] 112))).ext (Id _ (.cells #[.bool bb,.slice A' (gr y).length c'] 112)));have HD2:=qh ((hrd2.ext (Id _ (.cells #[.bool ba,.slice A (gr x).length c] 112))).ext (Id _ (.cells #[.bool bb,.slice A' (gr y).length c'] 112)));clear hrd1 hrd2 hx1 hx2;go_wp2_with fail;generalize ((w2.alloc (.cells #[.bool ba,.slice A (gr x).length c] 112)).alloc (.cells #[.bool bb,.slice A' (gr y).length c'] 112))=W at *;generalize w2.heap.size=g at *;refine(oL x y A A' c c' _ HD1.out HD2.out HL1.out HL2.out).mono ?_;rintro e w4⟨hx,r,rfl,hcase,hr1,hr2⟩;have x0:=(HB1.out.ext hx).cell 0;have y0:=(HB2.out.ext hx).cell 0;simp only[Mk,Mm]at x0 y0;replace HX:=HX.qt hx;have HZ:=qh (HV.out r hcase);clear hx hcase
 cases ba <;> cases bb
 all_goals
  go_wp2_with fail;go_ret;exact⟨by rw[HZ.out];simp,HX.out⟩
structure DvAt (w:World) (g:Nat) (ba bb:Bool) (A A' A1 A2:Option Addr) (x y q r c c':Nat) (W:World):Prop where
 ext:Ext w W
 b1:Blk W g 112 #[.bool ba,.slice A (gr x).length c]
 b2:Blk W (g+1) 112 #[.bool bb,.slice A' (gr y).length c']
 ry:RdU W A' (gr y)
 rq:RdU W A1 (gr q)
 rr:RdU W A2 (gr r)
theorem DvAt.on{A A' A1 A2:Option Addr}{x y q r c:Nat}(h:DvAt w g ba bb A A' A1 A2 x y q r c c' W)(hx:Ext W W'):DvAt w g ba bb A A' A1 A2 x y q r c c' W' :=
 ⟨h.ext.trans hx,h.b1.ext hx,h.b2.ext hx,h.ry.ext hx,h.rq.ext hx,h.rr.ext hx⟩
theorem DvAt.cells{A A' A1 A2:Option Addr}{x y q r c:Nat}(h:DvAt w g ba bb A A' A1 A2 x y q r c c' W):W.cell? ⟨g,0,none⟩=some (.bool ba)∧W.cell? ⟨g+1,0,none⟩=some (.bool bb)∧W.cell? ⟨g+1,1,none⟩=some (.slice A' (gr y).length c'):=by
 have x0:=h.b1.cell 0;have y0:=h.b2.cell 0;have y1:=h.b2.cell 1;simp only[Mk,Mm,Ms]at x0 y0 y1;exact⟨x0,y0,y1⟩
theorem rh(h:W.heap.size=g):RdU (W.alloc (.cells #[.int .u64 1] 173)) (some ⟨g,0,none⟩) [1]:=by
 subst h;exact Reads.lit rfl
theorem Ef{n L:Nat}(h:n<=m+1)(hm:m<10 ^ L)(hL:L<=100000):(gr n).length<=1000000:=by
 have h1:n<10 ^ (L+1):=by rw[Nf];omega
 have:=bM h1;omega
theorem I4(a b:Bs)(w:World)(ha:a.length<=100000)(hb:b.length<=100000)(h0:natOf (mag b)=0) :
  Calls prog 180 #[.string (bs a),.string (bs b)] w fun e w'=>e = .returned (.tuple #[.string (bs []),.string (bs []),.int .i64 10])∧Ext w w':=by
 have HR1:=qh (fun W=>cW a W (by omega));have HR2:=qh (fun W=>cW b W (by omega));rw[h0,gr_zero]at HR2;generalize natOf (mag a)=x at *;generalize neg a=ba at *;generalize neg b=bb at *;clear ha hb h0;go_enter func180,ntmps180;go_wp2_with fail;refine(HR1.out _).mono ?_;rintro e w1⟨A,c,rfl,hrd1,hx1,_,_⟩;go_wp2_with fail;refine(HR2.out _).mono ?_;rintro e w2⟨A',c',rfl,hrd2,hx2,_,_⟩;have HX:Hid (Ext w ((w2.alloc (.cells #[.bool ba,.slice A (gr x).length c] 112)).alloc (.cells #[.bool bb,.slice A' 0 c'] 112))):=qh (((hx1.trans hx2).alloc _).alloc _);clear hrd1 hrd2 hx1 hx2;go_wp2_with fail;go_ret3
 exact⟨rfl,HX.out⟩
theorem vH(a b:Bs)(w:World)(ha:a.length<=100000)(hb:b.length<=100000)(h0:0<natOf (mag b))(hE:Env w) :
  Calls prog 180 #[.string (bs a),.string (bs b)] w fun e w'=>e = .returned (.tuple #[.string (bs (ofI (fE (valI a) (valI b)))),.string (bs (ofI (gU (valI a) (valI b)))),.int .i64 0])∧Ext w w':=by
 have HR1:=qh (fun W=>cW a W (by omega));have HR2:=qh (fun W=>cW b W (by omega));obtain⟨L,hLa,hLb,hL⟩:∃L:Nat,a.length<=L∧b.length<=L∧L<=100000:=⟨max a.length b.length,by omega,by omega,by omega⟩;have HL1:Hid ((gr (natOf (mag a))).length<=900000):=qh (by have:=bM (be a hLa);omega);have HL2:Hid ((gr (natOf (mag b))).length<=900000):=qh (by have:=bM (be b hLb);omega);have HLQ:Hid (∀n,n<=natOf (mag a)+1->(gr n).length<=1000000):=qh (fun n h=>Ef h (be a hLa) hL);have HLR:Hid (∀n,n<=natOf (mag b)+1->(gr n).length<=1000000):=qh (fun n h=>Ef h (be b hLb) hL);have HE:=qh hE
 have HS:Hid ((neg a=neg b∨natOf (mag a) % natOf (mag b)=0)->dL (neg a != neg b) (natOf (mag a) / natOf (mag b))=ofI (fE (valI a) (valI b))∧dL (neg b) (natOf (mag a) % natOf (mag b))=ofI (gU (valI a) (valI b))):=qh (fun h=>by
  have:=Bp h0 h;rw[fX,fX,←this.1,←this.2];exact⟨rfl,rfl⟩)
 have HO:Hid (neg a≠neg b->natOf (mag a) % natOf (mag b)≠0->dL true (natOf (mag a) / natOf (mag b)+1)=ofI (fE (valI a) (valI b))∧dL (neg b) (natOf (mag b)-natOf (mag a) % natOf (mag b))=ofI (gU (valI a) (valI b))):=qh (fun h h2=>by
  have:=yG h0 h h2;rw[fX,fX,←this.1,←this.2];exact⟨rfl,rfl⟩)
 generalize ofI (fE (valI a) (valI b))=zq at *;generalize ofI (gU (valI a) (valI b))=zr at *;generalize natOf (mag a)=x at *;generalize natOf (mag b)=y at *;generalize neg a=ba at *;generalize neg b=bb at *
 have hyl:0<(gr y).length:=by
  rcases MB (gr y).length with e|e
  ·have e3:y=0:=gr_inj (by rw[My.1 e,gr_zero]);omega
  ·exact e
 clear ha hb hLa hLb hE;go_enter func180,ntmps180;go_wp2_with fail;refine(HR1.out _).mono ?_;rintro e w1⟨A,c,rfl,hrd1,hx1,hca,hcm⟩;have HC:=qh (MC hca hcm);clear hca hcm;go_wp2_with fail;refine(HR2.out _).mono ?_;rintro e w2⟨A',c',rfl,hrd2,hx2,_,_⟩;have HB1:=qh ((ID w2 112 #[.bool ba,.slice A (gr x).length c]).alloc (.cells #[.bool bb,.slice A' (gr y).length c'] 112));have HB2:=qh (blk_at (w2.alloc (.cells #[.bool ba,.slice A (gr x).length c] 112)) 112 #[.bool bb,.slice A' (gr y).length c'] (w2.heap.size+1) (by simp));have HX:Hid (Ext w ((w2.alloc (.cells #[.bool ba,.slice A (gr x).length c] 112)).alloc (.cells #[.bool bb,.slice A' (gr y).length c'] 112))):=qh (((hx1.trans hx2).alloc _).alloc _);have HD1:=qh (((hrd1.ext hx2).ext (Id _ (.cells #[.bool ba,.slice A (gr x).length c] 112))).ext (Id _ (.cells #[.bool bb,.slice A' (gr y).length c'] 112)));have HD2:=qh ((hrd2.ext (Id _ (.cells #[.bool ba,.slice A (gr x).length c] 112))).ext (Id _ (.cells #[.bool bb,.slice A' (gr y).length c'] 112)));clear hrd1 hrd2 hx1 hx2;go_wp2_with fail;generalize ((w2.alloc (.cells #[.bool ba,.slice A (gr x).length c] 112)).alloc (.cells #[.bool bb,.slice A' (gr y).length c'] 112))=W at *;generalize w2.heap.size=g at *;refine(sw x y h0 A A' c c' _ HD1.out HD2.out HL1.out HL2.out HC.out.1 HC.out.2).mono ?_;rintro e w4⟨A1,c1,A2,c2,rfl,hrq,hrr,hx,hq,hr⟩;have H:Hid (DvAt w g ba bb A A' A1 A2 x y (x / y) (x % y) c c' w4):=qh ⟨HX.out.trans hx,HB1.out.ext hx,HB2.out.ext hx,HD2.out.ext hx,hrq,hrr⟩;have HCQ:=qh hq;have HCR:=qh hr;have hrl:x % y<y:=NV _ h0;have hql:x / y<=x:=Sx _ _;have HLq:=qh (HLQ.out (x / y) (by omega));have HLr:=qh (HLR.out (x % y) (by omega));have HLq1:=qh (HLQ.out (x / y+1) (by omega));have HLr1:=qh (HLR.out (y-x % y) (by omega));have HMI:=qh (fun W hW hW'=>intMinus y (x % y) (by omega) A' A2 c' c2 W hW hW' (by have:=HL2.out;omega) HLr.out)
 have HPL:Hid (∀W B,RdU W A1 (gr (x / y))->RdU W B [1]->Calls prog 140 #[.slice A1 (gr (x / y)).length c1,.slice B 1 1] W (MagEnds (x / y+1) W)):=qh (fun W B h1 h2=>by
  have e1:gr 1=[1]:=mt (by decide) (by decide);have:=intPlus (x / y) 1 A1 B c1 1 W h1 (by rw[e1];exact h2) HLq.out (by rw[e1];simp);rw[e1]at this
  exact this)
 clear hrq hrr hx hq hr HB1 HB2 HX HD1 HD2 HR1 HR2 HL1 HL2 HLQ HLR hrl hql
 cases ba <;> cases bb
 ·have HVQ:Hid (dL false (x / y)=zq):=qh (HS.out (.inl rfl)).1;have HVR:Hid (dL false (x % y)=zr):=qh (HS.out (.inl rfl)).2;clear HLq1 HLr1 HMI HPL HS HO;generalize x / y=qq at *;generalize x % y=rr at *;have HT2:=qh (fun s W h1 h2=>cJ s rr A2 c2 W h1 HLr.out HCR.out.1 HCR.out.2 h2);obtain⟨x0,y0,y1⟩:=H.out.cells;go_wp2_with fail;replace H:=qh (H.out.on (iD _).drew)
  go_region_held3 (fun w'=>w'.cell? ⟨g,0,none⟩=some (.bool false)∧w'.cell? ⟨g+1,0,none⟩=some (.bool false))
   (go_keep)
   (first
    |(go_at_call 69;((with_reducible refine(cJ _ qq A1 c1 _ H.out.rq HLq.out HCQ.out.1 HCQ.out.2 (HE.out.ext H.out.ext)).mono ?_);rintro e w5⟨rfl,hx⟩);(replace H:=qh (H.out.on hx));(obtain⟨u0,v0,_⟩:=H.out.cells);clear hx)
    |(go_at_call 69;((with_reducible refine(HT2.out _ _ H.out.rr (HE.out.ext H.out.ext)).mono ?_);rintro e w6⟨rfl,hx⟩);(replace H:=qh (H.out.on hx));(obtain⟨s0,t0,_⟩:=H.out.cells);clear hx))
  all_goals
   rw[HVQ.out,HVR.out];go_wp2_with fail;go_ret3
   exact⟨rfl,H.out.ext⟩
 ·by_cases hz:x % y=0
  ·have HVQ:Hid (dL true (x / y)=zq):=qh (HS.out (.inr hz)).1;have HVR:Hid (dL true (x % y)=zr):=qh (HS.out (.inr hz)).2;have hl0:(gr (x % y)).length=0:=by rw[hz,gr_zero];rfl
   clear HLq1 HLr1 HMI HPL HS HO hz;generalize x / y=qq at *;generalize x % y=rr at *;have HT2:=qh (fun s W h1 h2=>cJ s rr A2 c2 W h1 HLr.out HCR.out.1 HCR.out.2 h2);rw[hl0]at HT2;obtain⟨x0,y0,y1⟩:=H.out.cells;go_wp2_with fail;replace H:=qh (H.out.on (iD _).drew)
   go_region_held3 (fun w'=>w'.cell? ⟨g,0,none⟩=some (.bool false)∧w'.cell? ⟨g+1,0,none⟩=some (.bool true))
    (go_keep)
    (first
     |(go_at_call 69;((with_reducible refine(cJ _ qq A1 c1 _ H.out.rq HLq.out HCQ.out.1 HCQ.out.2 (HE.out.ext H.out.ext)).mono ?_);rintro e w5⟨rfl,hx⟩);(replace H:=qh (H.out.on hx));(obtain⟨u0,v0,_⟩:=H.out.cells);clear hx)
     |(go_at_call 69;((with_reducible refine(HT2.out _ _ H.out.rr (HE.out.ext H.out.ext)).mono ?_);rintro e w6⟨rfl,hx⟩);(replace H:=qh (H.out.on hx));(obtain⟨s0,t0,_⟩:=H.out.cells);clear hx))
   all_goals
    rw[HVQ.out,HVR.out];go_wp2_with fail;go_ret3
    exact⟨rfl,H.out.ext⟩
  ·have HVQ:Hid (dL true (x / y+1)=zq):=qh (HO.out (by decide) hz).1;have HVR:Hid (dL true (y-x % y)=zr):=qh (HO.out (by decide) hz).2
   have hl0:0<(gr (x % y)).length:=by
    rcases MB (gr (x % y)).length with e|e
    ·exact absurd (gr_inj (by rw[My.1 e,gr_zero]):x % y=0) hz
    ·exact e
   clear HS HO hz HLq HLr HCQ HCR;generalize x / y=q0 at *;generalize x % y=r0 at *;obtain⟨x0,y0,y1⟩:=H.out.cells;have hgs:=H.out.b2.lt;go_wp2_with fail;have H0:=H;replace H:=qh (H.out.on (iD _).drew);obtain⟨x2,y2,y3⟩:=H.out.cells
   go_region_held3 (fun w'=>w'.cell? ⟨g+1,1,none⟩=some (.slice A' (gr y).length c'))
    (go_keep)
    (first
     |(go_at_call 140;((with_reducible refine(HPL.out _ _ ((H0.out.on (Id _ _)).on (iD _).drew).rq ((rh (by first|rfl|simp)).ext (iD _).drew)).mono ?_);rintro e w5⟨A3,c3,rfl,hrd3,hx,hc3,hm3⟩);(replace H:=qh (((H0.out.on (Id _ _)).on (iD _).drew).on hx));(have HCQ:=qh (MC hc3 hm3));(have HRQ:=qh hrd3);(obtain⟨_,_,v1⟩:=H.out.cells);(try (replace HRR:=qh (HRR.out.ext hx)));clear hx hrd3 hc3 hm3)
     |(go_at_call 140;((with_reducible refine(HPL.out _ _ (H.out.on (Id _ _)).rq (rh (by first|rfl|simp))).mono ?_);rintro e w5⟨A3,c3,rfl,hrd3,hx,hc3,hm3⟩);(replace H:=qh ((H.out.on (Id _ _)).on hx));(have HCQ:=qh (MC hc3 hm3));(have HRQ:=qh hrd3);(obtain⟨_,_,v1⟩:=H.out.cells);(try (replace HRR:=qh (HRR.out.ext hx)));clear hx hrd3 hc3 hm3)
     |(go_at_call 140;((with_reducible refine(HPL.out _ _ H.out.rq HLIT.out).mono ?_);rintro e w5⟨A3,c3,rfl,hrd3,hx,hc3,hm3⟩);(replace H:=qh (H.out.on hx));(have HCQ:=qh (MC hc3 hm3));(have HRQ:=qh hrd3);(obtain⟨_,_,v1⟩:=H.out.cells);(try (replace HRR:=qh (HRR.out.ext hx)));clear hx hrd3 hc3 hm3)
     |(go_at_call 141;((with_reducible refine(HMI.out _ H.out.ry H.out.rr).mono ?_);rintro e w6⟨A4,c4,rfl,hrd4,hx,hc4,hm4⟩);(replace H:=qh (H.out.on hx));(have HCR:=qh (MC hc4 hm4));(have HRR:=qh hrd4);(obtain⟨_,_,v1⟩:=H.out.cells);(try (replace HRQ:=qh (HRQ.out.ext hx)));clear hx hrd4 hc4 hm4)
     |(go_at_call 141;((with_reducible refine(HMI.out _ ((H0.out.on (Id _ _)).on (iD _).drew).ry ((H0.out.on (Id _ _)).on (iD _).drew).rr).mono ?_);rintro e w6⟨A4,c4,rfl,hrd4,hx,hc4,hm4⟩);(have HLIT:Hid (RdU w6 _ [1]):=qh (((rh rfl).ext (iD _).drew).ext hx));(replace H:=qh (((H0.out.on (Id _ _)).on (iD _).drew).on hx));(have HCR:=qh (MC hc4 hm4));(have HRR:=qh hrd4);(obtain⟨_,_,v1⟩:=H.out.cells);clear hx hrd4 hc4 hm4))
   all_goals
    replace H:Hid (DvAt w g false true A A' A3 A4 x y (q0+1) (y-r0) c c' _):=qh ⟨H.out.ext,H.out.b1,H.out.b2,H.out.ry,HRQ.out,HRR.out⟩;have HLq:=HLq1;have HLr:=HLr1;clear HLq1 HLr1 HMI HPL HRQ HRR;generalize q0+1=qq at *;generalize y-r0=rr at *;have HT2:=qh (fun s W h1 h2=>cJ s rr A4 c4 W h1 HLr.out HCR.out.1 HCR.out.2 h2);obtain⟨x0,y0,y1⟩:=H.out.cells;go_wp2_with fail;replace H:=qh (H.out.on (iD _).drew)
    go_region_held3 (fun w'=>w'.cell? ⟨g,0,none⟩=some (.bool false)∧w'.cell? ⟨g+1,0,none⟩=some (.bool true))
     (go_keep)
     (first
      |(go_at_call 69;((with_reducible refine(cJ _ qq A3 c3 _ H.out.rq HLq.out HCQ.out.1 HCQ.out.2 (HE.out.ext H.out.ext)).mono ?_);rintro e w5⟨rfl,hx⟩);(replace H:=qh (H.out.on hx));(obtain⟨u0,v0,_⟩:=H.out.cells);clear hx)
      |(go_at_call 69;((with_reducible refine(HT2.out _ _ H.out.rr (HE.out.ext H.out.ext)).mono ?_);rintro e w6⟨rfl,hx⟩);(replace H:=qh (H.out.on hx));(obtain⟨s0,t0,_⟩:=H.out.cells);clear hx))
    all_goals
     rw[HVQ.out,HVR.out];go_wp2_with fail;go_ret3
     exact⟨rfl,H.out.ext⟩
 ·by_cases hz:x % y=0
  ·have HVQ:Hid (dL true (x / y)=zq):=qh (HS.out (.inr hz)).1;have HVR:Hid (dL false (x % y)=zr):=qh (HS.out (.inr hz)).2;have hl0:(gr (x % y)).length=0:=by rw[hz,gr_zero];rfl
   clear HLq1 HLr1 HMI HPL HS HO hz;generalize x / y=qq at *;generalize x % y=rr at *;have HT2:=qh (fun s W h1 h2=>cJ s rr A2 c2 W h1 HLr.out HCR.out.1 HCR.out.2 h2);rw[hl0]at HT2;obtain⟨x0,y0,y1⟩:=H.out.cells;go_wp2_with fail;replace H:=qh (H.out.on (iD _).drew)
   go_region_held3 (fun w'=>w'.cell? ⟨g,0,none⟩=some (.bool true)∧w'.cell? ⟨g+1,0,none⟩=some (.bool false))
    (go_keep)
    (first
     |(go_at_call 69;((with_reducible refine(cJ _ qq A1 c1 _ H.out.rq HLq.out HCQ.out.1 HCQ.out.2 (HE.out.ext H.out.ext)).mono ?_);rintro e w5⟨rfl,hx⟩);(replace H:=qh (H.out.on hx));(obtain⟨u0,v0,_⟩:=H.out.cells);clear hx)
     |(go_at_call 69;((with_reducible refine(HT2.out _ _ H.out.rr (HE.out.ext H.out.ext)).mono ?_);rintro e w6⟨rfl,hx⟩);(replace H:=qh (H.out.on hx));(obtain⟨s0,t0,_⟩:=H.out.cells);clear hx))
   all_goals
    rw[HVQ.out,HVR.out];go_wp2_with fail;go_ret3
    exact⟨rfl,H.out.ext⟩
  ·have HVQ:Hid (dL true (x / y+1)=zq):=qh (HO.out (by decide) hz).1;have HVR:Hid (dL false (y-x % y)=zr):=qh (HO.out (by decide) hz).2
   have hl0:0<(gr (x % y)).length:=by
    rcases MB (gr (x % y)).length with e|e
    ·exact absurd (gr_inj (by rw[My.1 e,gr_zero]):x % y=0) hz
    ·exact e
   clear HS HO hz HLq HLr HCQ HCR;generalize x / y=q0 at *;generalize x % y=r0 at *;obtain⟨x0,y0,y1⟩:=H.out.cells;have hgs:=H.out.b2.lt;go_wp2_with fail;have H0:=H;replace H:=qh (H.out.on (iD _).drew);obtain⟨x2,y2,y3⟩:=H.out.cells
   go_region_held3 (fun w'=>w'.cell? ⟨g+1,1,none⟩=some (.slice A' (gr y).length c'))
    (go_keep)
    (first
     |(go_at_call 140;((with_reducible refine(HPL.out _ _ ((H0.out.on (Id _ _)).on (iD _).drew).rq ((rh (by first|rfl|simp)).ext (iD _).drew)).mono ?_);rintro e w5⟨A3,c3,rfl,hrd3,hx,hc3,hm3⟩);(replace H:=qh (((H0.out.on (Id _ _)).on (iD _).drew).on hx));(have HCQ:=qh (MC hc3 hm3));(have HRQ:=qh hrd3);(obtain⟨_,_,v1⟩:=H.out.cells);(try (replace HRR:=qh (HRR.out.ext hx)));clear hx hrd3 hc3 hm3)
     |(go_at_call 140;((with_reducible refine(HPL.out _ _ (H.out.on (Id _ _)).rq (rh (by first|rfl|simp))).mono ?_);rintro e w5⟨A3,c3,rfl,hrd3,hx,hc3,hm3⟩);(replace H:=qh ((H.out.on (Id _ _)).on hx));(have HCQ:=qh (MC hc3 hm3));(have HRQ:=qh hrd3);(obtain⟨_,_,v1⟩:=H.out.cells);(try (replace HRR:=qh (HRR.out.ext hx)));clear hx hrd3 hc3 hm3)
     |(go_at_call 140;((with_reducible refine(HPL.out _ _ H.out.rq HLIT.out).mono ?_);rintro e w5⟨A3,c3,rfl,hrd3,hx,hc3,hm3⟩);(replace H:=qh (H.out.on hx));(have HCQ:=qh (MC hc3 hm3));(have HRQ:=qh hrd3);(obtain⟨_,_,v1⟩:=H.out.cells);(try (replace HRR:=qh (HRR.out.ext hx)));clear hx hrd3 hc3 hm3)
     |(go_at_call 141;((with_reducible refine(HMI.out _ H.out.ry H.out.rr).mono ?_);rintro e w6⟨A4,c4,rfl,hrd4,hx,hc4,hm4⟩);(replace H:=qh (H.out.on hx));(have HCR:=qh (MC hc4 hm4));(have HRR:=qh hrd4);(obtain⟨_,_,v1⟩:=H.out.cells);(try (replace HRQ:=qh (HRQ.out.ext hx)));clear hx hrd4 hc4 hm4)
     |(go_at_call 141;((with_reducible refine(HMI.out _ ((H0.out.on (Id _ _)).on (iD _).drew).ry ((H0.out.on (Id _ _)).on (iD _).drew).rr).mono ?_);rintro e w6⟨A4,c4,rfl,hrd4,hx,hc4,hm4⟩);(have HLIT:Hid (RdU w6 _ [1]):=qh (((rh rfl).ext (iD _).drew).ext hx));(replace H:=qh (((H0.out.on (Id _ _)).on (iD _).drew).on hx));(have HCR:=qh (MC hc4 hm4));(have HRR:=qh hrd4);(obtain⟨_,_,v1⟩:=H.out.cells);clear hx hrd4 hc4 hm4))
   all_goals
    replace H:Hid (DvAt w g true false A A' A3 A4 x y (q0+1) (y-r0) c c' _):=qh ⟨H.out.ext,H.out.b1,H.out.b2,H.out.ry,HRQ.out,HRR.out⟩;have HLq:=HLq1;have HLr:=HLr1;clear HLq1 HLr1 HMI HPL HRQ HRR;generalize q0+1=qq at *;generalize y-r0=rr at *;have HT2:=qh (fun s W h1 h2=>cJ s rr A4 c4 W h1 HLr.out HCR.out.1 HCR.out.2 h2);obtain⟨x0,y0,y1⟩:=H.out.cells;go_wp2_with fail;replace H:=qh (H.out.on (iD _).drew)
    go_region_held3 (fun w'=>w'.cell? ⟨g,0,none⟩=some (.bool true)∧w'.cell? ⟨g+1,0,none⟩=some (.bool false))
     (go_keep)
     (first
      |(go_at_call 69;((with_reducible refine(cJ _ qq A3 c3 _ H.out.rq HLq.out HCQ.out.1 HCQ.out.2 (HE.out.ext H.out.ext)).mono ?_);rintro e w5⟨rfl,hx⟩);(replace H:=qh (H.out.on hx));(obtain⟨u0,v0,_⟩:=H.out.cells);clear hx)
      |(go_at_call 69;((with_reducible refine(HT2.out _ _ H.out.rr (HE.out.ext H.out.ext)).mono ?_);rintro e w6⟨rfl,hx⟩);(replace H:=qh (H.out.on hx));(obtain⟨s0,t0,_⟩:=H.out.cells);clear hx))
    all_goals
     rw[HVQ.out,HVR.out];go_wp2_with fail;go_ret3
     exact⟨rfl,H.out.ext⟩
 ·have HVQ:Hid (dL false (x / y)=zq):=qh (HS.out (.inl rfl)).1;have HVR:Hid (dL true (x % y)=zr):=qh (HS.out (.inl rfl)).2;clear HLq1 HLr1 HMI HPL HS HO;generalize x / y=qq at *;generalize x % y=rr at *;have HT2:=qh (fun s W h1 h2=>cJ s rr A2 c2 W h1 HLr.out HCR.out.1 HCR.out.2 h2);obtain⟨x0,y0,y1⟩:=H.out.cells;go_wp2_with fail;replace H:=qh (H.out.on (iD _).drew)
  go_region_held3 (fun w'=>w'.cell? ⟨g,0,none⟩=some (.bool true)∧w'.cell? ⟨g+1,0,none⟩=some (.bool true))
   (go_keep)
   (first
    |(go_at_call 69;((with_reducible refine(cJ _ qq A1 c1 _ H.out.rq HLq.out HCQ.out.1 HCQ.out.2 (HE.out.ext H.out.ext)).mono ?_);rintro e w5⟨rfl,hx⟩);(replace H:=qh (H.out.on hx));(obtain⟨u0,v0,_⟩:=H.out.cells);clear hx)
    |(go_at_call 69;((with_reducible refine(HT2.out _ _ H.out.rr (HE.out.ext H.out.ext)).mono ?_);rintro e w6⟨rfl,hx⟩);(replace H:=qh (H.out.on hx));(obtain⟨s0,t0,_⟩:=H.out.cells);clear hx))
  all_goals
   rw[HVQ.out,HVR.out];go_wp2_with fail;go_ret3
   exact⟨rfl,H.out.ext⟩
end
section
open Go.RowKit
structure Fr where
 num:Bs
 den:Bs
def ky(n d:Int):Int:=(if d<0 then -n else n) / (Int.gcd n d:Nat)
def iI(n d:Int):Int:=(d.natAbs / Int.gcd n d:Nat)
def GC(n d:Int):Fr:=⟨ofI (ky n d),if iI n d=1 then [] else ofI (iI n d)⟩
theorem wn{n:Int}(hd:d≠0):0<Int.gcd n d:=Int.gcd_pos_of_ne_zero_right _ hd
def GD(f:Fr):Int:=valI f.num
def oP(f:Fr):Int:=if valI f.den=0 then 1 else valI f.den
theorem iJ(f:Fr):oP f≠0:=by unfold oP;split;decide;assumption
def bX(q:Rat):Fr:=⟨ofI q.num,if q.den=1 then [] else ofI q.den⟩
def ay(f:Fr):Rat:=Rat.divInt (GD f) (oP f)
theorem tG{n:Int}(hd:d≠0):ky n d=(Rat.divInt n d).num:=by
 unfold ky;rw[Rat.num_divInt,Int.gcd_comm d n];congr 1
 rcases Int.lt_or_gt_of_ne hd with h|h
 ·rw[Mq h,Sc h];omega
 ·rw[Mj (by omega),Int.sign_eq_one_of_pos h];omega
theorem tH{n:Int}(hd:d≠0):iI n d=(Rat.divInt n d).den:=by
 unfold iI;rw[Rat.den_divInt,Mj hd,Int.gcd_comm d n]
theorem EJ{n:Int}(hd:d≠0):GC n d=bX (Rat.divInt n d):=by
 unfold GC bX;rw[tG hd,tH hd];congr 1
 by_cases h:(Rat.divInt n d).den=1
 ·rw[Mq (by omega),Mq h]
 ·rw[Mj (by omega),Mj h]
theorem wq(q:Rat):GD (bX q)=q.num:=valI_ofI _
theorem EK(q:Rat):oP (bX q)=q.den:=by
 have hp:=q.den_pos;unfold oP bX;by_cases h:q.den=1
 ·simp only[Mq h];rw[h];decide
 ·simp only[Mj h];rw[valI_ofI,Mj (by omega)]
theorem lS(q:Rat):ay (bX q)=q:=by
 unfold ay;rw[wq,EK];exact Rat.num_divInt_den q
theorem wu(z:Int):bX z=⟨ofI z,[]⟩:=by
 unfold bX;simp
theorem Bq:bX 0=⟨[],[]⟩:=by
 have:bX ((0:Int):Rat)=⟨[],[]⟩:=by rw[wu];rw[show ofI 0=[] by unfold ofI;simp[dig10_zero]]
 exact this
def QB(L:Nat)(q:Rat):Prop:=q.num.natAbs<10 ^ L∧q.den<10 ^ L
theorem kW{L:Nat}{n:Int}(hL:0<L)(hn:n.natAbs<10 ^ L)(hd:d.natAbs<10 ^ L):QB L (Rat.divInt n d):=by
 have h1:1<10 ^ L:=SE (by omega) (by decide);constructor
 ·rw[Rat.num_divInt];refine NY ?_ hn;refine Mx (QX _ _) ?_;rw[Pi]
  have:d.sign.natAbs<=1:=by
   rcases Sh d 0 with h|h|h
   ·rw[Sc h];decide
   ·rw[h];decide
   ·rw[Int.sign_eq_one_of_pos h];decide
  exact Mx (MO _ this) (Sr (OJ _))
 ·rw[Rat.den_divInt];split
  ·exact h1
  ·exact NY (Sx _ _) hd
theorem QB.neg{L:Nat}{q:Rat}(h:QB L q):QB L (-q):=⟨by rw[Rat.neg_num,Rj];exact h.1,h.2⟩
theorem eT{a b L:Nat}(ha:a<10 ^ L)(hb:b<10 ^ M):a*b<10 ^ (L+M):=by
 rw[Pr];rcases MB b with h|h
 ·subst h;rw[PL];exact Nat.mul_pos (Pf (by decide)) (Pf (by decide))
 ·exact M5 (R3 ha h) (Oz _ (by omega))
theorem kz{a b L:Nat}(ha:a<10 ^ L)(hb:b<10 ^ L):a+b<10 ^ (L+1):=by rw[Nf];omega
theorem QB.add{L:Nat}{p q:Rat}(h:QB L p)(k:QB M q):QB (L+M+1) (p+q):=by
 rw[Rat.add_def',←Rat.divInt_ofNat];refine kW (by omega) ?_ ?_
 ·refine NY (Rn _ _) ?_;rw[Pi,Pi,NL,NL];refine kz (eT h.1 k.2) ?_;rw[Q6 L M];exact eT k.1 h.2
 ·rw[NL];have:=eT h.2 k.2;rw[Nf];omega
theorem QB.sub{L:Nat}{p q:Rat}(h:QB L p)(k:QB M q):QB (L+M+1) (p-q):=by
 rw[Rat.sub_eq_add_neg];exact h.add k.neg
theorem bz{L:Nat}(h:z.natAbs<10 ^ L):(ofI z).length<=L+1:=by
 have:=dig10_len h;unfold ofI;split
 ·rw[MG];omega
 ·omega
theorem QB.num_len{L:Nat}{q:Rat}(h:QB L q):(bX q).num.length<=L+1:=bz h.1
theorem QB.den_len{L:Nat}{q:Rat}(h:QB L q):(bX q).den.length<=L+1:=by
 unfold bX;simp only;split
 ·simp
 ·exact bz (by rw[NL];exact h.2)
theorem aG{L:Nat}(h:l.length<=L):(valI l).natAbs<10 ^ L:=by
 have h1:=natOf_lt (mag_all l);have h2:10 ^ (mag l).length<=10 ^ L:=NW (by decide) (Mx (mag_le l) h);unfold valI;split <;> omega
theorem pY{f:Fr}{L:Nat}(h1:f.num.length<=L)(h2:f.den.length<=L)(h0:0<L):QB L (ay f):=by
 refine kW h0 (aG h1) ?_;unfold oP;split
 ·exact SE (by omega) (by decide)
 ·exact aG h2
theorem pZ(z:Int):Rat.divInt z 1=(z:Rat):=by
 rw[Si];simp only[Rat.intCast_one];grind
theorem EL(q:Rat):q.num<0↔q<0:=by
 have:=Rat.num_nonneg (q:=q);grind
def cU(p q:Rat):Int:=if p<q then -1 else if p=q then 0 else 1
theorem Br(p q:Rat):cmpI (p-q).num 0=cU p q:=by
 unfold cmpI cU;have h1:=EL (p-q);have h2:(p-q).num=0↔p-q=0:=Rat.num_eq_zero;have h3:p-q<0↔p<q:=by grind
 have h4:p-q=0↔p=q:=by grind
 by_cases a:p<q
 ·rw[Mq (h1.2 (h3.2 a)),Mq a]
 ·rw[Mj (fun h=>a (h3.1 (h1.1 h))),Mj a];by_cases b:p=q
  ·rw[Mq (h2.2 (h4.2 b)),Mq b]
  ·rw[Mj (fun h=>b (h4.1 (h2.1 h))),Mj b]
theorem Bu{p q:Rat}:cU p q<0↔p<q:=by unfold cU;split <;> (try split) <;> simp_all
theorem yH{p q:Rat}:cU p q=0↔p=q:=by
 unfold cU;split
 ·simp;grind
 ·split <;> simp_all
theorem fZ{x y:Bs}{L:Nat}(hx:x.length<=L)(hy:y.length<=M):(ofI (valI x*valI y)).length<=L+M+1:=bz (by rw[Pi];exact eT (aG hx) (aG hy))
theorem EM{x y:Bs}{L:Nat}(hx:x.length<=L)(hy:y.length<=L):(ofI (valI x+valI y)).length<=L+2:=bz (NY (Rn _ _) (kz (aG hx) (aG hy)))
theorem jg{x y:Bs}{L:Nat}(hx:x.length<=L)(hy:y.length<=L):(ofI (valI x-valI y)).length<=L+2:=bz (NY (Int.natAbs_sub_le _ _) (kz (aG hx) (aG hy)))
def cfR(r:List Int)(i k:Fin r.length):Int:=if cmpI r[k] r[i]≠0 then cmpI r[k] r[i] else cmpI (i.val:Int) (k.val:Int)
def ltR(r:List Int)(i k:Fin r.length):Bool:=decide (cfR r i k<0)
theorem cX{x y:Int}:cmpI x y<0↔x<y:=by unfold cmpI;split <;> (try split) <;> omega
theorem dB{x y:Int}:cmpI x y=0↔x=y:=by unfold cmpI;split <;> (try split) <;> omega
theorem bA{x y:Int}:0<cmpI x y↔y<x:=by unfold cmpI;split <;> (try split) <;> omega
theorem ltR_iff{r:List Int}{i k:Fin r.length}:ltR r i k=true↔r[k]<r[i]∨(r[k]=r[i]∧i.val<k.val):=by
 unfold ltR cfR;rw[MA];by_cases h:r[k]=r[i]
 ·rw[Mj (by rw[Ne,dB];omega),cX];omega
 ·rw[Mq (by rw[Ne,dB];omega),cX];omega
def ordR(r:List Int):List (Fin r.length):=(List.finRange r.length).mergeSort (fun x y=>!ltR r y x)
theorem sA(r:List Int):(ordR r).Perm (List.finRange r.length):=List.mergeSort_perm _ _
theorem ordR_len(r:List Int):(ordR r).length=r.length:=by rw[ordR,List.length_mergeSort,List.length_finRange]
theorem xy(r:List Int):(ordR r).Nodup:=(sA r).nodup_iff.2 (List.nodup_finRange _)
def cu(p:List Int)(is:List Nat):List Int:=is.foldl (fun l i=>l.modify i (·+1)) p
theorem lA(p:List Int)(is:List Nat):(cu p is).length=p.length:=by
 unfold cu;induction is generalizing p with
 |nil=>rfl
 |cons i r ih=>rw[QY,ih,R4]
theorem xA(p:List Int)(i:Nat)(h:i<p.length):(p.modify i (·+1)).sum=p.sum+1:=by
 induction p generalizing i with
 |nil=>simp at h
 |cons a r ih =>
  cases i with
  |zero=>simp;omega
  |succ i=>simp only[List.modify_succ_cons,Nz];rw[ih i (by simpa using h)];omega
theorem vI(p:List Int)(is:List Nat)(h:∀i ∈ is,i<p.length):(cu p is).sum=p.sum+is.length:=by
 unfold cu;induction is generalizing p with
 |nil=>simp
 |cons i r ih =>
  rw[QY,ih _ (fun k hk=>by rw[R4];exact h k (by simp[hk])),xA _ _ (h i (by simp)),MG];omega
theorem lB(p:List Int)(is:List Nat)(hn:is.Nodup)(k:Nat)(hk:k<p.length):(cu p is)[k]? = some (p[k]+if k ∈ is then 1 else 0):=by
 unfold cu;induction is generalizing p with
 |nil=>simp[hk]
 |cons i r ih =>
  rw[Oe]at hn;rw[QY,ih _ hn.2 (by rw[R4];exact hk),List.getElem_modify];congr 1
  by_cases e:i=k
  ·subst e;rw[Mq rfl,Mj hn.1,Mq (by simp)];omega
  ·rw[Mj e];by_cases hr:k ∈ r
   ·rw[Mq hr,Mq (by simp[hr])]
   ·rw[Mj hr,Mj (by simp[hr];omega)]
def bN(T:Int)(ws:List Int):List Int:=ws.map (fun x=>T*x / ws.sum)
def ce(T:Int)(ws:List Int):List Int:=ws.map (fun x=>T*x % ws.sum)
def bF(T:Int)(ws:List Int):Int:=T-(bN T ws).sum
def cP(T:Int)(ws:List Int):List Nat:=((ordR (ce T ws)).take (bF T ws).toNat).map (·.val)
def aY(T:Int)(ws:List Int):List Int:=cu (bN T ws) (cP T ws)
def bZ(T:Int)(ws:List Int):List Int:=if T<0 then(aY (-T) ws).map (-·) else aY T ws
theorem kA(T:Int)(ws:List Int):(bN T ws).length=ws.length:=Nb ..
theorem jh(T:Int)(ws:List Int):(ce T ws).length=ws.length:=Nb ..
theorem iK(T:Int)(ws:List Int):(aY T ws).length=ws.length:=by rw[aY,lA,kA]
theorem mv(T:Int)(ws:List Int):(bZ T ws).length=ws.length:=by
 unfold bZ;split
 ·rw[Nb,iK]
 ·exact iK _ _
theorem xB(T S:Int)(l:List Int):S*(l.map (fun x=>T*x / S)).sum+(l.map (fun x=>T*x % S)).sum=T*l.sum:=by
 induction l with
 |nil=>simp
 |cons a r ih =>
  simp only[MQ,Nz];have:=RH (T*a) S;rw[Int.mul_add,Int.mul_add];omega
theorem ww:ws.sum*bF T ws=(ce T ws).sum:=by
 have:=xB T ws.sum ws;have e:(bN T ws).sum=(ws.map (fun x=>T*x / ws.sum)).sum:=rfl;have e2:(ce T ws).sum=(ws.map (fun x=>T*x % ws.sum)).sum:=rfl;unfold bF;rw[Int.mul_sub,e,e2,Qf ws.sum T];omega
theorem qa(l:List Int)(h:∀x ∈ l,0<=x∧x<S):0<=l.sum∧l.sum<=l.length*(S-1):=by
 induction l with
 |nil=>simp
 |cons a r ih =>
  have h1:=h a (by simp);have h2:=ih (fun x hx=>h x (by simp[hx]));simp only[Nz,MG];rw[Od,Qw];omega
theorem oQ(hS:0<ws.sum):∀x ∈ ce T ws,0<=x∧x<ws.sum:=by
 intro x hx;obtain⟨a,_,rfl⟩:=MH.1 hx;exact⟨Qs _ (by omega),Q7 _ hS⟩
theorem gD(hS:0<ws.sum):0<=bF T ws∧bF T ws<=ws.length:=by
 have h1:=qa _ (oQ (T:=T) hS);rw[←ww,jh]at h1;constructor
 ·have:=Sl (a:=ws.sum) (b:=0) (c:=bF T ws) (by rw[Int.mul_zero];exact h1.1) hS;exact this
 ·have h2:ws.sum*bF T ws<=ws.sum*ws.length:=by
   refine Int.le_trans h1.2 ?_;rw[Int.mul_sub,Int.mul_one,Qf];omega
  exact Sl h2 hS
theorem tI(hS:0<ws.sum):((cP T ws).length:Int)=bF T ws:=by
 have:=gD (T:=T) hS;rw[cP,Nb,Mu,ordR_len,jh];omega
theorem wC:∀i ∈ cP T ws,i<ws.length:=by
 intro i hi;obtain⟨k,_,rfl⟩:=MH.1 hi;exact Nat.lt_of_lt_of_eq k.isLt (jh T ws)
theorem mw:(cP T ws).Nodup:=by
 unfold cP;refine List.pairwise_map.2 (List.Pairwise.imp ?_ ((xy _).sublist (QD _ _)));intro a b hab he;exact hab (Fin.ext he)
theorem mx(hS:0<ws.sum):(aY T ws).sum=T:=by
 rw[aY,vI _ _ (fun i hi=>by rw[kA];exact wC i hi),tI hS];unfold bF;omega
theorem EN(l:List Int):(l.map (-·)).sum = -l.sum:=by
 induction l with
 |nil=>simp
 |cons a r ih=>simp only[MQ,Nz];rw[ih];omega
theorem xC(hS:0<ws.sum):(bZ T ws).sum=T:=by
 unfold bZ;split
 ·rw[EN,mx hS];omega
 ·exact mx hS
theorem mZ(hT:0<=T)(hw:∀x ∈ ws,0<=x)(hS:0<ws.sum):∀x ∈ aY T ws,0<=x:=by
 intro x hx;obtain⟨k,hk,rfl⟩:=Pj.1 hx;have hk':k<ws.length:=by rw[iK]at hk;exact hk
 have hp:k<(bN T ws).length:=by rw[kA];exact hk'
 have hg:=lB (bN T ws) (cP T ws) mw k hp
 have e:(aY T ws)[k]=(bN T ws)[k]+if k ∈ cP T ws then 1 else 0:=by
  have:(aY T ws)[k]? = some ((aY T ws)[k]):=Mr hk;unfold aY at this hg ⊢
  rw[hg]at this;injection this with this;exact this.symm
 have ep:(bN T ws)[k]=T*ws[k] / ws.sum:=by simp[bN]
 have:0<=T*ws[k] / ws.sum:=Sy (QI hT (hw _ (Ml _))) (by omega);rw[e,ep];split <;> omega
end
section
open Go.RowKit
attribute [local go_sem] size_bs toList_bs
abbrev bJ(f:FuncId)(args:Array Value)(v:Value):Prop:=∀W,Env W->Calls prog f args W fun e w'=>e = .returned v∧Ext W w'
theorem iL(a b:Bs)(ha:a.length<=100000)(hb:b.length<=100000):bJ 19 #[.string (bs a),.string (bs b)] (.string (bs (ofI (valI a+valI b)))):=fun W h=>EH a b W ha hb h
theorem lC(a b:Bs)(ha:a.length<=100000)(hb:b.length<=100000):bJ 18 #[.string (bs a),.string (bs b)] (.string (bs (ofI (valI a-valI b)))):=fun W h=>Gr a b W ha hb h
theorem jM(a b:Bs)(ha:a.length<=100000)(hb:b.length<=100000):bJ 264 #[.string (bs a),.string (bs b)] (.string (bs (ofI (valI a*valI b)))):=fun W h=>Gv a b W ha hb h
theorem xD(a:Bs)(ha:a.length<=100000):bJ 223 #[.string (bs a)] (.string (bs (ofI (-(valI a))))):=fun W h=>Gz a W ha h
theorem cmpP(a b:Bs)(ha:a.length<=100000)(hb:b.length<=100000):bJ 16 #[.string (bs a),.string (bs b)] (.int .i64 (cmpI (valI a) (valI b))):=fun W _=>GB a b W ha hb
theorem my:valI []=0:=by decide
theorem gK(a:Bs)(ha:a.length<=100000):bJ 16 #[.string (bs a),.string ⟨#[]⟩] (.int .i64 (cmpI (valI a) 0)):=by
 have:=cmpP a [] ha (by simp);rw[my]at this;exact this
theorem m8(l:Bs):natOf (mag l)=(valI l).natAbs:=by unfold valI;split <;> omega
theorem pu(a b:Bs)(ha:a.length<=100000)(hb:b.length<=100000)(h:valI b≠0):bJ 180 #[.string (bs a),.string (bs b)] (.tuple #[.string (bs (ofI (fE (valI a) (valI b)))),.string (bs (ofI (gU (valI a) (valI b)))),.int .i64 0]):=fun W hE=>vH a b W ha hb (by rw[m8];omega) hE
theorem dq(a:Bs)(ha:a.length<=100000):bJ 72 #[.string (bs a)] (.int .i64 (checkI a)):=fun W _=>intCheck a W (by omega)
theorem gV{x y:Int}(h:0<y):fE x y=x / y:=by unfold fE;rw[Mj (by omega)]
theorem pw{x y:Int}(h:0<y):gU x y=x % y:=by unfold gU;rw[gV h,Int.emod_def]
theorem cK:ofI z=[]↔z=0:=by
 constructor
 ·intro h;rw[←valI_ofI z,h,my]
 ·rintro rfl;unfold ofI;simp[dig10_zero]
theorem ER{a b:Int}(h:ofI a=ofI b):a=b:=by rw[←valI_ofI a,h,valI_ofI]
theorem ES:ofI 1=[49]:=by decide +kernel
theorem ji:valI [49]=1:=by decide +kernel
theorem dC:checkI l=0↔ofI (valI l)=l:=by
 unfold checkI;rw[canon_ofI];split
 ·simp[*]
 ·simp[*]
end
section
open Go.RowKit
attribute [local go_sem] size_bs toList_bs extract_bs get_bs append_bs lit_append append_lit
theorem gc(l:Bs)(w:World)(hs:l.length<=1000000000) :
  Calls prog 61 #[.string (bs l)] w fun e w'=>e = .returned (.bool (isName l))∧Ext w w':=by
 by_cases h0:l.length=0
 ·obtain rfl:l=[]:=List.eq_nil_of_length_eq_zero h0;go_enter func61,ntmps61;go_wp2_with fail;go_ret;exact⟨rfl,iD _⟩
 have h0b:((l.length:Int) == 0)=false:=by rw[Mt];omega
 by_cases h1:16<l.length
 ·have h1b:decide (16<(l.length:Int))=true:=by simp;omega
  clear h0;go_enter func61,ntmps61;go_wp2_with fail;go_ret;exact⟨by simp[isName];omega,iD _⟩
 have h1b:decide (16<(l.length:Int))=false:=by simp;omega
 obtain⟨cap,w1,hrun,hx,hsz,hcell⟩:=conv_bytes (P:=prog) w 9 159 5 l Nd underlying159 underlying5;have HC:=qh hcell;have HN:Hid (1<=l.length):=qh (by omega);clear hcell hsz h0;go_enter func61,ntmps61;go_wp2_with fail;go_loop [16] (fun i=>∃k:Nat,k<=l.length∧i = .int .i64 k∧(l.take k).all isN=true) (fun i=>l.length-(intOf i).toNat)
 case atStart=>exact⟨0,Om _,rfl,rfl⟩
 case round =>
  obtain⟨k,hk,rfl,hd⟩:=hrel;have HD:=qh hd;clear hd hrun;by_cases hlt:k<l.length
  ·have hc:=HC.out k hlt;by_cases h95:((l[k]'hlt).toNat:Int)=95
   ·have h95a:((l[k]'hlt).toNat:Int)<=95:=by omega
    have h95c:95<=((l[k]'hlt).toNat:Int):=by omega
    have h95b:(((l[k]'hlt).toNat:Int) != 95)=false:=by rw[OV];exact h95
    clear h95;go_wp2_with fail
    all_goals
     go_round
     case rel=>exact⟨k+1,by omega,by go_num,takeN_succ l k hlt HD.out (isN_good (by omega))⟩
     case measure=>simp[intOf];omega
   ·have h95b:(((l[k]'hlt).toNat:Int) != 95)=true:=by rw[Nc];exact h95
    go_wp2_with fail
    all_goals first
     |(go_ret
       exact⟨by rw[isName_bad l k hlt (isN_bad (by omega))];rfl,hx⟩)
     |(go_round
       case rel=>exact⟨k+1,by omega,by go_num,takeN_succ l k hlt HD.out (isN_good (by omega))⟩
       case measure=>simp[intOf];omega)
  ·go_wp2_with fail;go_ret;exact⟨by rw[isName_good l k hlt HD.out HN.out (by omega)];rfl,hx⟩
end
end Go.Proofs.YtaegjkllenlfpaaGreatDoor
