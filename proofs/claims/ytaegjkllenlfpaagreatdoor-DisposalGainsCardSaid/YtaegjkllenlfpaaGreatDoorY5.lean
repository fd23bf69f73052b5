/- The seat's texts, part Y5. -/
import Derived.Test.YtaegjkllenlfpaaGreatDoorY4
set_option maxRecDepth 100000
set_option maxHeartbeats 8000000
namespace Go.Proofs.YtaegjkllenlfpaaGreatDoor
open Tryz
variable {w w':World}{g cap base k x y r g' c t s X Y i j bo A0 La:Nat}{R gs a b q a0 a1:List Nat}
section
open Go.RowKit
attribute [local go_sem] size_bs toList_bs
def tC(n:Nat)(w:World)(e:Ending)(w':World):Prop :=
 ∃A c,e = .returned (.slice A (gr n).length c)∧w'.ownsRow w.heap.size 173 1 (.slice A (gr n).length c) (gr n).length (ucells (gr n))∧Ext w w'
theorem tC.mag{n:Nat}{e:Ending}(h:tC n w e w'):MagEnds n w e w':=by
 obtain⟨A,c,rfl,ho,hx⟩:=h;exact⟨A,c,rfl,Reads.own ho,hx,(own_cap ho).1,(own_cap ho).2⟩
theorem pX(n:Nat):ucells (List.replicate n 0)=List.replicate n (.int .u64 0):=by simp[ucells]
theorem xx(n c:Nat)(w:World)(hc:n=c)(hn:n<=3000000):∃W,(Instr.makeSlice 110 (.int .i64 (n:Int)) (.int .i64 (n:Int))).run prog w = .ok (.slice (some ⟨w.heap.size,0,none⟩) n n) W∧RowU W w.heap.size n (List.replicate n 0)∧Ext w W:=by
 obtain⟨i0,hI,hz0,hz1,hz2⟩:=Ny u64Info;have h:=run_make (P:=prog) w 110 173 i0 _ Oc hI hz0 .i64 .i64 (n:Int) (n:Int) (by omega) (by omega) (by rw[hz2];omega) (by omega);rw[hz1,NP,QR]at h;refine⟨_,h,⟨List.replicate n (.int .u64 0),?_,by rw[pX];simp,by simp,by unfold maxLen;simp;omega,by simp,by rw[pX];simp⟩,Id _ _⟩;have hb:=ID w 173 (madeCells #[.int .u64 0] n)
 have e:madeCells (Value.int .u64 0).cells n=(List.replicate n (Value.int .u64 0)).toArray:=by
  rw[←RO];rfl
 rw[e];exact ID _ _ _
theorem RowU.cutOwn(h:RowU w g cap R)(hb:base<=g):w.ownsRow base 173 1 (.slice (some ⟨g,0,none⟩) (cutL R).length cap) (cutL R).length (ucells (cutL R)):=by
 obtain⟨cur,h⟩:=h;have hp:=cutL_prefix R;have hl:=cutL_le R;refine⟨by simp[ucells],.inr ⟨g,cap,cur.toArray,rfl,hb,h.blk,by have:=h.le;omega,h.big,by simpa using h.full,?_⟩⟩;have ht:=h.take;rw[QR]at ht ⊢;have:(cur.take R.length).take (cutL R).length=(ucells R).take (cutL R).length:=by rw[ht]
 rw[Rh,Ot hl]at this
 show cur.take _=_;rw[this];conv=>rhs;rw[hp]
 simp[ucells]
theorem RowU.at0(h:RowU w g cap R)(hk:k<R.length):w.cell? ⟨g,k,none⟩=some (.int .u64 (at0 R k:Nat)):=by
 rw[at0_lt hk];exact h.cell (Mr hk)
theorem Gs(hx:x<B9)(hy:y<B9):0<=(x:Int)*(y:Int)∧(x:Int)*(y:Int)<=999999998000000001:=by
 have h1:x*y<=999999999*999999999:=P9 (by have e:B9=1000000000:=rfl;omega) (by have e:B9=1000000000:=rfl;omega);rw[←Ou];omega
theorem Ll(c o x y:Nat):((c:Int)+((o:Int)+(x:Int)*(y:Int))) / 1000000000=(((c+o+x*y) / B9:Nat):Int)∧((c:Int)+((o:Int)+(x:Int)*(y:Int))) % 1000000000=(((c+o+x*y) % B9:Nat):Int):=by
 have e:B9=1000000000:=rfl;rw[←Ou,e];generalize x*y=z;omega
theorem pt(x y:Nat)(A A':Option Addr)(c c':Nat)(w:World)(hA:RdU w A (gr x))(hA':RdU w A' (gr y))(hn:(gr x).length<=1000000)(hn':(gr y).length<=1000000) :
  Calls prog 327 #[.slice A (gr x).length c,.slice A' (gr y).length c'] w (tC (x*y) w):=by
 have HA:=qh hA;have HA':=qh hA';have HBX:Hid (bf (gr x)):=qh (gr_lt x);have HBY:Hid (bf (gr y)):=qh (gr_lt y);have HVX:=qh (gval_gr x);have HVY:=qh (gval_gr y);generalize gr x=gx at *;generalize gr y=gy at *;clear hA hA';obtain⟨W,hmk,hrow,hxW⟩:=xx (gx.length+gy.length) _ w rfl (by omega);rw[Od]at hmk;have HROW:=qh hrow;have HXW:=qh hxW;clear hrow hxW;go_enter func327,ntmps327;go_wp2_with fail;clear hmk;go_loopw [19,6,7,8,9,10] (fun i _ _ _ _ _ wr=>∃(k:Nat) (R:List Nat),k<=gx.length∧i = .int .i64 k∧RowU wr w.heap.size (gx.length+gy.length) R∧MulOut gx gy (gx.length+gy.length) k R∧Ext w wr) (fun i _ _ _ _ _ _=>gx.length-(intOf i).toNat)
 case atStart=>exact⟨0,_,by omega,rfl,HROW.out,MulOut.start _ _ _,HXW.out⟩
 case round =>
  clear HROW HXW;obtain⟨i,R,hi,rfl,hrow,hmo,hx⟩:=hrel;have HR:=qh hrow;have HM:=qh hmo;have HX:=qh hx;clear hrow hmo hx;by_cases hlt:i<gx.length
  ·obtain⟨b,o,rfl,hb,hcx⟩:=(HA.out.ext HX.out).at_ hlt;rw[←at0_lt hlt]at hcx;have hbx:=HBX.out.at0 i;have HIN:=qh (HM.out.in_ (at0 gx i));have HNX:=qh (fun R'=>MulOut.next (m:=gx) (n:=gy) (R:=R') (L:=gx.length+gy.length) (i:=i));generalize at0 gx i=xi at *;obtain⟨wo,rfl⟩:∃wo:World,wo=wr:=⟨_,rfl⟩;go_wp2_with fail;clear hcx;go_loopw [26,8,9,10] (fun vk vc _ _ wr=>∃(k ca:Nat) (R:List Nat),k<=gy.length∧vk = .int .i64 k∧vc = .int .u64 ca∧RowU wr w.heap.size (gx.length+gy.length) R∧MulIn xi gy (gval (gx.take i)*gval gy) (gx.length+gy.length) i k ca R∧Ext w wr) (fun vk _ _ _ _=>gy.length-(intOf vk).toNat)
   case atStart=>exact⟨0,0,R,by omega,rfl,rfl,HR.out,HIN.out,HX.out⟩
   case round =>
    clear HR HM HX HIN;obtain⟨k,ca,R,hk,rfl,rfl,hrow,hmi,hx⟩:=hrel;have HR:=qh hrow;have HM:=qh hmi;have HX:=qh hx;have hRl:=hmi.len;have hcb:=hmi.cb;clear hrow hmi hx;by_cases hltk:k<gy.length
    ·obtain⟨b',o',rfl,hb',hcy⟩:=(HA'.out.ext HX.out).at_ hltk;rw[←at0_lt hltk]at hcy;have hby:=HBY.out.at0 k;have hcr:=HR.out.at0 (k:=i+k) (by omega);have hfr:=HR.out.frozen (i+k);have hor:=HM.out.all.at0 (i+k);have HST:=qh (HM.out.step hbx HBY.out hltk (by omega));have HRS:=qh (fun v z hz=>HR.out.put (i+k) z v (by omega) hz);generalize at0 gy k=yk at *;generalize at0 R (i+k)=ok at *;obtain⟨hm0,hm1⟩:=Gs hbx hby;have e9:B9=1000000000:=rfl;rw[e9]at hcb hor;clear e9;have hik:((i:Int)+(k:Int)).toNat=i+k:=by omega
     go_wp2_with fail;obtain⟨hq,hr⟩:=Ll ca ok xi yk;exact⟨⟨k+1,_,_,by omega,by go_num,by rw[hq],HRS.out _ _ hr,HST.out,HX.out.setCell (p:=⟨w.heap.size,i+k,none⟩) (Mn _) _⟩,by simp[intOf];omega⟩
    ·have hkl:k=gy.length:=by omega
     subst hkl;clear hltk hk;rcases MB gy.length with h0|h0
     ·have HNR:Hid (MulOut gx gy (gx.length+gy.length) (i+1) R):=qh (HNX.out R hRl HM.out.all (by
       have hgy:gy=[]:=My.1 h0;have hv:=HM.out.val;rw[hgy]at hv ⊢;simp only[List.take_nil,show gval []=0 from rfl,PL,O6,Nj]at hv ⊢;omega) (fun j hj=>HM.out.tail j (by omega)))
      have hz:¬ ((0:Int)<(gy.length:Int)):=by omega
      have hz2:¬ (0<gy.length):=by omega
      clear h0;go_wp2_with fail;exact⟨⟨i+1,R,by omega,by go_num,HR.out,HNR.out,HX.out⟩,by simp[intOf];omega⟩
     ·have hcr:=HR.out.at0 (k:=i+gy.length) (by omega);have hfr:=HR.out.frozen (i+gy.length);have hor:=HM.out.all.at0 (i+gy.length);obtain⟨d1,d2,d3,d4⟩:=HM.out.done (by omega);have HNR:=qh (HNX.out _ d1 d2 d3 d4);have HRS:=qh (fun v z hz=>HR.out.put (i+gy.length) z v (by omega) hz);clear d1 d2 d3 d4;generalize at0 R (i+gy.length)=ok at *;have e9:B9=1000000000:=rfl;rw[e9]at hcb hor;clear e9;have hik:((i:Int)+(gy.length:Int)).toNat=i+gy.length:=by omega
      go_wp2_with fail;exact⟨⟨i+1,_,by omega,by go_num,HRS.out _ _ (by omega),HNR.out,HX.out.setCell (p:=⟨w.heap.size,i+gy.length,none⟩) (Mn _) _⟩,by simp[intOf];omega⟩
  ·have hil:i=gx.length:=by omega
   subst hil;have HCF:Hid (cutL R=gr (x*y)):=qh (by rw[HM.out.fin (Mn _),HVX.out,HVY.out]);have hRl:=HM.out.len;have HCP:=qh (HR.out.caps);have HCUT:=qh (jB R (some ⟨w.heap.size,0,none⟩) (gx.length+gy.length) wr HR.out.reads HCP.out.1 HCP.out.2 HM.out.all);have HOW:=qh (HR.out.cutOwn (base:=w.heap.size) (Mn _));rw[HCF.out]at HCUT HOW;rw[hRl]at HCUT;clear hlt;go_wp2_with fail;refine HCUT.out.mono ?_;rintro e w9⟨rfl,rfl⟩;go_wp2_with fail;go_ret;exact⟨_,_,rfl,HOW.out,HX.out⟩
def Gu(q r:Nat)(w:World)(e:Ending)(w':World):Prop :=
 ∃A c,e = .returned (.tuple #[.slice A (gr q).length c,.int .u64 (r:Nat)])∧w'.ownsRow w.heap.size 173 1 (.slice A (gr q).length c) (gr q).length (ucells (gr q))∧Ext w w'
theorem L7(r x d:Nat):((r:Int)*1000000000+(x:Int)) / (d:Int)=(((r*B9+x) / d:Nat):Int)∧((r:Int)*1000000000+(x:Int)) % (d:Int)=(((r*B9+x) % d:Nat):Int):=by
 have e:(r:Int)*1000000000+(x:Int)=((r*B9+x:Nat):Int):=by
  rw[Od,Ou];rfl
 rw[e];exact⟨rfl,rfl⟩
theorem su(x d:Nat)(hd:0<d)(hdB:d<B9)(A:Option Addr)(c:Nat)(w:World)(hA:RdU w A (gr x))(hn:(gr x).length<=1000000) :
  Calls prog 326 #[.slice A (gr x).length c,.int .u64 (d:Nat)] w (Gu (x / d) (x % d) w):=by
 have HA:=qh hA;have HBX:Hid (bf (gr x)):=qh (gr_lt x);have HVX:=qh (gval_gr x);generalize gr x=gx at *;clear hA;obtain⟨W,hmk,hrow,hxW⟩:=xx gx.length _ w rfl (by omega);have HROW:=qh hrow;have HXW:=qh hxW;clear hrow hxW;have e9:B9=1000000000:=rfl;rw[e9]at hdB;clear e9;have hdz:((d:Int) == 0)=false:=by rw[Mt];omega
 go_enter func326,ntmps326;go_wp2_with fail;clear hmk;go_loopw [8,7] (fun vi vr wr=>∃(i r:Nat) (R:List Nat),i<=gx.length∧vi = .int .i64 ((i:Int)-1)∧vr = .int .u64 r∧RowU wr w.heap.size gx.length R∧SgAt gx d i r R∧Ext w wr) (fun vi _ _=>(intOf vi+1).toNat)
 case atStart=>exact⟨gx.length,0,_,Mn _,rfl,rfl,HROW.out,SgAt.start hd _ (by simp) (fun g hg=>by rw[(RY.1 hg).2];decide),HXW.out⟩
 case round =>
  clear HROW HXW;obtain⟨i,r,R,hi,rfl,rfl,hrow,hs,hx⟩:=hrel;have HR:=qh hrow;have HS:=qh hs;have HX:=qh hx;have hRl:=hs.len;have hrb:=hs.rb;clear hrow hs hx;rcases MB i with h0|h0
  ·subst h0;obtain⟨f1,f2,f3⟩:=HS.out.fin;have HF2:Hid (x % d=r):=qh (by rw[←HVX.out];exact f2);have HCF:Hid (cutL R=gr (x / d)):=qh (by rw[f3,HVX.out]);have HCP:=qh (HR.out.caps);have HCUT:=qh (jB R (some ⟨w.heap.size,0,none⟩) gx.length wr HR.out.reads HCP.out.1 HCP.out.2 HS.out.all);have HOW:=qh (HR.out.cutOwn (base:=w.heap.size) (Mn _));rw[HCF.out]at HCUT HOW;rw[hRl]at HCUT;clear f1 f2 f3;go_wp2_with fail;refine HCUT.out.mono ?_;rintro e w9⟨rfl,rfl⟩;go_wp2_with fail;go_ret2;exact⟨_,_,by rw[HF2.out];rfl,HOW.out,HX.out⟩
  ·obtain⟨j,rfl⟩:∃j,i=j+1:=⟨i-1,by omega⟩;have hj:j<gx.length:=by omega
   have e0:((j+1:Nat):Int)-1=(j:Int):=by omega
   rw[e0];clear e0;obtain⟨b,o,rfl,hb,hcx⟩:=(HA.out.ext HX.out).at_ hj;rw[←at0_lt hj]at hcx;have hbx:=HBX.out.at0 j;have HST:=qh (HS.out.step HBX.out hj);have hcr:=HR.out.at0 (k:=j) (by omega);have hfr:=HR.out.frozen j;have HRS:=qh (fun v z hz=>HR.out.put j z v (by omega) hz);have e9:B9=1000000000:=rfl;rw[e9]at hbx;clear e9;generalize at0 gx j=xj at *;generalize at0 R j=oj at *;obtain⟨hq,hr⟩:=L7 r xj d;have HQ:=qh hq;have HRM:=qh hr;clear hq hr;go_wp2_with fail;exact⟨⟨j,_,_,by omega,by first|rfl|go_num,by rw[HRM.out],HRS.out _ _ HQ.out,HST.out,HX.out.setCell (p:=⟨w.heap.size,j,none⟩) (Mn _) _⟩,by simp[intOf] <;> omega⟩
theorem EI(a b:Bool)(x y:Nat):sgn (a != b) (x*y)=sgn a x*sgn b y:=by
 cases a <;> cases b <;> simp[sgn,Int.neg_mul,SC]
theorem yF{L:Nat}(hx:x<10 ^ L)(hy:y<10 ^ L):(gr (x*y)).length<=L+L:=by
 refine bM ?_;rw[Pr];exact QM hx hy
theorem Gv(a b:Bs)(w:World)(ha:a.length<=100000)(hb:b.length<=100000)(hE:Env w) :
  Calls prog 264 #[.string (bs a),.string (bs b)] w fun e w'=>e = .returned (.string (bs (ofI (valI a*valI b))))∧Ext w w':=by
 have HR1:=qh (fun W=>cW a W (by omega));have HR2:=qh (fun W=>cW b W (by omega));obtain⟨L,hLa,hLb,hL⟩:∃L:Nat,a.length<=L∧b.length<=L∧L<=100000:=⟨max a.length b.length,by omega,by omega,by omega⟩;have HL1:Hid ((gr (natOf (mag a))).length<=1000000):=qh (by have:=bM (be a hLa);omega);have HL2:Hid ((gr (natOf (mag b))).length<=1000000):=qh (by have:=bM (be b hLb);omega);have HL3:Hid ((gr (natOf (mag a)*natOf (mag b))).length<=1000000):=qh (by have:=yF (be a hLa) (be b hLb);omega);have HE:=qh hE;have HV:Hid (dL (!(neg a == neg b)) (natOf (mag a)*natOf (mag b))=ofI (valI a*valI b)):=qh (by rw[fX,show(!(neg a == neg b))=(neg a != neg b) from rfl,EI];rfl);generalize ofI (valI a*valI b)=z at *;generalize natOf (mag a)=x at *;generalize natOf (mag b)=y at *;generalize neg a=ba at *;generalize neg b=bb at *;clear ha hb hLa hLb hE;go_enter func264,ntmps264;go_wp2_with fail;refine(HR1.out _).mono ?_;rintro e w1⟨A,c,rfl,hrd1,hx1,_,_⟩;go_wp2_with fail;refine(HR2.out _).mono ?_;rintro e w2⟨A',c',rfl,hrd2,hx2,_,_⟩;have HB1:=qh ((ID w2 112 #[.bool ba,.slice A (gr x).length c]).alloc (.cells #[.bool bb,.slice A' (gr y).length c'] 112));have HB2:=qh (blk_at (w2.alloc (.cells #[.bool ba,.slice A (gr x).length c] 112)) 112 #[.bool bb,.slice A' (gr y).length c'] (w2.heap.size+1) (by simp));have HX:Hid (Ext w ((w2.alloc (.cells #[.bool ba,.slice A (gr x).length c] 112)).alloc (.cells #[.bool bb,.slice A' (gr y).length c'] 112))):=qh (((hx1.trans hx2).alloc _).alloc _);have HD1:=qh (((hrd1.ext hx2).ext (Id _ (.cells #[.bool ba,.slice A (gr x).length c] 112))).ext (Id _ (.cells #[.bool bb,.slice A' (gr y).length c'] 112)));have HD2:=qh ((hrd2.ext (Id _ (.cells #[.bool ba,.slice A (gr x).length c] 112))).ext (Id _ (.cells #[.bool bb,.slice A' (gr y).length c'] 112)));clear hrd1 hrd2 hx1 hx2;go_wp2_with fail;generalize ((w2.alloc (.cells #[.bool ba,.slice A (gr x).length c] 112)).alloc (.cells #[.bool bb,.slice A' (gr y).length c'] 112))=W at *;generalize w2.heap.size=g at *;have x0:=HB1.out.cell 0;have x1:=HB1.out.cell 1;have y0:=HB2.out.cell 0;have y1:=HB2.out.cell 1;simp only[Mk,Mm,Ms]at x0 x1 y0 y1;replace HX:=qh HX.out.drew;replace HB1:=qh HB1.out.drew;replace HB2:=qh HB2.out.drew;replace HD1:=qh (HD1.out.ext (iD W).drew);replace HD2:=qh (HD2.out.ext (iD W).drew)
 go_region_held3 (fun w'=>w'.cell? ⟨g,0,none⟩=some (.bool ba)∧w'.cell? ⟨g,1,none⟩=some (.slice A (gr x).length c)∧w'.cell? ⟨g+1,0,none⟩=some (.bool bb)∧w'.cell? ⟨g+1,1,none⟩=some (.slice A' (gr y).length c'))
  (go_keep)
  (first
   |(go_at_call 327;((with_reducible refine(pt x y A A' c c' _ HD1.out HD2.out HL1.out HL2.out).mono ?_);rintro e w4 h4);(obtain⟨A1,c1,rfl,hrd,hx,hc1,hc2⟩:=h4.mag);(have hb1:=HB1.out.ext hx);(have hb2:=HB2.out.ext hx);(have u0:=hb1.cell 0);(have u1:=hb1.cell 1);(have v0:=hb2.cell 0);(have v1:=hb2.cell 1);(simp only[Mk,Mm,Ms]at u0 u1 v0 v1);(replace HB1:=qh hb1);(replace HB2:=qh hb2);(replace HX:=HX.qt hx);(have HD:=qh hrd);(have HC:=qh (MC hc1 hc2));clear hb1 hb2 hrd hx hc1 hc2 h4)
   |(go_at_call 69;((with_reducible refine(cJ (!(ba == bb)) (x*y) A1 c1 _ HD.out HL3.out HC.out.1 HC.out.2 (HE.out.ext HX.out)).mono ?_);rintro e w5⟨rfl,hx⟩);(have hb1:=HB1.out.ext hx);(have hb2:=HB2.out.ext hx);(have s0:=hb1.cell 0);(have s1:=hb1.cell 1);(have t0:=hb2.cell 0);(have t1:=hb2.cell 1);(simp only[Mk,Mm,Ms]at s0 s1 t0 t1);(replace HX:=HX.qt hx);clear hb1 hb2 hx))
 all_goals
  rw[HV.out];go_wp2_with fail;go_ret;exact⟨rfl,HX.out⟩
def nV(q r:Nat)(w:World)(e:Ending)(w':World):Prop :=
 ∃A1 c1 A2 c2,e = .returned (.tuple #[.slice A1 (gr q).length c1,.slice A2 (gr r).length c2])∧RdU w' A1 (gr q)∧RdU w' A2 (gr r)∧Ext w w'∧((gr q).length<=c1∧c1<=maxLen)∧((gr r).length<=c2∧c2<=maxLen)
theorem tD(x y:Nat)(h:x<y)(A A':Option Addr)(c c':Nat)(w:World)(hA:RdU w A (gr x))(hA':RdU w A' (gr y))(hn:(gr x).length<=1000000)(hn':(gr y).length<=1000000)(hc:(gr x).length<=c)(hm:c<=maxLen) :
  Calls prog 263 #[.slice A (gr x).length c,.slice A' (gr y).length c'] w (nV (x / y) (x % y) w):=by
 have HA:=qh hA;have HC:=qh (MC hc hm);have HCP:=qh (intCompare x y A A' c c' w hA hA' hn hn');have HQ:Hid (gr (x / y)=[]∧gr (x % y)=gr x):=qh ⟨by rw[O5 h,gr_zero],by rw[O3 h]⟩;clear hA hA' hc hm;go_enter func263,ntmps263;go_wp2_with fail;refine HCP.out.mono ?_;rintro e w1⟨hx1,r,rfl,hcase⟩;have hr:r<0:=by omega
 have HX1:=qh hx1;clear hcase hx1;go_wp2_with fail;go_ret2;refine⟨none,0,A,c,by rw[HQ.out.1,HQ.out.2];rfl,by rw[HQ.out.1];exact Reads.nil,by rw[HQ.out.2];exact HA.out.ext HX1.out,HX1.out,by rw[HQ.out.1];exact⟨by simp,by unfold maxLen;omega⟩,by rw[HQ.out.2];exact HC.out⟩
theorem Gw(h:(gr y).length=1):gr y=[y]∧0<y∧y<B9:=by
 have hy:y≠0:=by intro e;rw[e,gr_zero]at h;simp at h
 rw[gr_pos hy]at h;have h2:gr (y / B9)=[]:=My.1 (by simpa using h);have h3:y / B9=0:=gr_inj (by rw[h2,gr_zero]);have e:B9=1000000000:=rfl;have h4:y<B9:=by rw[e]at h3 ⊢;omega
 exact⟨by rw[gr_pos hy,h2,O3 h4],by omega,h4⟩
theorem qZ(h:r<B9):cutL [r]=gr r:=by
 rw[cutL_gr (by intro g hg;simp at hg;omega)];show gr (r+B9*0)=gr r;rw[PL,Nj]
theorem tg(x y:Nat)(h:y<=x)(h1:(gr y).length=1)(A A':Option Addr)(c c':Nat)(w:World)(hA:RdU w A (gr x))(hA':RdU w A' (gr y))(hn:(gr x).length<=1000000) :
  Calls prog 263 #[.slice A (gr x).length c,.slice A' (gr y).length c'] w (nV (x / y) (x % y) w):=by
 obtain⟨e1,hy0,hyB⟩:=Gw h1;have HA:=qh hA;have HCP:=qh (intCompare x y A A' c c' w hA hA' hn (by omega));have HSG:=qh (fun W hW=>su x y hy0 hyB A c W hW hn);have hA2:=hA';rw[e1]at hA2;obtain⟨b,o,rfl,hb,hcy⟩:=hA2.at_ (k:=0) (by simp);have HCY:=qh hcy;have HRB:Hid (x % y<B9):=qh (Nat.lt_trans (NV _ hy0) hyB);have HL:Hid ((gr y).length=1):=qh h1;rw[h1]at HCP ⊢;clear hA hA' hA2 e1 h1 hcy hyB;generalize x / y=q at *;generalize x % y=r at *;go_enter func263,ntmps263;go_wp2_with fail;refine HCP.out.mono ?_;rintro e w1⟨hx1,z,rfl,hcase⟩;have hr:¬ z<0:=by omega
 have HX1:=qh hx1;have hcy:=(hx1.cell (p:=⟨b,o+0,none⟩) hb).trans HCY.out;simp only[Nj,Ps]at hcy;clear hcase hx1;go_wp2_with fail;refine(HSG.out _ (HA.out.ext HX1.out)).mono ?_;rintro e w2⟨A1,c1,rfl,hown,hx2⟩;have HOW:=qh hown;have HX2:=HX1.qt hx2;clear hown hx2 hcy;have HCUT:=qh (jB [r] (some ⟨w2.heap.size,0,none⟩) 1 (w2.alloc (.cells #[.int .u64 r] 173)) (Reads.lit rfl) (by simp) (by unfold maxLen;omega) (by intro g hg;simp at hg;have:=HRB.out;omega));rw[qZ HRB.out]at HCUT;go_wp2_with fail;refine HCUT.out.mono ?_;rintro e w3⟨rfl,rfl⟩;go_wp2_with fail;go_ret2
 have hrd:RdU (w2.alloc (.cells #[.int .u64 r] 173)) (some ⟨w2.heap.size,0,none⟩) (gr r):=by
  have h1:RdU (w2.alloc (.cells #[.int .u64 r] 173)) (some ⟨w2.heap.size,0,none⟩) [r]:=Reads.lit rfl;have h2:=cutL_prefix [r];rw[qZ HRB.out]at h2;rw[h2];exact h1.take _
 have hrl:(gr r).length<=1:=by have:=cutL_le [r];rw[qZ HRB.out]at this;simpa using this
 exact⟨A1,c1,_,_,rfl,(show RdU w2 A1 (gr q) from Reads.own HOW.out).ext (Id _ _),hrd,HX2.out.alloc _,own_cap HOW.out,hrl,by unfold maxLen;omega⟩
end
section
open Go.RowKit
theorem RowU.far(h:RowU w g cap gs)(hne:g≠g')(k:Nat)(u:Value):RowU (w.setCell ⟨g',k,none⟩ u) g cap gs:=by
 obtain⟨cur,h⟩:=h;exact⟨cur,{ h with blk:=h.blk.far (p:=⟨g',k,none⟩) hne u }⟩
theorem RowU.of_own{A:Option Addr}(h:w.ownsRow base 173 1 (.slice A gs.length c) gs.length (ucells gs))(h0:0<gs.length):∃g,A=some ⟨g,0,none⟩∧base<=g∧RowU w g c gs:=by
 obtain⟨g,cap,e1,hg,hlt⟩:=h.form h0;injection e1 with e1 _ e3
 subst e1;subst e3;obtain⟨hgb,cur,hrow⟩:=Row.of_own h;exact⟨g,rfl,hgb,cur,hrow⟩
theorem Bm(h0:0<t)(hB:t<B9):0<1000000000 / (t+1)∧1000000000 / (t+1)<B9:=by
 have e:B9=1000000000:=rfl;rw[e]at hB ⊢;constructor
 ·exact Nat.div_pos (by omega) (by omega)
 ·exact Qp (by omega) (by omega)
theorem mt(h0:0<s)(hB:s<B9):gr s=[s]:=by
 rw[gr_pos (by omega),O3 hB,O5 hB,gr_zero]
theorem sv(h:0<(gr y).length):0<at0 (gr y) ((gr y).length-1):=by
 have hne:gr y≠[]:=by intro e;rw[e]at h;simp at h
 have ht:=gr_top y ((gr y).dropLast) ((gr y).getLast hne) (QG hne).symm;rw[at0_lt (by omega),←List.getLast_eq_getElem hne];omega
theorem tE(h:2<=(gr y).length):Dvr (gr y):=⟨h,gr_lt y,sv (by omega)⟩
theorem vG(ha:bf a)(hb:bf b):bf (a++b):=fun g hg=>by
 rcases MN.1 hg with h|h
 ·exact ha g h
 ·exact hb g h
theorem Bn(hY:2<=(gr Y).length)(hXY:Y<=X):KnAt X (gr Y) ((gr X).length+2) ((gr X).length+2-(gr Y).length) (gr X++[0,0]) (List.replicate ((gr X).length+2-(gr Y).length) 0)∧(gr Y).length<=(gr X).length:=by
 have hl:=gr_len_mono hXY;have hb:=tE hY;refine⟨KnAt.start hb (by simp) (vG (gr_lt X) (by intro g hg;simp at hg;subst hg;decide)) (by simp) (fun g hg=>by rw[(RY.1 hg).2];decide) ?_ (by omega) ?_,hl⟩
 ·rw[lz,show gval [0,0]=0 from rfl,PL,Nj,gval_gr]
 ·have e1:(gr X++[0,0]).drop ((gr X).length+2-(gr Y).length)=(gr X).drop ((gr X).length+2-(gr Y).length)++[0,0]:=by
   rw[QC (by omega)]
  rw[e1,lz,show gval [0,0]=0 from rfl,PL,Nj];have h1:=nT (bf.drop (gr_lt X) ((gr X).length+2-(gr Y).length));rw[MU]at h1;have h2:(gr X).length-((gr X).length+2-(gr Y).length)=(gr Y).length-2:=by omega
  rw[h2]at h1;obtain⟨p1,_⟩:=hb.parts;have h3:1*B9 ^ ((gr Y).length-2)<=(at0 (gr Y) ((gr Y).length-1)*B9+at0 (gr Y) ((gr Y).length-2))*B9 ^ ((gr Y).length-2):=MO _ (by have:=hb.top;have e:B9=1000000000:=rfl;rw[e];omega);omega
theorem Gx(hs:0<s)(_hy:0<y):(x*s) / (y*s)=x / y∧(x*s) % (y*s)=(x % y)*s∧(x % y)*s / s=x % y :=
 ⟨Nat.mul_div_mul_right _ _ hs,Nat.mul_mod_mul_right _ _ _,Nat.mul_div_cancel _ hs⟩
theorem Gy(h:KnAt X (gr Y) ((gr X).length+2) 0 a q)(hY:2<=(gr Y).length)(hl:(gr Y).length<=(gr X).length):cutL q=gr (X / Y)∧cutL (a.take (gr Y).length)=gr (X % Y):=by
 obtain⟨f1,f2,f3⟩:=h.fin (tE hY) (by omega);rw[gval_gr]at f1 f2;refine⟨by rw[cutL_gr h.allq,f1],?_⟩;rw[cutL_gr (h.alla.take _),f3,f2]
theorem SubIn.top(h:SubIn g b a0 i j bo a):at0 a (i+j)=at0 a0 (i+j):=by
 have h1:=fH a (i+j) 0;have h2:=fH a0 (i+j) 0;rw[h.high]at h1;rw[Nj]at h1 h2;rw[←h1,←h2]
theorem AddIn.ex{b a0:List Nat}{i:Nat}(hb:bf b)(ha:bf a0):∀j,i+j<=a0.length->∃ca a,AddIn b a0 i j ca a
 |0,_=>⟨0,a0,AddIn.start ha⟩
 |j+1,h=>by
  obtain⟨ca,a,h1⟩:=AddIn.ex (i:=i) hb ha j (by omega);exact⟨_,_,h1.step hb (by omega)⟩
theorem KnAt.pos(h:KnAt A0 b La (i+1) a q)(hb:Dvr b)(hi:i+b.length<La)(hs:SubIn g b a i b.length bo a1)(hg:g<B9)(hle:g<=gval (a.drop i) / gval b+1)(ht:at0 a (i+b.length)<bo):0<g:=by
 obtain⟨ca,a2,h1⟩:=AddIn.ex (b:=b) (i:=i) hb.all hs.all b.length (by rw[hs.len,h.la];omega);exact(h.wrong hb hi hs h1 hg hle ht).1
end
end Go.Proofs.YtaegjkllenlfpaaGreatDoor
