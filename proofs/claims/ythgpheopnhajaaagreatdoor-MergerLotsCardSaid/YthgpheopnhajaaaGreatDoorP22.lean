/- The seat's texts, part P22. -/
import Derived.Test.YthgpheopnhajaaaGreatDoorP9
import Derived.Test.YthgpheopnhajaaaGreatDoorP11
import Derived.Test.YthgpheopnhajaaaGreatDoorP15
import Derived.Test.YthgpheopnhajaaaGreatDoorP16
import Derived.Test.YthgpheopnhajaaaGreatDoorP21
set_option maxRecDepth 100000
set_option maxHeartbeats 8000000
namespace Go.Proofs.YthgpheopnhajaaaGreatDoor
section
open Go.RowKit
attribute [local go_sem] size_bs toList_bs
def DX(W:World)(r:Fr)(p:Value)(wx:World):Prop:=∃P,p = .pointer (some ⟨P,0,none⟩)∧Blk wx P 26 #[.string (bs r.num),.string (bs r.den)]∧Ext W wx
theorem uS{q:Rat}{L:Nat}(h:QB L q):(ofI (bB q)).length≤L+1:=by
 refine bu (Nat.lt_of_le_of_lt ?_ h.1);exact Int.natAbs_ediv_le_natAbs _ _
theorem xP{q:Rat}{L:Nat}(h:QB L q):QB L ((bB q:Int):Rat) :=
 lH h.pos (Nat.lt_of_le_of_lt (Int.natAbs_ediv_le_natAbs _ _) h.1)
theorem xQ{L:Nat}(h0:0<L){f:Fr}(h1:f.num.length≤L)(h2:f.den.length≤L):(ofI (bB (aj f))).length≤L+1∧(bz ((bB (aj f):Int):Rat)).num.length≤L+1∧(bz ((bB (aj f):Int):Rat)).den.length≤L+1:=by
 have q:=fm h1 h2 h0;have k:=xP q;exact⟨uS q,k.num_len,k.den_len⟩
theorem Cq{L:Nat}(h0:0<L)(hL:L≤18900)(f:Fr)(h1:f.num.length≤L)(h2:f.den.length≤L) :
  bc 174 #[fv f] (.tuple #[.string (bs (ofI (bB (aj f)))),fv (bz (aj f-((bB (aj f):Int):Rat)))]):=by
 intro w hE;have HE:=qh hE;obtain⟨l1,l2,l3⟩:=xQ h0 h1 h2;have s:=uN f (bz ((bB (aj f):Int):Rat)) (by omega) (by omega) (by omega) (by omega);rw[fE]at s;have o:=o8 (ofI (bB (aj f))) (by omega);rw[ag]at o;have FL:=qh (vV f (by omega) (by omega));have S1:=qh s;have O1:=qh o;generalize bz (aj f-((bB (aj f):Int):Rat))=r at *;generalize bz ((bB (aj f):Int):Rat)=fq at *;generalize ofI (bB (aj f))=z at *;obtain⟨n1,e1⟩:=f;clear s o l1 l2 l3 hE h1 h2 h0 hL;have hn1:w.heap.size≠w.heap.size+1:=by omega
 have hn2:w.heap.size+1≠w.heap.size:=by omega
 have hn3:¬ (w.heap.size=w.heap.size+1):=by omega
 have HB:=qh ((Blk.new w 26 #[.string (bs n1),.string (bs e1)]).alloc (.cells #[.string ⟨#[]⟩,.string ⟨#[]⟩] 26));have HP:=qh (Blk.newAt (w.alloc (.cells #[.string (bs n1),.string (bs e1)] 26)) 26 #[.string ⟨#[]⟩,.string ⟨#[]⟩] (w.heap.size+1) (by simp));have HX:Hid (Ext w ((w.alloc (.cells #[.string (bs n1),.string (bs e1)] 26)).alloc (.cells #[.string ⟨#[]⟩,.string ⟨#[]⟩] 26))):=qh ((Ext.new _ _).alloc _);go_enter Tryz.func174,Tryz.ntmps174;go_wp2_with fail;generalize (w.alloc (.cells #[.string (bs n1),.string (bs e1)] 26)).alloc (.cells #[.string ⟨#[]⟩,.string ⟨#[]⟩] 26)=W0 at *;go_wp2_with fail;refine(FL.out _ (HE.out.ext HX.out)).mono ?_;rintro e W1⟨rfl,hx1⟩;replace HB:=qh (HB.out.ext hx1);replace HP:=qh (HP.out.ext hx1);replace HX:=HX.qt hx1;clear hx1;go_wp2_with fail;obtain⟨a0,a1,_,_⟩:=ah HB.out (Ext.refl _);obtain⟨c0,c1,d0,d1⟩:=ah HP.out (Ext.refl _);have HD:Hid (Ext W1 W1.drew):=qh (Ext.refl W1).drew;clear FL
 go_region_held3 (fun w'=>w'.cell? ⟨w.heap.size,0,none⟩=some (.string (bs n1))∧w'.cell? ⟨w.heap.size,1,none⟩=some (.string (bs e1)))
  (go_keep)
  (first
   |(go_at_call 36;((with_reducible refine(O1.out _ (HE.out.ext (HX.out.trans HD.out))).mono ?_);rintro e w5⟨rfl,hx⟩);(replace HD:=HD.qt hx);(obtain⟨a2,a3,_,_⟩:=ah HB.out HD.out);(obtain⟨c2,c3,d2,d3⟩:=ah HP.out HD.out);clear hx)
   |(go_at_call 97;((with_reducible refine(S1.out _ (HE.out.ext (HX.out.trans HD.out))).mono ?_);rintro e w5⟨rfl,hx⟩);(replace HD:=HD.qt hx);(obtain⟨a2,a3,_,_⟩:=ah HB.out HD.out);(obtain⟨c2,c3,d2,d3⟩:=ah HP.out HD.out);clear hx)
   |fail)
 all_goals
  go_wp2_with fail;refine bodyPost_ret (wj rfl _ _ (w.heap.size+1) (.string (bs r.num)) (.string (bs r.den)) (.string (bs z)) rfl rfl (((HP.out.ext HD.out).set_ 0 _).set_ 1 _)) rfl ?_;exact⟨rfl,((HX.out.trans HD.out).setCell (p:=⟨w.heap.size+1,0,none⟩) (by show w.heap.size≤w.heap.size+1;omega) _).setCell (p:=⟨w.heap.size+1,1,none⟩) (by show w.heap.size≤w.heap.size+1;omega) _⟩
theorem uT{p q:Rat}:bN p q≤0↔p≤q:=by
 rw[←Int.not_lt,yZ,Rat.not_lt]
def dF(q:Bs)(f:Fr):Int:=if aq q≠0∨aK f≠0 then 1 else if valI q<0∨aj f≤0 then 2 else 0
def dl(q:Bs)(f:Fr):Rat:=((valI q:Int):Rat)*aj f
def ky(q:Bs)(f:Fr):Bs:=ofI (bB (dl q f))
def fW(q:Bs)(f:Fr):Fr:=bz (dl q f-((bB (dl q f):Int):Rat))
def cw(q:Bs)(f:Fr):Bs × Fr × Int:=if dF q f=0 then(ky q f,fW q f,0) else([],⟨[],[]⟩,dF q f)
structure PartsT (q:Bs) (f:Fr) (v:Bs × Fr × Int):Prop where
 c1:aq q≠0→v=([],⟨[],[]⟩,1)
 c2:aq q=0→aK f≠0→v=([],⟨[],[]⟩,1)
 s1:aq q=0→aK f=0→cmpI (valI q) 0<0→v=([],⟨[],[]⟩,2)
 s2:aq q=0→aK f=0→¬ cmpI (valI q) 0<0→bN (aj f) 0≤0→v=([],⟨[],[]⟩,2)
 k:aq q=0→aK f=0→¬ cmpI (valI q) 0<0→¬ bN (aj f) 0≤0→v=(ky q f,fW q f,0)
theorem mU(q:Bs)(f:Fr):PartsT q f (cw q f):=by
 refine⟨fun h=>?_,fun h k=>?_,fun h k l=>?_,fun h k l m=>?_,fun h k l m=>?_⟩
 ·have:dF q f=1:=by unfold dF;rw[if_pos (.inl h)]
  unfold cw;rw[this,if_neg (by decide)]
 ·have:dF q f=1:=by unfold dF;rw[if_pos (.inr k)]
  unfold cw;rw[this,if_neg (by decide)]
 ·have:dF q f=2:=by unfold dF;rw[if_neg (by omega),if_pos (.inl (cC.1 l))]
  unfold cw;rw[this,if_neg (by decide)]
 ·have:dF q f=2:=by unfold dF;rw[if_neg (by omega),if_pos (.inr (uT.1 m))]
  unfold cw;rw[this,if_neg (by decide)]
 ·have:dF q f=0:=by
   unfold dF;rw[if_neg (by omega),if_neg];rintro(a|a)
   ·exact l (cC.2 a)
   ·exact m (uT.2 a)
  unfold cw;rw[this,if_pos rfl]
theorem Cr{L:Nat}(h0:0<L)(hL:L≤9000)(q:Bs)(f:Fr)(hq:q.length≤L)(h1:f.num.length≤L)(h2:f.den.length≤L) :
  bc 107 #[.string (bs q),fv f] (.tuple #[.string (bs (cw q f).1),fv (cw q f).2.1,.int .i64 (cw q f).2.2]):=by
 intro w hE;have HE:=qh hE;have qq:=lH h0 (aF hq);have qp:QB (L+L) (dl q f):=qq.mul (fm h1 h2 h0);have l1:=qq.num_len;have l2:=qq.den_len;have l3:=qp.num_len;have l4:=qp.den_len;have m:=pV (bz ((valI q:Int):Rat)) f (by omega) (by omega) (by omega) (by omega);rw[fE,show((valI q:Int):Rat)*aj f=dl q f from rfl]at m;have r:=Cq (L:=L+L+1) (by omega) (by omega) (bz (dl q f)) l3 l4;rw[fE,show ofI (bB (dl q f))=ky q f from rfl,show bz (dl q f-((bB (dl q f):Int):Rat))=fW q f from rfl]at r;have CI:=qh (fun W=>nU q W (by omega));have CF:=qh (jV f (by omega) (by omega));have C0:=qh (gk q (by omega));have SG:=qh (DW f (by omega) (by omega));have O1:=qh (o8 q (by omega));have M1:=qh m;have R1:=qh r;have T1:=qh (mU q f).c1;have T2:=qh (mU q f).c2;have T3:=qh (mU q f).s1;have T4:=qh (mU q f).s2;have T5:=qh (mU q f).k;generalize cw q f=v at *;generalize ky q f=z at *;generalize fW q f=rr at *;generalize bz (dl q f)=fp at *;generalize bz ((valI q:Int):Rat)=fq at *;generalize aq q=ci at *;generalize aK f=cf at *;generalize cmpI (valI q) 0=si at *;generalize bN (aj f) 0=sf at *;obtain⟨n1,e1⟩:=f;clear m r qq qp l1 l2 l3 l4 hE h1 h2 hq h0 hL;have hn1:w.heap.size≠w.heap.size+1:=by omega
 have hn2:w.heap.size+1≠w.heap.size:=by omega
 have hn3:¬ (w.heap.size=w.heap.size+1):=by omega
 have HB:=qh ((Blk.new w 26 #[.string (bs n1),.string (bs e1)]).alloc (.cells #[.string ⟨#[]⟩,.string ⟨#[]⟩] 26));have HP:=qh (Blk.newAt (w.alloc (.cells #[.string (bs n1),.string (bs e1)] 26)) 26 #[.string ⟨#[]⟩,.string ⟨#[]⟩] (w.heap.size+1) (by simp));have HX:Hid (Ext w ((w.alloc (.cells #[.string (bs n1),.string (bs e1)] 26)).alloc (.cells #[.string ⟨#[]⟩,.string ⟨#[]⟩] 26))):=qh ((Ext.new _ _).alloc _);go_enter Tryz.func107,Tryz.ntmps107;go_wp2_with fail;generalize (w.alloc (.cells #[.string (bs n1),.string (bs e1)] 26)).alloc (.cells #[.string ⟨#[]⟩,.string ⟨#[]⟩] 26)=W0 at *;obtain⟨a0,a1,_,_⟩:=ah HB.out (Ext.refl _);go_wp2_with fail;refine(CI.out _).mono ?_;rintro e v8⟨rfl,hx1⟩;replace HB:=qh (HB.out.ext hx1);replace HP:=qh (HP.out.ext hx1);replace HX:=HX.qt hx1;clear hx1;by_cases y1:ci=0;rotate_left
 ·have g:(ci != 0)=true:=by rw[bne_iff_ne];exact y1
  have e:=T1.out y1;subst e;clear T1 T2 T3 T4 T5;clear a0 a1;obtain⟨c0,c1,d0,d1⟩:=ah HP.out (Ext.refl _);go_wp2_with fail;refine bodyPost_ret (gK rfl _ _ (w.heap.size+1) (.string ⟨#[]⟩) (.string ⟨#[]⟩) (.string ⟨#[]⟩) (.int .i64 1) rfl rfl rfl ((HP.out.set_ 0 _).set_ 1 _)) rfl ?_;exact⟨rfl,(HX.out.setCell (p:=⟨w.heap.size+1,0,none⟩) (by show w.heap.size≤w.heap.size+1;omega) _).setCell (p:=⟨w.heap.size+1,1,none⟩) (by show w.heap.size≤w.heap.size+1;omega) _⟩
 subst y1;clear a0 a1;obtain⟨a0,a1,_,_⟩:=ah HB.out (Ext.refl _);go_wp2_with fail;refine(CF.out _ (HE.out.ext HX.out)).mono ?_;rintro e v10⟨rfl,hx1⟩;replace HB:=qh (HB.out.ext hx1);replace HP:=qh (HP.out.ext hx1);replace HX:=HX.qt hx1;clear hx1;by_cases y2:cf=0;rotate_left
 ·have g:(cf != 0)=true:=by rw[bne_iff_ne];exact y2
  have e:=T2.out (by trivial) y2;subst e;clear T1 T2 T3 T4 T5;clear a0 a1;obtain⟨c0,c1,d0,d1⟩:=ah HP.out (Ext.refl _);go_wp2_with fail;refine bodyPost_ret (gK rfl _ _ (w.heap.size+1) (.string ⟨#[]⟩) (.string ⟨#[]⟩) (.string ⟨#[]⟩) (.int .i64 1) rfl rfl rfl ((HP.out.set_ 0 _).set_ 1 _)) rfl ?_;exact⟨rfl,(HX.out.setCell (p:=⟨w.heap.size+1,0,none⟩) (by show w.heap.size≤w.heap.size+1;omega) _).setCell (p:=⟨w.heap.size+1,1,none⟩) (by show w.heap.size≤w.heap.size+1;omega) _⟩
 subst y2;clear a0 a1;obtain⟨a0,a1,_,_⟩:=ah HB.out (Ext.refl _);go_wp2_with fail;refine(C0.out _ (HE.out.ext HX.out)).mono ?_;rintro e v12⟨rfl,hx1⟩;replace HB:=qh (HB.out.ext hx1);replace HP:=qh (HP.out.ext hx1);replace HX:=HX.qt hx1;clear hx1;by_cases y3:si<0
 ·have g:decide (si<0)=true:=decide_eq_true y3;have e:=T3.out (by trivial) (by trivial) (by omega);subst e;clear T1 T2 T3 T4 T5;clear a0 a1;obtain⟨c0,c1,d0,d1⟩:=ah HP.out (Ext.refl _);go_wp2_with fail;refine bodyPost_ret (gK rfl _ _ (w.heap.size+1) (.string ⟨#[]⟩) (.string ⟨#[]⟩) (.string ⟨#[]⟩) (.int .i64 2) rfl rfl rfl ((HP.out.set_ 0 _).set_ 1 _)) rfl ?_;exact⟨rfl,(HX.out.setCell (p:=⟨w.heap.size+1,0,none⟩) (by show w.heap.size≤w.heap.size+1;omega) _).setCell (p:=⟨w.heap.size+1,1,none⟩) (by show w.heap.size≤w.heap.size+1;omega) _⟩
 have g3:decide (si<0)=false:=decide_eq_false y3;clear a0 a1;obtain⟨a0,a1,_,_⟩:=ah HB.out (Ext.refl _);go_wp2_with fail;refine(SG.out _ (HE.out.ext HX.out)).mono ?_;rintro e W⟨rfl,hx1⟩;replace HB:=qh (HB.out.ext hx1);replace HP:=qh (HP.out.ext hx1);replace HX:=HX.qt hx1;clear hx1;by_cases y4:sf≤0
 ·have g:decide (sf≤0)=true:=decide_eq_true y4;have e:=T4.out (by trivial) (by trivial) (by omega) (by omega);subst e;clear T1 T2 T3 T4 T5;clear a0 a1;obtain⟨c0,c1,d0,d1⟩:=ah HP.out (Ext.refl _);go_wp2_with fail;refine bodyPost_ret (gK rfl _ _ (w.heap.size+1) (.string ⟨#[]⟩) (.string ⟨#[]⟩) (.string ⟨#[]⟩) (.int .i64 2) rfl rfl rfl ((HP.out.set_ 0 _).set_ 1 _)) rfl ?_;exact⟨rfl,(HX.out.setCell (p:=⟨w.heap.size+1,0,none⟩) (by show w.heap.size≤w.heap.size+1;omega) _).setCell (p:=⟨w.heap.size+1,1,none⟩) (by show w.heap.size≤w.heap.size+1;omega) _⟩
 have g4:decide (sf≤0)=false:=decide_eq_false y4;have e:=T5.out (by trivial) (by trivial) (by omega) (by omega);subst e;clear T1 T2 T3 T4 T5 CI CF C0 SG a0 a1;go_upto_region 5 with fail;go_cut [7,8] (fun p7 p8 wx=>p7 = .string (bs z)∧DX W rr p8 wx)
 case first =>
  obtain⟨q0,q1,_,_⟩:=ah HB.out (Ext.refl W);have HD:Hid (Ext W W.drew):=qh (Ext.refl W).drew;have HBP:=qh (HB.out.drew)
  go_region_held3 (fun w'=>w'.cell? ⟨w.heap.size,0,none⟩=some (.string (bs n1))∧w'.cell? ⟨w.heap.size,1,none⟩=some (.string (bs e1)))
   (go_keep)
   (first
    |(go_at_call 36;((with_reducible refine(O1.out _ (HE.out.ext (HX.out.trans HD.out))).mono ?_);rintro e w5⟨rfl,hx⟩);(replace HD:=HD.qt hx);(obtain⟨q2,q3,_,_⟩:=ah HB.out HD.out);(replace HBP:=qh (HBP.out.ext hx));(obtain⟨p0,p1,p2,p3⟩:=ah HBP.out (Ext.refl _));(have hq5:=Nat.ne_of_lt (HB.out.ext HD.out).lt);(have hq6:=Nat.ne_of_gt (HB.out.ext HD.out).lt);clear hx)
    |(go_at_call 36;((with_reducible refine(O1.out _ (HE.out.ext (HX.out.trans (HD.out.alloc _)))).mono ?_);rintro e w5⟨rfl,hx⟩);(have HLE:=qh HD.out.size);(have hpq:=Nat.ne_of_lt (Nat.lt_of_lt_of_le HB.out.lt HLE.out));(have hqp:=Nat.ne_of_gt (Nat.lt_of_lt_of_le HB.out.lt HLE.out));(have HBP:=qh ((Blk.new _ _ _).ext hx));(replace HD:=qh ((HD.out.alloc _).trans hx));(obtain⟨q2,q3,_,_⟩:=ah HB.out HD.out);(obtain⟨p0,p1,p2,p3⟩:=ah HBP.out (Ext.refl _));(have hq5:=Nat.ne_of_lt (HB.out.ext HD.out).lt);(have hq6:=Nat.ne_of_gt (HB.out.ext HD.out).lt);clear hx)
    |(go_at_call 36;((with_reducible refine(O1.out _ (HE.out.ext (HX.out.trans ((Ext.new _ _).drew)))).mono ?_);rintro e w5⟨rfl,hx⟩);(have HLE:=qh (Nat.le_refl W.heap.size));(have hpq:=Nat.ne_of_lt (Nat.lt_of_lt_of_le HB.out.lt HLE.out));(have hqp:=Nat.ne_of_gt (Nat.lt_of_lt_of_le HB.out.lt HLE.out));(have HBP:=qh (((Blk.new _ _ _).drew).ext hx));(replace HD:=qh (((Ext.new W _).drew).trans hx));(obtain⟨q2,q3,_,_⟩:=ah HB.out HD.out);(obtain⟨p0,p1,p2,p3⟩:=ah HBP.out (Ext.refl _));(have hq5:=Nat.ne_of_lt (HB.out.ext HD.out).lt);(have hq6:=Nat.ne_of_gt (HB.out.ext HD.out).lt);clear hx)
    |(go_at_call 38;((with_reducible refine(M1.out _ (HE.out.ext (HX.out.trans HD.out))).mono ?_);rintro e w5⟨rfl,hx⟩);(replace HD:=HD.qt hx);(obtain⟨q2,q3,_,_⟩:=ah HB.out HD.out);(replace HBP:=qh (HBP.out.ext hx));(obtain⟨p0,p1,p2,p3⟩:=ah HBP.out (Ext.refl _));(have hq5:=Nat.ne_of_lt (HB.out.ext HD.out).lt);(have hq6:=Nat.ne_of_gt (HB.out.ext HD.out).lt);clear hx)
    |(go_at_call 38;((with_reducible refine(M1.out _ (HE.out.ext (HX.out.trans (HD.out.alloc _)))).mono ?_);rintro e w5⟨rfl,hx⟩);(have HLE:=qh HD.out.size);(have hpq:=Nat.ne_of_lt (Nat.lt_of_lt_of_le HB.out.lt HLE.out));(have hqp:=Nat.ne_of_gt (Nat.lt_of_lt_of_le HB.out.lt HLE.out));(have HBP:=qh ((Blk.new _ _ _).ext hx));(replace HD:=qh ((HD.out.alloc _).trans hx));(obtain⟨q2,q3,_,_⟩:=ah HB.out HD.out);(obtain⟨p0,p1,p2,p3⟩:=ah HBP.out (Ext.refl _));(have hq5:=Nat.ne_of_lt (HB.out.ext HD.out).lt);(have hq6:=Nat.ne_of_gt (HB.out.ext HD.out).lt);clear hx)
    |(go_at_call 38;((with_reducible refine(M1.out _ (HE.out.ext (HX.out.trans ((Ext.new _ _).drew)))).mono ?_);rintro e w5⟨rfl,hx⟩);(have HLE:=qh (Nat.le_refl W.heap.size));(have hpq:=Nat.ne_of_lt (Nat.lt_of_lt_of_le HB.out.lt HLE.out));(have hqp:=Nat.ne_of_gt (Nat.lt_of_lt_of_le HB.out.lt HLE.out));(have HBP:=qh (((Blk.new _ _ _).drew).ext hx));(replace HD:=qh (((Ext.new W _).drew).trans hx));(obtain⟨q2,q3,_,_⟩:=ah HB.out HD.out);(obtain⟨p0,p1,p2,p3⟩:=ah HBP.out (Ext.refl _));(have hq5:=Nat.ne_of_lt (HB.out.ext HD.out).lt);(have hq6:=Nat.ne_of_gt (HB.out.ext HD.out).lt);clear hx)
    |(go_at_call 174;((with_reducible refine(R1.out _ (HE.out.ext (HX.out.trans HD.out))).mono ?_);rintro e w5⟨rfl,hx⟩);(replace HD:=HD.qt hx);(obtain⟨q2,q3,_,_⟩:=ah HB.out HD.out);(replace HBP:=qh (HBP.out.ext hx));(obtain⟨p0,p1,p2,p3⟩:=ah HBP.out (Ext.refl _));(have hq5:=Nat.ne_of_lt (HB.out.ext HD.out).lt);(have hq6:=Nat.ne_of_gt (HB.out.ext HD.out).lt);clear hx)
    |(go_at_call 174;((with_reducible refine(R1.out _ (HE.out.ext (HX.out.trans (HD.out.alloc _)))).mono ?_);rintro e w5⟨rfl,hx⟩);(have HLE:=qh HD.out.size);(have hpq:=Nat.ne_of_lt (Nat.lt_of_lt_of_le HB.out.lt HLE.out));(have hqp:=Nat.ne_of_gt (Nat.lt_of_lt_of_le HB.out.lt HLE.out));(have HBP:=qh ((Blk.new _ _ _).ext hx));(replace HD:=qh ((HD.out.alloc _).trans hx));(obtain⟨q2,q3,_,_⟩:=ah HB.out HD.out);(obtain⟨p0,p1,p2,p3⟩:=ah HBP.out (Ext.refl _));(have hq5:=Nat.ne_of_lt (HB.out.ext HD.out).lt);(have hq6:=Nat.ne_of_gt (HB.out.ext HD.out).lt);clear hx)
    |(go_at_call 174;((with_reducible refine(R1.out _ (HE.out.ext (HX.out.trans ((Ext.new _ _).drew)))).mono ?_);rintro e w5⟨rfl,hx⟩);(have HLE:=qh (Nat.le_refl W.heap.size));(have hpq:=Nat.ne_of_lt (Nat.lt_of_lt_of_le HB.out.lt HLE.out));(have hqp:=Nat.ne_of_gt (Nat.lt_of_lt_of_le HB.out.lt HLE.out));(have HBP:=qh (((Blk.new _ _ _).drew).ext hx));(replace HD:=qh (((Ext.new W _).drew).trans hx));(obtain⟨q2,q3,_,_⟩:=ah HB.out HD.out);(obtain⟨p0,p1,p2,p3⟩:=ah HBP.out (Ext.refl _));(have hq5:=Nat.ne_of_lt (HB.out.ext HD.out).lt);(have hq6:=Nat.ne_of_gt (HB.out.ext HD.out).lt);clear hx)
    |fail)
  all_goals
   go_wp2_with fail;go_meet
   first
    |exact⟨rfl,_,rfl,Blk.new _ _ _,HD.out.alloc _⟩
    |exact⟨rfl,_,rfl,(HBP.out.set_ 0 _).set_ 1 _,(HD.out.setCell (p:=⟨_,0,none⟩) HLE.out _).setCell (p:=⟨_,1,none⟩) HLE.out _⟩
 case rest =>
  obtain⟨rfl,P,rfl,hbp,hxw⟩:=hcut;have HBZ:=qh hbp;replace HX:=HX.qt hxw;replace HP:=qh (HP.out.ext hxw);clear hbp hxw O1 M1 R1 HB;obtain⟨z0,z1,_,_⟩:=ah HBZ.out (Ext.refl _);obtain⟨c0,c1,d0,d1⟩:=ah HP.out (Ext.refl _);go_wp2_with fail;go_region
  all_goals
   go_wp2_with fail;refine bodyPost_ret (gK rfl _ _ (w.heap.size+1) (.string (bs rr.num)) (.string (bs rr.den)) (.string (bs z)) (.int .i64 0) rfl rfl rfl ((HP.out.drew.set_ 0 _).set_ 1 _)) rfl ?_;exact⟨rfl,(HX.out.drew.setCell (p:=⟨w.heap.size+1,0,none⟩) (by show w.heap.size≤w.heap.size+1;omega) _).setCell (p:=⟨w.heap.size+1,1,none⟩) (by show w.heap.size≤w.heap.size+1;omega) _⟩
end
section
open Go.RowKit
attribute [local go_sem] size_bs toList_bs
theorem en{fn:Func}{a0 a b c:Tmp}(h:fn.results=#[.tmp a0,.tmp a,.cell b 26,.tmp c])(tmps:Array Value)(w:World)(g:Nat)(x y z0 z u:Value)(hz0:tmps.getD a0 undef=z0)(hz:tmps.getD a undef=z)(ha:tmps.getD b undef = .pointer (some ⟨g,0,none⟩))(hu:tmps.getD c undef=u)(hb:Blk w g 26 #[x,y]) :
  (results fn tmps).run Tryz.prog w = .ok (.tuple #[z0,z,.agg #[x,y],u]) w:=by
 obtain⟨q0,q1,_,_⟩:=ah hb (Ext.refl _);unfold results;rw[h];simp only[List.mapM_toArray,List.mapM_cons,List.mapM_nil,ha,hz,hu,hz0];go_simp
def bt(o:OptV)(q:Bs):Bs × Fr × Int:=if o.other=[] then([],⟨[],[]⟩,0) else cw q o.r
def fy(o:OptV)(q:Bs)(r:Fr):Bs:=ofI (cD o.p q+cD (bz (aj r*aj o.v)) [49])
def da(o:OptV)(q:Bs):Bs × Bs × Fr × Int:=if(bt o q).2.2=0 then((bt o q).1,fy o q (bt o q).2.1,(bt o q).2.1,0) else([],[],⟨[],[]⟩,(bt o q).2.2)
theorem tf{L:Nat}(h0:0<L){q:Bs}{f:Fr}(hq:q.length≤L)(h1:f.num.length≤L)(h2:f.den.length≤L):(cw q f).2.1.num.length≤4*L+2∧(cw q f).2.1.den.length≤4*L+2:=by
 have qp:QB (L+L) (dl q f):=(lH h0 (aF hq)).mul (fm h1 h2 h0);have k:QB (L+L+(L+L)+1) (dl q f-((bB (dl q f):Int):Rat)):=qp.sub (xP qp);have l1:=k.num_len;have l2:=k.den_len;unfold cw;split
 ·exact⟨by show(fW q f).num.length≤_;unfold fW;omega,by show(fW q f).den.length≤_;unfold fW;omega⟩
 ·exact⟨by simp,by simp⟩
structure TermsC (o:OptV) (q:Bs) (rest:Fr) (x y:Bs) (m:Fr) (z:Bs):Prop where
 v1:bc 30 #[fv o.p,.string (bs q)] (.string (bs x))
 mu:bc 38 #[fv rest,fv o.v] (fv m)
 v2:bc 30 #[fv m,.string ⟨#[49]⟩] (.string (bs y))
 ad:bc 21 #[.string (bs x),.string (bs y)] (.string (bs z))
theorem xR{L M:Nat}(h0:0<L)(hL:L≤1000)(hM:M≤4010)(o:OptV)(q:Bs)(rest:Fr)(hs:eP L o)(hq:q.length≤L)(r1:rest.num.length≤M)(r2:rest.den.length≤M)(hm:0<M) :
  ∃x y m,TermsC o q rest x y m (fy o q rest):=by
 obtain⟨s0,s1,s2,s3,s4,s5,s6⟩:=hs;have qv:=kx h0 s3 s4 hq;have k1:(ofI (cD o.p q)).length≤L+L+2:=ie qv;have qm:=(fm r1 r2 hm).mul (fm s5 s6 h0);have m1:=qm.num_len;have m2:=qm.den_len;have qw:=kx (L:=M+L+1) (by omega) m1 m2 (q:=[49]) (by simp);have k2:(ofI (cD (bz (aj rest*aj o.v)) [49])).length≤(M+L+1)+(M+L+1)+2:=ie qw;refine⟨_,_,_,mt h0 (by omega) o.p q s3 s4 hq,pV rest o.v (by omega) (by omega) (by omega) (by omega),mt (L:=M+L+1) (by omega) (by omega) (bz (aj rest*aj o.v)) [49] m1 m2 (by simp),?_⟩;have:=fS (ofI (cD o.p q)) (ofI (cD (bz (aj rest*aj o.v)) [49])) (by omega) (by omega);rw[ag,ag]at this
 exact this
structure TermsT (o:OptV) (q:Bs) (S:Bs × Fr × Int) (v:Bs × Bs × Fr × Int):Prop where
 n:o.other=[]→v=([],fy o q ⟨[],[]⟩,⟨[],[]⟩,0)
 b:o.other≠[]→S.2.2≠0→v=([],[],⟨[],[]⟩,S.2.2)
 k:o.other≠[]→S.2.2=0→v=(S.1,fy o q S.2.1,S.2.1,0)
theorem DY(o:OptV)(q:Bs):TermsT o q (cw q o.r) (da o q):=by
 refine⟨fun h=>?_,fun h k=>?_,fun h k=>?_⟩
 ·have e:bt o q=([],⟨[],[]⟩,0):=by unfold bt;rw[if_pos h]
  unfold da;rw[e];rfl
 ·have e:bt o q=cw q o.r:=by unfold bt;rw[if_neg h]
  unfold da;rw[e,if_neg k]
 ·have e:bt o q=cw q o.r:=by unfold bt;rw[if_neg h]
  unfold da;rw[e,if_pos k]
theorem tg{L:Nat}(h0:0<L)(hL:L≤1000)(o:OptV)(q:Bs)(hs:eP L o)(hq:q.length≤L) :
  bc 53 #[ov o,.string (bs q)] (.tuple #[.string (bs (da o q).1),.string (bs (da o q).2.1),fv (da o q).2.2.1,.int .i64 (da o q).2.2.2]):=by
 intro w hE;have HE:=qh hE;have T:=DY o q;have HT1:=qh T.n;have HT2:=qh T.b;have HT3:=qh T.k;have PT:=qh (Cr h0 (by omega) q o.r hq hs.2.1 hs.2.2.1);have C0:=qh (xR (M:=1) h0 hL (by omega) o q ⟨[],[]⟩ hs hq (by simp) (by simp) (by omega));obtain⟨l1,l2⟩:=tf h0 hq hs.2.1 hs.2.2.1;have C1:=qh (xR h0 hL (by omega) o q (cw q o.r).2.1 hs hq l1 l2 (by omega));clear T l1 l2 hE;generalize da o q=v at *;generalize fy o q ⟨[],[]⟩=zz at *;generalize fy o q (cw q o.r).2.1=z at *;generalize cw q o.r=S at *;obtain⟨sh,⟨sn,sd⟩,se⟩:=S;dsimp only at *;obtain⟨ot,⟨rn,rd⟩,⟨pn,pd⟩,⟨vn,vd⟩⟩:=o;clear hs hq h0 hL;dsimp only at HT1 HT2 HT3;have hn1:w.heap.size≠w.heap.size+1:=by omega
 have hn2:w.heap.size+1≠w.heap.size:=by omega
 have hn3:¬ (w.heap.size=w.heap.size+1):=by omega
 have hn4:w.heap.size+1≠w.heap.size+1+1:=by omega
 have hn5:w.heap.size+1+1≠w.heap.size+1:=by omega
 have hn6:w.heap.size≠w.heap.size+1+1:=by omega
 have hn7:w.heap.size+1+1≠w.heap.size:=by omega
 have hn8:¬ (w.heap.size=w.heap.size+1+1):=by omega
 have hn9:¬ (w.heap.size+1=w.heap.size+1+1):=by omega
 have HB:=qh (((Blk.new w 50 #[.string (bs ot),.string (bs rn),.string (bs rd),.string (bs pn),.string (bs pd),.string (bs vn),.string (bs vd)]).alloc (.cells #[.string ⟨#[]⟩,.string ⟨#[]⟩] 26)).alloc (.cells #[.string ⟨#[]⟩,.string ⟨#[]⟩] 26));have HP:=qh ((Blk.newAt (w.alloc (.cells #[.string (bs ot),.string (bs rn),.string (bs rd),.string (bs pn),.string (bs pd),.string (bs vn),.string (bs vd)] 50)) 26 #[.string ⟨#[]⟩,.string ⟨#[]⟩] (w.heap.size+1) (by simp)).alloc (.cells #[.string ⟨#[]⟩,.string ⟨#[]⟩] 26));have HR:=qh (Blk.newAt ((w.alloc (.cells #[.string (bs ot),.string (bs rn),.string (bs rd),.string (bs pn),.string (bs pd),.string (bs vn),.string (bs vd)] 50)).alloc (.cells #[.string ⟨#[]⟩,.string ⟨#[]⟩] 26)) 26 #[.string ⟨#[]⟩,.string ⟨#[]⟩] (w.heap.size+1+1) (by simp));have HX:Hid (Ext w (((w.alloc (.cells #[.string (bs ot),.string (bs rn),.string (bs rd),.string (bs pn),.string (bs pd),.string (bs vn),.string (bs vd)] 50)).alloc (.cells #[.string ⟨#[]⟩,.string ⟨#[]⟩] 26)).alloc (.cells #[.string ⟨#[]⟩,.string ⟨#[]⟩] 26))):=qh (((Ext.new _ _).alloc _).alloc _);go_enter Tryz.func53,Tryz.ntmps53;go_upto_region 3 with fail;generalize ((w.alloc (.cells #[.string (bs ot),.string (bs rn),.string (bs rd),.string (bs pn),.string (bs pd),.string (bs vn),.string (bs vd)] 50)).alloc (.cells #[.string ⟨#[]⟩,.string ⟨#[]⟩] 26)).alloc (.cells #[.string ⟨#[]⟩,.string ⟨#[]⟩] 26)=W0 at *;replace HB:Hid (Blk W0 w.heap.size 50 (oc ⟨ot,⟨rn,rd⟩,⟨pn,pd⟩,⟨vn,vd⟩⟩)):=HB;obtain⟨b0,b1,b2,b3,b4,b5,b6⟩:=ar HB.out (Ext.refl _);obtain⟨q0,q1,f0,f1⟩:=ah HR.out (Ext.refl _);obtain⟨c0,c1,d0,d1⟩:=ah HP.out (Ext.refl _);by_cases h0:ot=[]
 ·have e:=HT1.out h0;subst e;subst h0;obtain⟨x,y,m,hc⟩:=C0.out;have HC:=qh hc;clear hc HT1 HT2 HT3 PT C0 C1;clear b0 b1 b2 b3 b4 b5 b6 q0 q1 f0 f1 c0 c1 d0 d1;obtain⟨b0,_,_,_,_,_,_⟩:=ar HB.out (Ext.refl _);go_upto_region 8 with fail;obtain⟨v1,mu,v2,ad⟩:=HC.out;have V1:=qh v1;have V2:=qh v2;have M1:Hid (bc 38 #[.agg #[.string ⟨#[]⟩,.string ⟨#[]⟩],fv ⟨vn,vd⟩] (fv m)):=qh mu;have A1:=qh ad;clear v1 mu v2 ad HC;go_cut [11] (fun p11 wx=>p11 = .string (bs zz)∧Ext W0 wx)
  case first =>
   obtain⟨_,_,_,b3,b4,b5,b6⟩:=ar HB.out (Ext.refl _);obtain⟨q2,q3,_,_⟩:=ah HR.out (Ext.refl _);have HD:Hid (Ext W0 (W0).drew):=qh (Ext.refl _).drew
   go_region_held3 (fun w'=>w'.cell? ⟨w.heap.size,3,none⟩=some (.string (bs pn))∧w'.cell? ⟨w.heap.size,4,none⟩=some (.string (bs pd))∧w'.cell? ⟨w.heap.size,5,none⟩=some (.string (bs vn))∧w'.cell? ⟨w.heap.size,6,none⟩=some (.string (bs vd))∧w'.cell? ⟨w.heap.size+1+1,0,none⟩=some (.string ⟨#[]⟩)∧w'.cell? ⟨w.heap.size+1+1,1,none⟩=some (.string ⟨#[]⟩))
    (go_keep)
    (first
     |(go_at_call 30;((with_reducible refine(V1.out _ (HE.out.ext (HX.out.trans HD.out))).mono ?_);rintro e w5⟨rfl,hx⟩);(replace HD:=HD.qt hx);(obtain⟨_,_,_,b3,b4,b5,b6⟩:=ar HB.out HD.out);(obtain⟨q2,q3,_,_⟩:=ah HR.out HD.out);clear hx)
     |(go_at_call 30;((with_reducible refine(V2.out _ (HE.out.ext (HX.out.trans HD.out))).mono ?_);rintro e w5⟨rfl,hx⟩);(replace HD:=HD.qt hx);(obtain⟨_,_,_,b3,b4,b5,b6⟩:=ar HB.out HD.out);(obtain⟨q2,q3,_,_⟩:=ah HR.out HD.out);clear hx)
     |(go_at_call 38;((with_reducible refine(M1.out _ (HE.out.ext (HX.out.trans HD.out))).mono ?_);rintro e w5⟨rfl,hx⟩);(replace HD:=HD.qt hx);(obtain⟨_,_,_,b3,b4,b5,b6⟩:=ar HB.out HD.out);(obtain⟨q2,q3,_,_⟩:=ah HR.out HD.out);clear hx)
     |(go_at_call 21;((with_reducible refine(A1.out _ (HE.out.ext (HX.out.trans HD.out))).mono ?_);rintro e w5⟨rfl,hx⟩);(replace HD:=HD.qt hx);(obtain⟨_,_,_,b3,b4,b5,b6⟩:=ar HB.out HD.out);(obtain⟨q2,q3,_,_⟩:=ah HR.out HD.out);clear hx)
     |fail)
   all_goals (go_wp2_with fail;go_meet;exact⟨rfl,HD.out⟩)
  case rest =>
   obtain⟨rfl,hxw⟩:=hcut;replace HX:=HX.qt hxw;replace HP:=qh (HP.out.ext hxw);replace HR:=qh (HR.out.ext hxw);clear hxw V1 V2 M1 A1 HB;obtain⟨z0,z1,_,_⟩:=ah HR.out (Ext.refl _);obtain⟨c0,c1,d0,d1⟩:=ah HP.out (Ext.refl _);go_wp2_with fail;go_region
   all_goals
    go_wp2_with fail;refine bodyPost_ret (en rfl _ _ (w.heap.size+1) (.string ⟨#[]⟩) (.string ⟨#[]⟩) (.string ⟨#[]⟩) (.string (bs zz)) (.int .i64 0) rfl rfl rfl rfl ((HP.out.drew.set_ 0 _).set_ 1 _)) rfl ?_;exact⟨rfl,(HX.out.drew.setCell (p:=⟨w.heap.size+1,0,none⟩) (by show w.heap.size≤w.heap.size+1;omega) _).setCell (p:=⟨w.heap.size+1,1,none⟩) (by show w.heap.size≤w.heap.size+1;omega) _⟩
 ·have qo:=aQ h0;have qe:ot.isEmpty=false:=by simpa using h0
  go_wp2_with fail;refine(PT.out _ (HE.out.ext HX.out)).mono ?_;rintro e W1⟨rfl,hx1⟩;replace HB:=qh (HB.out.ext hx1);replace HP:=qh (HP.out.ext hx1);replace HR:=qh (HR.out.ext hx1);replace HX:=HX.qt hx1;clear hx1;clear b0 b1 b2 b3 b4 b5 b6 q0 q1 f0 f1 c0 c1 d0 d1;obtain⟨b0,b1,b2,b3,b4,b5,b6⟩:=ar HB.out (Ext.refl _);obtain⟨q0,q1,f0,f1⟩:=ah HR.out (Ext.refl _);obtain⟨c0,c1,d0,d1⟩:=ah HP.out (Ext.refl _);by_cases h1:se=0;rotate_left
  ·have g:(se != 0)=true:=by rw[bne_iff_ne];exact h1
   have e:=HT2.out h0 h1;subst e;clear HT1 HT2 HT3 PT C0 C1;go_wp2_with fail;refine bodyPost_ret (en rfl _ _ (w.heap.size+1) (.string ⟨#[]⟩) (.string ⟨#[]⟩) (.string ⟨#[]⟩) (.string ⟨#[]⟩) (.int .i64 se) rfl rfl rfl rfl ((((HP.out.far (p:=⟨w.heap.size+1+1,0,none⟩) hn4 _).far (p:=⟨w.heap.size+1+1,1,none⟩) hn4 _).set_ 0 _).set_ 1 _)) rfl ?_;exact⟨rfl,(((HX.out.setCell (p:=⟨w.heap.size+1+1,0,none⟩) (by show w.heap.size≤w.heap.size+1+1;omega) _).setCell (p:=⟨w.heap.size+1+1,1,none⟩) (by show w.heap.size≤w.heap.size+1+1;omega) _).setCell (p:=⟨w.heap.size+1,0,none⟩) (by show w.heap.size≤w.heap.size+1;omega) _).setCell (p:=⟨w.heap.size+1,1,none⟩) (by show w.heap.size≤w.heap.size+1;omega) _⟩
  ·subst h1;have e:=HT3.out h0 (by trivial);subst e;obtain⟨x,y,m,hc⟩:=C1.out;have HC:=qh hc;clear hc HT1 HT2 HT3 PT C0 C1;go_upto_region 8 with fail;replace HB:=qh ((HB.out.far (p:=⟨w.heap.size+1+1,0,none⟩) hn6 (.string (bs sn))).far (p:=⟨w.heap.size+1+1,1,none⟩) hn6 (.string (bs sd)));replace HP:=qh ((HP.out.far (p:=⟨w.heap.size+1+1,0,none⟩) hn4 (.string (bs sn))).far (p:=⟨w.heap.size+1+1,1,none⟩) hn4 (.string (bs sd)));replace HR:Hid (Blk ((W1.setCell ⟨w.heap.size+1+1,0,none⟩ (.string (bs sn))).setCell ⟨w.heap.size+1+1,1,none⟩ (.string (bs sd))) (w.heap.size+1+1) 26 #[.string (bs sn),.string (bs sd)]):=qh ((HR.out.set_ 0 _).set_ 1 _);replace HX:=qh ((HX.out.setCell (p:=⟨w.heap.size+1+1,0,none⟩) (by show w.heap.size≤w.heap.size+1+1;omega) (.string (bs sn))).setCell (p:=⟨w.heap.size+1+1,1,none⟩) (by show w.heap.size≤w.heap.size+1+1;omega) (.string (bs sd)));clear b0 b1 b2 b3 b4 b5 b6 q0 q1 f0 f1 c0 c1 d0 d1;generalize (W1.setCell ⟨w.heap.size+1+1,0,none⟩ (.string (bs sn))).setCell ⟨w.heap.size+1+1,1,none⟩ (.string (bs sd))=W2 at *;obtain⟨v1,mu,v2,ad⟩:=HC.out;have V1:=qh v1;have V2:=qh v2;have M1:Hid (bc 38 #[.agg #[.string (bs sn),.string (bs sd)],fv ⟨vn,vd⟩] (fv m)):=qh mu;have A1:=qh ad;clear v1 mu v2 ad HC;go_cut [11] (fun p11 wx=>p11 = .string (bs z)∧Ext W2 wx)
   case first =>
    obtain⟨_,_,_,b3,b4,b5,b6⟩:=ar HB.out (Ext.refl _);obtain⟨q2,q3,_,_⟩:=ah HR.out (Ext.refl _);have HD:Hid (Ext W2 (W2).drew):=qh (Ext.refl _).drew
    go_region_held3 (fun w'=>w'.cell? ⟨w.heap.size,3,none⟩=some (.string (bs pn))∧w'.cell? ⟨w.heap.size,4,none⟩=some (.string (bs pd))∧w'.cell? ⟨w.heap.size,5,none⟩=some (.string (bs vn))∧w'.cell? ⟨w.heap.size,6,none⟩=some (.string (bs vd))∧w'.cell? ⟨w.heap.size+1+1,0,none⟩=some (.string (bs sn))∧w'.cell? ⟨w.heap.size+1+1,1,none⟩=some (.string (bs sd)))
     (go_keep)
     (first
      |(go_at_call 30;((with_reducible refine(V1.out _ (HE.out.ext (HX.out.trans HD.out))).mono ?_);rintro e w5⟨rfl,hx⟩);(replace HD:=HD.qt hx);(obtain⟨_,_,_,b3,b4,b5,b6⟩:=ar HB.out HD.out);(obtain⟨q2,q3,_,_⟩:=ah HR.out HD.out);clear hx)
      |(go_at_call 30;((with_reducible refine(V2.out _ (HE.out.ext (HX.out.trans HD.out))).mono ?_);rintro e w5⟨rfl,hx⟩);(replace HD:=HD.qt hx);(obtain⟨_,_,_,b3,b4,b5,b6⟩:=ar HB.out HD.out);(obtain⟨q2,q3,_,_⟩:=ah HR.out HD.out);clear hx)
      |(go_at_call 38;((with_reducible refine(M1.out _ (HE.out.ext (HX.out.trans HD.out))).mono ?_);rintro e w5⟨rfl,hx⟩);(replace HD:=HD.qt hx);(obtain⟨_,_,_,b3,b4,b5,b6⟩:=ar HB.out HD.out);(obtain⟨q2,q3,_,_⟩:=ah HR.out HD.out);clear hx)
      |(go_at_call 21;((with_reducible refine(A1.out _ (HE.out.ext (HX.out.trans HD.out))).mono ?_);rintro e w5⟨rfl,hx⟩);(replace HD:=HD.qt hx);(obtain⟨_,_,_,b3,b4,b5,b6⟩:=ar HB.out HD.out);(obtain⟨q2,q3,_,_⟩:=ah HR.out HD.out);clear hx)
      |fail)
    all_goals (go_wp2_with fail;go_meet;exact⟨rfl,HD.out⟩)
   case rest =>
    obtain⟨rfl,hxw⟩:=hcut;replace HX:=HX.qt hxw;replace HP:=qh (HP.out.ext hxw);replace HR:=qh (HR.out.ext hxw);clear hxw V1 V2 M1 A1 HB;obtain⟨z0,z1,_,_⟩:=ah HR.out (Ext.refl _);obtain⟨c0,c1,d0,d1⟩:=ah HP.out (Ext.refl _);go_wp2_with fail;go_region
    all_goals
     go_wp2_with fail;refine bodyPost_ret (en rfl _ _ (w.heap.size+1) (.string (bs sn)) (.string (bs sd)) (.string (bs sh)) (.string (bs z)) (.int .i64 0) rfl rfl rfl rfl ((HP.out.drew.set_ 0 _).set_ 1 _)) rfl ?_;exact⟨rfl,(HX.out.drew.setCell (p:=⟨w.heap.size+1,0,none⟩) (by show w.heap.size≤w.heap.size+1;omega) _).setCell (p:=⟨w.heap.size+1,1,none⟩) (by show w.heap.size≤w.heap.size+1;omega) _⟩
end
section
open Go.RowKit
attribute [local go_sem] size_bs toList_bs
def dN(o:OptV)(q:Bs):Bs × Bs × Fr × Int:=if dS o≠0∨aq q≠0 then([],[],⟨[],[]⟩,1) else if valI q<0 then([],[],⟨[],[]⟩,2) else da o q
structure TermsB (o:OptV) (q:Bs) (v:Bs × Bs × Fr × Int):Prop where
 a:dS o≠0→v=([],[],⟨[],[]⟩,1)
 b:dS o=0→aq q≠0→v=([],[],⟨[],[]⟩,1)
 c:dS o=0→aq q=0→cmpI (valI q) 0<0→v=([],[],⟨[],[]⟩,2)
 k:dS o=0→aq q=0→¬ cmpI (valI q) 0<0→v=da o q
theorem DZ(o:OptV)(q:Bs):TermsB o q (dN o q):=by
 refine⟨fun h=>?_,fun h k=>?_,fun h k l=>?_,fun h k l=>?_⟩
 ·unfold dN;rw[if_pos (.inl h)]
 ·unfold dN;rw[if_pos (.inr k)]
 ·unfold dN;rw[if_neg (by omega),if_pos (cC.1 l)]
 ·unfold dN;rw[if_neg (by omega),if_neg (fun h=>l (cC.2 h))]
theorem qc{L:Nat}(h0:0<L)(hL:L≤1000)(o:OptV)(q:Bs)(hs:eP L o)(hq:q.length≤L) :
  bc 24 #[ov o,.string (bs q)] (.tuple #[.string (bs (dN o q).1),.string (bs (dN o q).2.1),fv (dN o q).2.2.1,.int .i64 (dN o q).2.2.2]):=by
 intro w hE;have HE:=qh hE;have T:=DZ o q;have T1:=qh T.a;have T2:=qh T.b;have T3:=qh T.c;have T4:=qh T.k
 have hs9:eP 9000 o:=by
  obtain⟨s0,s1,s2,s3,s4,s5,s6⟩:=hs;exact⟨by omega,by omega,by omega,by omega,by omega,by omega,by omega⟩
 have CK:=qh (vW o hs9);have CI:=qh (fun W=>nU q W (by omega));have C0:=qh (gk q (by omega));have TT:=qh (tg h0 hL o q hs hq);clear T hs9 hE hs hq h0 hL;generalize dN o q=v at *;generalize da o q=S at *;generalize dS o=oe at *;generalize aq q=ci at *;generalize cmpI (valI q) 0=si at *;obtain⟨ot,⟨rn,rd⟩,⟨pn,pd⟩,⟨vn,vd⟩⟩:=o;obtain⟨sx,sy,⟨sn,sd⟩,se⟩:=S;dsimp only at TT;have hn1:w.heap.size≠w.heap.size+1:=by omega
 have hn2:w.heap.size+1≠w.heap.size:=by omega
 have hn3:¬ (w.heap.size=w.heap.size+1):=by omega
 have HB:=qh ((Blk.new w 50 #[.string (bs ot),.string (bs rn),.string (bs rd),.string (bs pn),.string (bs pd),.string (bs vn),.string (bs vd)]).alloc (.cells #[.string ⟨#[]⟩,.string ⟨#[]⟩] 26));have HP:=qh (Blk.newAt (w.alloc (.cells #[.string (bs ot),.string (bs rn),.string (bs rd),.string (bs pn),.string (bs pd),.string (bs vn),.string (bs vd)] 50)) 26 #[.string ⟨#[]⟩,.string ⟨#[]⟩] (w.heap.size+1) (by simp));have HX:Hid (Ext w ((w.alloc (.cells #[.string (bs ot),.string (bs rn),.string (bs rd),.string (bs pn),.string (bs pd),.string (bs vn),.string (bs vd)] 50)).alloc (.cells #[.string ⟨#[]⟩,.string ⟨#[]⟩] 26))):=qh ((Ext.new _ _).alloc _);go_enter Tryz.func24,Tryz.ntmps24;go_upto_region 1 with fail;generalize (w.alloc (.cells #[.string (bs ot),.string (bs rn),.string (bs rd),.string (bs pn),.string (bs pd),.string (bs vn),.string (bs vd)] 50)).alloc (.cells #[.string ⟨#[]⟩,.string ⟨#[]⟩] 26)=W0 at *;replace HB:Hid (Blk W0 w.heap.size 50 (oc ⟨ot,⟨rn,rd⟩,⟨pn,pd⟩,⟨vn,vd⟩⟩)):=HB;obtain⟨b0,b1,b2,b3,b4,b5,b6⟩:=ar HB.out (Ext.refl _);go_wp2_with fail;refine(CK.out _ (HE.out.ext HX.out)).mono ?_;rintro e v4⟨rfl,hx1⟩;replace HB:=qh (HB.out.ext hx1);replace HP:=qh (HP.out.ext hx1);replace HX:=HX.qt hx1;clear hx1;clear b0 b1 b2 b3 b4 b5 b6;by_cases y1:oe=0;rotate_left
 ·have g:(oe != 0)=true:=by rw[bne_iff_ne];exact y1
  have e:=T1.out y1;subst e;clear T1 T2 T3 T4;obtain⟨c0,c1,d0,d1⟩:=ah HP.out (Ext.refl _);go_wp2_with fail;refine bodyPost_ret (en rfl _ _ (w.heap.size+1) (.string ⟨#[]⟩) (.string ⟨#[]⟩) (.string ⟨#[]⟩) (.string ⟨#[]⟩) (.int .i64 1) rfl rfl rfl rfl ((HP.out.set_ 0 _).set_ 1 _)) rfl ?_;exact⟨rfl,(HX.out.setCell (p:=⟨w.heap.size+1,0,none⟩) (by show w.heap.size≤w.heap.size+1;omega) _).setCell (p:=⟨w.heap.size+1,1,none⟩) (by show w.heap.size≤w.heap.size+1;omega) _⟩
 subst y1;go_wp2_with fail;refine(CI.out _).mono ?_;rintro e v7⟨rfl,hx1⟩;replace HB:=qh (HB.out.ext hx1);replace HP:=qh (HP.out.ext hx1);replace HX:=HX.qt hx1;clear hx1;by_cases y2:ci=0;rotate_left
 ·have g:(ci != 0)=true:=by rw[bne_iff_ne];exact y2
  have e:=T2.out (by trivial) y2;subst e;clear T1 T2 T3 T4;obtain⟨c0,c1,d0,d1⟩:=ah HP.out (Ext.refl _);go_wp2_with fail;refine bodyPost_ret (en rfl _ _ (w.heap.size+1) (.string ⟨#[]⟩) (.string ⟨#[]⟩) (.string ⟨#[]⟩) (.string ⟨#[]⟩) (.int .i64 1) rfl rfl rfl rfl ((HP.out.set_ 0 _).set_ 1 _)) rfl ?_;exact⟨rfl,(HX.out.setCell (p:=⟨w.heap.size+1,0,none⟩) (by show w.heap.size≤w.heap.size+1;omega) _).setCell (p:=⟨w.heap.size+1,1,none⟩) (by show w.heap.size≤w.heap.size+1;omega) _⟩
 subst y2;go_wp2_with fail;refine(C0.out _ (HE.out.ext HX.out)).mono ?_;rintro e v9⟨rfl,hx1⟩;replace HB:=qh (HB.out.ext hx1);replace HP:=qh (HP.out.ext hx1);replace HX:=HX.qt hx1;clear hx1;by_cases y3:si<0
 ·have g:decide (si<0)=true:=decide_eq_true y3;have e:=T3.out (by trivial) (by trivial) (by omega);subst e;clear T1 T2 T3 T4;obtain⟨c0,c1,d0,d1⟩:=ah HP.out (Ext.refl _);go_wp2_with fail;refine bodyPost_ret (en rfl _ _ (w.heap.size+1) (.string ⟨#[]⟩) (.string ⟨#[]⟩) (.string ⟨#[]⟩) (.string ⟨#[]⟩) (.int .i64 2) rfl rfl rfl rfl ((HP.out.set_ 0 _).set_ 1 _)) rfl ?_;exact⟨rfl,(HX.out.setCell (p:=⟨w.heap.size+1,0,none⟩) (by show w.heap.size≤w.heap.size+1;omega) _).setCell (p:=⟨w.heap.size+1,1,none⟩) (by show w.heap.size≤w.heap.size+1;omega) _⟩
 have g3:decide (si<0)=false:=decide_eq_false y3;have e:=T4.out (by trivial) (by trivial) (by omega);subst e;clear T1 T2 T3 T4 CK CI C0;obtain⟨b0,b1,b2,b3,b4,b5,b6⟩:=ar HB.out (Ext.refl _);go_wp2_with fail;refine(TT.out _ (HE.out.ext HX.out)).mono ?_;rintro e v12⟨rfl,hx1⟩;replace HB:=qh (HB.out.ext hx1);replace HP:=qh (HP.out.ext hx1);replace HX:=HX.qt hx1;clear hx1;clear b0 b1 b2 b3 b4 b5 b6;obtain⟨c0,c1,d0,d1⟩:=ah HP.out (Ext.refl _);go_wp2_with fail;refine bodyPost_ret (en rfl _ _ (w.heap.size+1) (.string (bs sn)) (.string (bs sd)) (.string (bs sx)) (.string (bs sy)) (.int .i64 se) rfl rfl rfl rfl ((HP.out.set_ 0 _).set_ 1 _)) rfl ?_;exact⟨rfl,(HX.out.setCell (p:=⟨w.heap.size+1,0,none⟩) (by show w.heap.size≤w.heap.size+1;omega) _).setCell (p:=⟨w.heap.size+1,1,none⟩) (by show w.heap.size≤w.heap.size+1;omega) _⟩
end
section
open Go.RowKit
attribute [local go_sem] size_bs toList_bs get_bs
theorem Cs(q:Rat):q*((q.den:Int):Rat)=(q.num:Rat):=by
 have hd:(0:Int)<q.den:=by have:=q.den_pos;omega
 have hdR:(0:Rat)<((q.den:Int):Rat):=Rat.intCast_pos.2 hd;have hq:q=(q.num:Rat) / ((q.den:Int):Rat):=by rw[←Rat.divInt_eq_div,Rat.num_divInt_den]
 conv=>lhs;lhs;rw[hq]
 exact Rat.div_mul_cancel (by grind)
theorem Aa(q:Rat):(q-((bB q:Int):Rat))*((q.den:Int):Rat)=((q.num % (q.den:Int):Int):Rat):=by
 have h1:=Int.mul_ediv_add_emod q.num (q.den:Int);have h2:=Cs q
 have h3:(q.num:Rat)=((q.den:Int):Rat)*((bB q:Int):Rat)+((q.num % (q.den:Int):Int):Rat):=by
  rw[←Rat.intCast_mul,←Rat.intCast_add];unfold bB;rw[h1]
 rw[h3]at h2;generalize ((q.num % (q.den:Int):Int):Rat)=re at *;generalize ((bB q:Int):Rat)=lo at *;generalize ((q.den:Int):Rat)=d at *;grind
end
section
open Go.RowKit
attribute [local go_sem] size_bs toList_bs
theorem Ab(x:Rat):cD (bz x) [49]=cj x:=by
 unfold cD;rw[fE,show valI [49]=1 by decide +kernel];simp
theorem xS(o:OptV)(q:Bs)(r:Fr):fy o q r=ofI (cD o.p q+cj (aj r*aj o.v)):=by
 unfold fy;rw[Ab]
end
section
open Go.RowKit
attribute [local go_sem] size_bs toList_bs
theorem kz{o:OptV}(h:dS o=0):(o.other=[]∨ax o.other=true)∧bR o.r=0∧bR o.p=0∧bR o.v=0∧bP o=false:=by
 have t:=mQ o;rw[h]at t
 have g:o.other=[]∨ax o.other=true:=by
  by_cases a:o.other=[]
  ·exact .inl a
  ·cases b:ax o.other
   ·exact absurd (t.n a b) (by decide)
   ·exact .inr rfl
 have e1:bR o.r=0:=by
  by_cases a:bR o.r=0
  ·exact a
  ·exact(t.r g a).symm
 have e2:bR o.p=0:=by
  by_cases a:bR o.p=0
  ·exact a
  ·exact(t.p g e1 a).symm
 have e3:bR o.v=0:=by
  by_cases a:bR o.v=0
  ·exact a
  ·exact(t.v g e1 e2 a).symm
 refine⟨g,e1,e2,e3,?_⟩
 cases b:bP o
 ·rfl
 ·exact absurd (t.b g e1 e2 e3 b) (by decide)
theorem jx{f:Fr}(h:bR f=0):aK f=0∧be f.num≤40∧be f.den≤40∧0≤aj f∧bz (aj f)=f:=by
 have t:=zF f;rw[h]at t
 have e1:aK f=0:=by
  by_cases a:aK f=0
  ·exact a
  ·exact absurd (t.c a) (by decide)
 have e2:¬ (40<be f.num∨40<be f.den):=fun a=>absurd (t.d e1 a) (by decide)
 have e3:¬ bN (aj f) 0<0:=fun a=>absurd (t.s e1 (by omega) (by omega) a) (by decide)
 refine⟨e1,by omega,by omega,?_,?_⟩
 ·rw[om]at e3;exact Rat.not_lt.1 e3
 ·by_cases a:bz (aj f)=f
  ·exact a
  ·exfalso
   have:aK f=1:=by unfold aK;rw[if_neg (fun k=>a (vS.2 k))]
   omega
theorem th{o:OptV}{q:Bs}(h:dS o=0)(hq:aq q=0)(hn:¬ valI q<0):da o q=((bt o q).1,fy o q (bt o q).2.1,(bt o q).2.1,0):=by
 obtain⟨g,e1,_,_,eb⟩:=kz h;obtain⟨c1,_,_,p1,k1⟩:=jx e1
 have key:(bt o q).2.2=0:=by
  unfold bt;split
  ·rfl
  ·rename_i hne
   have hz:aj o.r≠0:=by
    intro hz;rw[hz,ma]at k1;unfold bP at eb;rw[if_neg hne,←k1]at eb;exact absurd eb (by decide)
   have:¬ aj o.r≤0:=fun hle=>hz (Rat.le_antisymm hle p1)
   have e:dF q o.r=0:=by
    unfold dF;rw[if_neg (by omega),if_neg];rintro(a|a)
    ·exact hn a
    ·exact this a
   unfold cw;rw[if_pos e]
 unfold da;rw[if_pos key]
end
section
open Go.RowKit
attribute [local go_sem] size_bs toList_bs
def D0(o:OptV):Rat:=aj o.r*aj o.v+aj o.p
end
section
open Go.RowKit Go.Shelf
attribute [local go_sem] size_bs toList_bs
def fX(o:OptV):List Value:=[.string (bs o.other),.string (bs o.r.num),.string (bs o.r.den),.string (bs o.p.num),.string (bs o.p.den),.string (bs o.v.num),.string (bs o.v.den)]
theorem kA(x:OptV):(fX x).length=7:=rfl
def k9(w:World)(A:Option Addr)(os:List OptV):Prop:=Reads w 7 A os.length (os.flatMap fX)
theorem k9.ext{w w':World}{A:Option Addr}{os:List OptV}(h:k9 w A os)(he:Ext w w'):k9 w' A os:=Reads.ext h he
theorem k9.at_{w:World}{A:Option Addr}{os:List OptV}(h:k9 w A os){k:Nat}(hk:k<os.length) :
  ∃b o,A=some ⟨b,o,none⟩∧b<w.heap.size∧w.cell? ⟨b,o+k*7,none⟩=some (.string (bs (os[k]'hk).other))∧w.cell? ⟨b,o+k*7+1,none⟩=some (.string (bs (os[k]'hk).r.num))∧w.cell? ⟨b,o+k*7+2,none⟩=some (.string (bs (os[k]'hk).r.den))∧w.cell? ⟨b,o+k*7+3,none⟩=some (.string (bs (os[k]'hk).p.num)) ∧
    w.cell? ⟨b,o+k*7+4,none⟩=some (.string (bs (os[k]'hk).p.den))∧w.cell? ⟨b,o+k*7+5,none⟩=some (.string (bs (os[k]'hk).v.num))∧w.cell? ⟨b,o+k*7+6,none⟩=some (.string (bs (os[k]'hk).v.den)):=by
 obtain⟨b,o,rfl,hb⟩:=Reads.at_ h (by omega)
 have key:∀j (_:j<7),w.cell? ⟨b,o+k*7+j,none⟩=(fX (os[k]'hk))[j]? := fun j hj=>by
  have h1:=lJ fX 7 kA os k j hk hj;have hl:j<(fX (os[k]'hk)).length:=by rw[kA];exact hj
  rw[List.getElem?_eq_getElem hl]at h1 ⊢;have h2:=Reads.cell h h1;rw[←Nat.add_assoc]at h2;exact h2
 exact⟨b,o,rfl,hb,key 0 (by decide),key 1 (by decide),key 2 (by decide),key 3 (by decide),key 4 (by decide),key 5 (by decide),key 6 (by decide)⟩
def wq(os:List OptV)(k:Nat):Rat:=match os[k]? with|some o=>D0 o|none=>0
end
section
open Go.RowKit
attribute [local go_sem] size_bs toList_bs
theorem rQ(A:Option Addr)(n c:Nat)(w:World):Calls Tryz.prog 148 #[.slice A n c,.slice none 0 0] w fun e w'=>e = .returned (.bool (decide (n=0)))∧Ext w w':=by
 go_enter Tryz.func148,Tryz.ntmps148;by_cases h:n=0
 ·subst h;go_wp2_with fail;refine wp_loop_rounds 1 ?_;rw[rounds_succ];go_wp2_with fail;go_ret;exact⟨rfl,Ext.refl _⟩
 ·have g:((n:Int) != 0)=true:=by rw[bne_iff_ne];omega
  rw[decide_eq_false h];clear h;go_wp2_with fail;go_ret;exact⟨rfl,Ext.refl _⟩
theorem wk(A:Option Addr)(n c:Nat)(w:World):Calls Tryz.prog 149 #[.slice A n c,.slice none 0 0] w fun e w'=>e = .returned (.bool (decide (n=0)))∧Ext w w':=by
 go_enter Tryz.func149,Tryz.ntmps149;by_cases h:n=0
 ·subst h;go_wp2_with fail;refine wp_loop_rounds 1 ?_;rw[rounds_succ];go_wp2_with fail;go_ret;exact⟨rfl,Ext.refl _⟩
 ·have g:((n:Int) != 0)=true:=by rw[bne_iff_ne];omega
  rw[decide_eq_false h];clear h;go_wp2_with fail;go_ret;exact⟨rfl,Ext.refl _⟩
def bj(day kind choice:Int)(ins other cur tgt qty amt fee pn pd rn rd sn sd:Bs)(n m:Nat):Bool:=decide (day=0) && decide (kind=0) && ins.isEmpty && other.isEmpty && cur.isEmpty && tgt.isEmpty && qty.isEmpty && amt.isEmpty && fee.isEmpty && pn.isEmpty && pd.isEmpty && rn.isEmpty && rd.isEmpty && sn.isEmpty && sd.isEmpty && decide (n=0) && decide (m=0) && decide (choice=0)
section
variable (key:Bs) (stamp:Int)
abbrev cT(key:Bs)(stamp:Int):Array Value:=#[.string (bs key),.int .i64 stamp,.bool true,.int .i64 0,.int .i64 0,.string ⟨#[]⟩,.string ⟨#[]⟩,.string ⟨#[]⟩,.string ⟨#[]⟩,.string ⟨#[]⟩,.string ⟨#[]⟩,.string ⟨#[]⟩,.string ⟨#[]⟩,.string ⟨#[]⟩,.string ⟨#[]⟩,.string ⟨#[]⟩,.string ⟨#[]⟩,.string ⟨#[]⟩,.slice none 0 0,.slice none 0 0,.int .i64 0]
theorem dW{w w':World}{g:Nat}{key:Bs}{stamp:Int}(h:Blk w g 30 (cT key stamp))(hx:Ext w w') :
  w'.cell? ⟨g,0,none⟩=some (.string (bs key))∧w'.cell? ⟨g,1,none⟩=some (.int .i64 stamp)∧w'.cell? ⟨g,2,none⟩=some (.bool true)∧w'.cell? ⟨g,3,none⟩=some (.int .i64 0)∧w'.cell? ⟨g,4,none⟩=some (.int .i64 0)∧w'.cell? ⟨g,5,none⟩=some (.string ⟨#[]⟩)∧w'.cell? ⟨g,6,none⟩=some (.string ⟨#[]⟩)∧w'.cell? ⟨g,7,none⟩=some (.string ⟨#[]⟩)∧w'.cell? ⟨g,8,none⟩=some (.string ⟨#[]⟩)∧w'.cell? ⟨g,9,none⟩=some (.string ⟨#[]⟩)∧w'.cell? ⟨g,10,none⟩=some (.string ⟨#[]⟩)∧w'.cell? ⟨g,11,none⟩=some (.string ⟨#[]⟩)∧w'.cell? ⟨g,12,none⟩=some (.string ⟨#[]⟩)∧w'.cell? ⟨g,13,none⟩=some (.string ⟨#[]⟩)∧w'.cell? ⟨g,14,none⟩=some (.string ⟨#[]⟩)∧w'.cell? ⟨g,15,none⟩=some (.string ⟨#[]⟩)∧w'.cell? ⟨g,16,none⟩=some (.string ⟨#[]⟩)∧w'.cell? ⟨g,17,none⟩=some (.string ⟨#[]⟩)∧w'.cell? ⟨g,18,none⟩=some (.slice none 0 0)∧w'.cell? ⟨g,19,none⟩=some (.slice none 0 0)∧w'.cell? ⟨g,20,none⟩=some (.int .i64 0):=by
 have k:=h.ext hx;exact⟨k.cell 0,k.cell 1,k.cell 2,k.cell 3,k.cell 4,k.cell 5,k.cell 6,k.cell 7,k.cell 8,k.cell 9,k.cell 10,k.cell 11,k.cell 12,k.cell 13,k.cell 14,k.cell 15,k.cell 16,k.cell 17,k.cell 18,k.cell 19,k.cell 20⟩
theorem c21{w w':World}{g:Nat}{t:TypeId}{a0 a1 a2 a3 a4 a5 a6 a7 a8 a9 a10 a11 a12 a13 a14 a15 a16 a17 a18 a19 a20:Value}(h:Blk w g t #[a0,a1,a2,a3,a4,a5,a6,a7,a8,a9,a10,a11,a12,a13,a14,a15,a16,a17,a18,a19,a20])(hx:Ext w w') :
  w'.cell? ⟨g,0,none⟩=some a0∧w'.cell? ⟨g,1,none⟩=some a1∧w'.cell? ⟨g,2,none⟩=some a2∧w'.cell? ⟨g,3,none⟩=some a3∧w'.cell? ⟨g,4,none⟩=some a4∧w'.cell? ⟨g,5,none⟩=some a5∧w'.cell? ⟨g,6,none⟩=some a6∧w'.cell? ⟨g,7,none⟩=some a7∧w'.cell? ⟨g,8,none⟩=some a8∧w'.cell? ⟨g,9,none⟩=some a9∧w'.cell? ⟨g,10,none⟩=some a10∧w'.cell? ⟨g,11,none⟩=some a11∧w'.cell? ⟨g,12,none⟩=some a12∧w'.cell? ⟨g,13,none⟩=some a13∧w'.cell? ⟨g,14,none⟩=some a14∧w'.cell? ⟨g,15,none⟩=some a15∧w'.cell? ⟨g,16,none⟩=some a16∧w'.cell? ⟨g,17,none⟩=some a17∧w'.cell? ⟨g,18,none⟩=some a18∧w'.cell? ⟨g,19,none⟩=some a19∧w'.cell? ⟨g,20,none⟩=some a20:=by
 have k:=h.ext hx;exact⟨k.cell 0,k.cell 1,k.cell 2,k.cell 3,k.cell 4,k.cell 5,k.cell 6,k.cell 7,k.cell 8,k.cell 9,k.cell 10,k.cell 11,k.cell 12,k.cell 13,k.cell 14,k.cell 15,k.cell 16,k.cell 17,k.cell 18,k.cell 19,k.cell 20⟩
theorem dX(key:Bs)(stamp:Int)(w:World)(F:Array Value):Hid (Blk ((w.alloc (.cells F 30)).alloc (.cells (cT key stamp) 30)) w.heap.size 30 F)∧Hid (Blk ((w.alloc (.cells F 30)).alloc (.cells (cT key stamp) 30)) (w.heap.size+1) 30 (cT key stamp))∧Hid (Ext w ((w.alloc (.cells F 30)).alloc (.cells (cT key stamp) 30))) :=
 ⟨(Blk.new w _ F).alloc _,Blk.newAt _ _ _ _ (by simp),(Ext.new _ _).alloc _⟩
end
end
end Go.Proofs.YthgpheopnhajaaaGreatDoor
