/- The seat's texts, part U17. -/
import Derived.Test.YthgpheopnhajaaaGreatDoorU13
import Derived.Test.YthgpheopnhajaaaGreatDoorU14
import Derived.Test.YthgpheopnhajaaaGreatDoorU16
import Derived.Lib.ParseIntB
set_option maxRecDepth 100000
set_option maxHeartbeats 8000000
namespace Go.Proofs.YthgpheopnhajaaaGreatDoor
section
open Go.RowKit
attribute [local go_sem] size_bs toList_bs
def BoxAtP (W:World) (r:Fr) (p:Value) (wx:World):Prop:=∃ P,p = .pointer (some ⟨P,0,none⟩)∧Blk wx P 26 #[.string (bs r.num),.string (bs r.den)]∧Ext W wx
theorem flr_len {q:Rat} {L:Nat} (h:QB L q):(ofI (floorQ q)).length≤L+1:=by
 refine ofI_lt10 (Nat.lt_of_le_of_lt ?_ h.1)
 exact Int.natAbs_ediv_le_natAbs _ _
theorem flr_qb {q:Rat} {L:Nat} (h:QB L q):QB L ((floorQ q:Int):Rat) :=
 qb_int h.pos (Nat.lt_of_le_of_lt (Int.natAbs_ediv_le_natAbs _ _) h.1)
theorem whole_len {L:Nat} (h0:0<L) {f:Fr} (h1:f.num.length≤L) (h2:f.den.length≤L):(ofI (floorQ (frQ f))).length≤L+1∧(ofQ ((floorQ (frQ f):Int):Rat)).num.length≤L+1∧(ofQ ((floorQ (frQ f):Int):Rat)).den.length≤L+1:=by
 have q:=frQ_qb h1 h2 h0
 have k:=flr_qb q
 exact ⟨flr_len q,k.num_len,k.den_len⟩
theorem lmWhole {L:Nat} (h0:0<L) (hL:L≤18900) (f:Fr) (h1:f.num.length≤L) (h2:f.den.length≤L) :
  Pure 174 #[fv f] (.tuple #[.string (bs (ofI (floorQ (frQ f)))),fv (ofQ (frQ f-((floorQ (frQ f):Int):Rat)))]):=by
 intro w hE
 have HE:=Lib.hid hE
 obtain ⟨l1,l2,l3⟩:=whole_len h0 h1 h2
 have s:=fracSub f (ofQ ((floorQ (frQ f):Int):Rat)) (by omega) (by omega) (by omega) (by omega)
 rw [frQ_ofQ] at s
 have o:=fracOf (ofI (floorQ (frQ f))) (by omega)
 rw [valI_ofI] at o
 have FL:=Lib.hid (fracFloorP f (by omega) (by omega))
 have S1:=Lib.hid s
 have O1:=Lib.hid o
 generalize ofQ (frQ f-((floorQ (frQ f):Int):Rat))=r at *
 generalize ofQ ((floorQ (frQ f):Int):Rat)=fq at *
 generalize ofI (floorQ (frQ f))=z at *
 obtain ⟨n1,e1⟩:=f
 clear s o l1 l2 l3 hE h1 h2 h0 hL
 have hn1:w.heap.size≠w.heap.size+1:=by omega
 have hn2:w.heap.size+1≠w.heap.size:=by omega
 have hn3:¬ (w.heap.size=w.heap.size+1):=by omega
 have HB:=Lib.hid ((Blk.new w 26 #[.string (bs n1),.string (bs e1)]).alloc (.cells #[.string ⟨#[]⟩,.string ⟨#[]⟩] 26))
 have HP:=Lib.hid (Blk.newAt (w.alloc (.cells #[.string (bs n1),.string (bs e1)] 26)) 26 #[.string ⟨#[]⟩,.string ⟨#[]⟩] (w.heap.size+1) (by simp))
 have HX:Hid (Ext w ((w.alloc (.cells #[.string (bs n1),.string (bs e1)] 26)).alloc (.cells #[.string ⟨#[]⟩,.string ⟨#[]⟩] 26))):=Lib.hid ((Ext.new _ _).alloc _)
 go_enter Tryz.func174,Tryz.ntmps174
 go_wp2_with fail
 generalize (w.alloc (.cells #[.string (bs n1),.string (bs e1)] 26)).alloc (.cells #[.string ⟨#[]⟩,.string ⟨#[]⟩] 26)=W0 at *
 go_wp2_with fail
 refine (FL.out _ (HE.out.ext HX.out)).mono ?_
 rintro e W1 ⟨rfl,hx1⟩
 replace HB:=Lib.hid (HB.out.ext hx1)
 replace HP:=Lib.hid (HP.out.ext hx1)
 replace HX:=Lib.hid (HX.out.trans hx1)
 clear hx1
 go_wp2_with fail
 obtain ⟨a0,a1,_,_⟩:=frBlk HB.out (Ext.refl _)
 obtain ⟨c0,c1,d0,d1⟩:=frBlk HP.out (Ext.refl _)
 have HD:Hid (Ext W1 W1.drew):=Lib.hid (Ext.refl W1).drew
 clear FL
 go_region_held3 (fun w'=>w'.cell? ⟨w.heap.size,0,none⟩=some (.string (bs n1))∧w'.cell? ⟨w.heap.size,1,none⟩=some (.string (bs e1)))
  (go_keep)
  (first
   |(go_at_call 36;((with_reducible refine (O1.out _ (HE.out.ext (HX.out.trans HD.out))).mono ?_);rintro e w5 ⟨rfl,hx⟩);(replace HD:=Lib.hid (HD.out.trans hx));(obtain ⟨a2,a3,_,_⟩:=frBlk HB.out HD.out);(obtain ⟨c2,c3,d2,d3⟩:=frBlk HP.out HD.out);clear hx)
   |(go_at_call 97;((with_reducible refine (S1.out _ (HE.out.ext (HX.out.trans HD.out))).mono ?_);rintro e w5 ⟨rfl,hx⟩);(replace HD:=Lib.hid (HD.out.trans hx));(obtain ⟨a2,a3,_,_⟩:=frBlk HB.out HD.out);(obtain ⟨c2,c3,d2,d3⟩:=frBlk HP.out HD.out);clear hx)
   |fail)
 all_goals
  go_wp2_with fail
  refine bodyPost_ret (results_tf rfl _ _ (w.heap.size+1) (.string (bs r.num)) (.string (bs r.den)) (.string (bs z)) rfl rfl (((HP.out.ext HD.out).set_ 0 _).set_ 1 _)) rfl ?_
  exact ⟨rfl,((HX.out.trans HD.out).setCell (p:=⟨w.heap.size+1,0,none⟩) (by show w.heap.size≤w.heap.size+1;omega) _).setCell (p:=⟨w.heap.size+1,1,none⟩) (by show w.heap.size≤w.heap.size+1;omega) _⟩
theorem cmpQ_le {p q:Rat}:cmpQ p q≤0↔p≤q:=by
 rw [← Int.not_lt,cmpQ_pos,Rat.not_lt]
def partsE (q:Bs) (f:Fr):Int:=if checkI q≠0∨checkF f≠0 then 1 else if valI q<0∨frQ f≤0 then 2 else 0
def partsP (q:Bs) (f:Fr):Rat:=((valI q:Int):Rat)*frQ f
def partsW (q:Bs) (f:Fr):Bs:=ofI (floorQ (partsP q f))
def partsR (q:Bs) (f:Fr):Fr:=ofQ (partsP q f-((floorQ (partsP q f):Int):Rat))
def partsV (q:Bs) (f:Fr):Bs × Fr × Int:=if partsE q f=0 then (partsW q f,partsR q f,0) else ([],⟨[],[]⟩,partsE q f)
structure PartsT (q:Bs) (f:Fr) (v:Bs × Fr × Int):Prop where
 c1:checkI q≠0→v=([],⟨[],[]⟩,1)
 c2:checkI q=0→checkF f≠0→v=([],⟨[],[]⟩,1)
 s1:checkI q=0→checkF f=0→cmpI (valI q) 0<0→v=([],⟨[],[]⟩,2)
 s2:checkI q=0→checkF f=0→¬ cmpI (valI q) 0<0→cmpQ (frQ f) 0≤0→v=([],⟨[],[]⟩,2)
 k:checkI q=0→checkF f=0→¬ cmpI (valI q) 0<0→¬ cmpQ (frQ f) 0≤0→v=(partsW q f,partsR q f,0)
theorem partsT (q:Bs) (f:Fr):PartsT q f (partsV q f):=by
 refine ⟨fun h=>?_,fun h k=>?_,fun h k l=>?_,fun h k l m=>?_,fun h k l m=>?_⟩
 ·have:partsE q f=1:=by unfold partsE;rw [if_pos (.inl h)]
  unfold partsV;rw [this,if_neg (by decide)]
 ·have:partsE q f=1:=by unfold partsE;rw [if_pos (.inr k)]
  unfold partsV;rw [this,if_neg (by decide)]
 ·have:partsE q f=2:=by unfold partsE;rw [if_neg (by omega),if_pos (.inl (cmpI_neg.1 l))]
  unfold partsV;rw [this,if_neg (by decide)]
 ·have:partsE q f=2:=by unfold partsE;rw [if_neg (by omega),if_pos (.inr (cmpQ_le.1 m))]
  unfold partsV;rw [this,if_neg (by decide)]
 ·have:partsE q f=0:=by
   unfold partsE
   rw [if_neg (by omega),if_neg]
   rintro (a | a)
   ·exact l (cmpI_neg.2 a)
   ·exact m (cmpQ_le.2 a)
  unfold partsV;rw [this,if_pos rfl]
theorem lmParts {L:Nat} (h0:0<L) (hL:L≤9000) (q:Bs) (f:Fr) (hq:q.length≤L) (h1:f.num.length≤L) (h2:f.den.length≤L) :
  Pure 107 #[.string (bs q),fv f] (.tuple #[.string (bs (partsV q f).1),fv (partsV q f).2.1,.int .i64 (partsV q f).2.2]):=by
 intro w hE
 have HE:=Lib.hid hE
 have qq:=qb_int h0 (valI_lt10 hq)
 have qp:QB (L+L) (partsP q f):=qq.mul (frQ_qb h1 h2 h0)
 have l1:=qq.num_len
 have l2:=qq.den_len
 have l3:=qp.num_len
 have l4:=qp.den_len
 have m:=fracMul (ofQ ((valI q:Int):Rat)) f (by omega) (by omega) (by omega) (by omega)
 rw [frQ_ofQ,show ((valI q:Int):Rat)*frQ f=partsP q f from rfl] at m
 have r:=lmWhole (L:=L+L+1) (by omega) (by omega) (ofQ (partsP q f)) l3 l4
 rw [frQ_ofQ,show ofI (floorQ (partsP q f))=partsW q f from rfl,show ofQ (partsP q f-((floorQ (partsP q f):Int):Rat))=partsR q f from rfl] at r
 have CI:=Lib.hid (fun W=>intCheck q W (by omega))
 have CF:=Lib.hid (fracCheckP f (by omega) (by omega))
 have C0:=Lib.hid (cmp0P q (by omega))
 have SG:=Lib.hid (lmSign f (by omega) (by omega))
 have O1:=Lib.hid (fracOf q (by omega))
 have M1:=Lib.hid m
 have R1:=Lib.hid r
 have T1:=Lib.hid (partsT q f).c1
 have T2:=Lib.hid (partsT q f).c2
 have T3:=Lib.hid (partsT q f).s1
 have T4:=Lib.hid (partsT q f).s2
 have T5:=Lib.hid (partsT q f).k
 generalize partsV q f=v at *
 generalize partsW q f=z at *
 generalize partsR q f=rr at *
 generalize ofQ (partsP q f)=fp at *
 generalize ofQ ((valI q:Int):Rat)=fq at *
 generalize checkI q=ci at *
 generalize checkF f=cf at *
 generalize cmpI (valI q) 0=si at *
 generalize cmpQ (frQ f) 0=sf at *
 obtain ⟨n1,e1⟩:=f
 clear m r qq qp l1 l2 l3 l4 hE h1 h2 hq h0 hL
 have hn1:w.heap.size≠w.heap.size+1:=by omega
 have hn2:w.heap.size+1≠w.heap.size:=by omega
 have hn3:¬ (w.heap.size=w.heap.size+1):=by omega
 have HB:=Lib.hid ((Blk.new w 26 #[.string (bs n1),.string (bs e1)]).alloc (.cells #[.string ⟨#[]⟩,.string ⟨#[]⟩] 26))
 have HP:=Lib.hid (Blk.newAt (w.alloc (.cells #[.string (bs n1),.string (bs e1)] 26)) 26 #[.string ⟨#[]⟩,.string ⟨#[]⟩] (w.heap.size+1) (by simp))
 have HX:Hid (Ext w ((w.alloc (.cells #[.string (bs n1),.string (bs e1)] 26)).alloc (.cells #[.string ⟨#[]⟩,.string ⟨#[]⟩] 26))):=Lib.hid ((Ext.new _ _).alloc _)
 go_enter Tryz.func107,Tryz.ntmps107
 go_wp2_with fail
 generalize (w.alloc (.cells #[.string (bs n1),.string (bs e1)] 26)).alloc (.cells #[.string ⟨#[]⟩,.string ⟨#[]⟩] 26)=W0 at *
 obtain ⟨a0,a1,_,_⟩:=frBlk HB.out (Ext.refl _)
 go_wp2_with fail
 refine (CI.out _).mono ?_
 rintro e v8 ⟨rfl,hx1⟩
 replace HB:=Lib.hid (HB.out.ext hx1)
 replace HP:=Lib.hid (HP.out.ext hx1)
 replace HX:=Lib.hid (HX.out.trans hx1)
 clear hx1
 by_cases y1:ci=0
 rotate_left
 ·have g:(ci != 0)=true:=by rw [bne_iff_ne];exact y1
  have e:=T1.out y1
  subst e
  clear T1 T2 T3 T4 T5
  clear a0 a1
  obtain ⟨c0,c1,d0,d1⟩:=frBlk HP.out (Ext.refl _)
  go_wp2_with fail
  refine bodyPost_ret (results_tft rfl _ _ (w.heap.size+1) (.string ⟨#[]⟩) (.string ⟨#[]⟩) (.string ⟨#[]⟩) (.int .i64 1) rfl rfl rfl ((HP.out.set_ 0 _).set_ 1 _)) rfl ?_
  exact ⟨rfl,(HX.out.setCell (p:=⟨w.heap.size+1,0,none⟩) (by show w.heap.size≤w.heap.size+1;omega) _).setCell (p:=⟨w.heap.size+1,1,none⟩) (by show w.heap.size≤w.heap.size+1;omega) _⟩
 subst y1
 clear a0 a1
 obtain ⟨a0,a1,_,_⟩:=frBlk HB.out (Ext.refl _)
 go_wp2_with fail
 refine (CF.out _ (HE.out.ext HX.out)).mono ?_
 rintro e v10 ⟨rfl,hx1⟩
 replace HB:=Lib.hid (HB.out.ext hx1)
 replace HP:=Lib.hid (HP.out.ext hx1)
 replace HX:=Lib.hid (HX.out.trans hx1)
 clear hx1
 by_cases y2:cf=0
 rotate_left
 ·have g:(cf != 0)=true:=by rw [bne_iff_ne];exact y2
  have e:=T2.out (by trivial) y2
  subst e
  clear T1 T2 T3 T4 T5
  clear a0 a1
  obtain ⟨c0,c1,d0,d1⟩:=frBlk HP.out (Ext.refl _)
  go_wp2_with fail
  refine bodyPost_ret (results_tft rfl _ _ (w.heap.size+1) (.string ⟨#[]⟩) (.string ⟨#[]⟩) (.string ⟨#[]⟩) (.int .i64 1) rfl rfl rfl ((HP.out.set_ 0 _).set_ 1 _)) rfl ?_
  exact ⟨rfl,(HX.out.setCell (p:=⟨w.heap.size+1,0,none⟩) (by show w.heap.size≤w.heap.size+1;omega) _).setCell (p:=⟨w.heap.size+1,1,none⟩) (by show w.heap.size≤w.heap.size+1;omega) _⟩
 subst y2
 clear a0 a1
 obtain ⟨a0,a1,_,_⟩:=frBlk HB.out (Ext.refl _)
 go_wp2_with fail
 refine (C0.out _ (HE.out.ext HX.out)).mono ?_
 rintro e v12 ⟨rfl,hx1⟩
 replace HB:=Lib.hid (HB.out.ext hx1)
 replace HP:=Lib.hid (HP.out.ext hx1)
 replace HX:=Lib.hid (HX.out.trans hx1)
 clear hx1
 by_cases y3:si<0
 ·have g:decide (si<0)=true:=decide_eq_true y3
  have e:=T3.out (by trivial) (by trivial) (by omega)
  subst e
  clear T1 T2 T3 T4 T5
  clear a0 a1
  obtain ⟨c0,c1,d0,d1⟩:=frBlk HP.out (Ext.refl _)
  go_wp2_with fail
  refine bodyPost_ret (results_tft rfl _ _ (w.heap.size+1) (.string ⟨#[]⟩) (.string ⟨#[]⟩) (.string ⟨#[]⟩) (.int .i64 2) rfl rfl rfl ((HP.out.set_ 0 _).set_ 1 _)) rfl ?_
  exact ⟨rfl,(HX.out.setCell (p:=⟨w.heap.size+1,0,none⟩) (by show w.heap.size≤w.heap.size+1;omega) _).setCell (p:=⟨w.heap.size+1,1,none⟩) (by show w.heap.size≤w.heap.size+1;omega) _⟩
 have g3:decide (si<0)=false:=decide_eq_false y3
 clear a0 a1
 obtain ⟨a0,a1,_,_⟩:=frBlk HB.out (Ext.refl _)
 go_wp2_with fail
 refine (SG.out _ (HE.out.ext HX.out)).mono ?_
 rintro e W ⟨rfl,hx1⟩
 replace HB:=Lib.hid (HB.out.ext hx1)
 replace HP:=Lib.hid (HP.out.ext hx1)
 replace HX:=Lib.hid (HX.out.trans hx1)
 clear hx1
 by_cases y4:sf≤0
 ·have g:decide (sf≤0)=true:=decide_eq_true y4
  have e:=T4.out (by trivial) (by trivial) (by omega) (by omega)
  subst e
  clear T1 T2 T3 T4 T5
  clear a0 a1
  obtain ⟨c0,c1,d0,d1⟩:=frBlk HP.out (Ext.refl _)
  go_wp2_with fail
  refine bodyPost_ret (results_tft rfl _ _ (w.heap.size+1) (.string ⟨#[]⟩) (.string ⟨#[]⟩) (.string ⟨#[]⟩) (.int .i64 2) rfl rfl rfl ((HP.out.set_ 0 _).set_ 1 _)) rfl ?_
  exact ⟨rfl,(HX.out.setCell (p:=⟨w.heap.size+1,0,none⟩) (by show w.heap.size≤w.heap.size+1;omega) _).setCell (p:=⟨w.heap.size+1,1,none⟩) (by show w.heap.size≤w.heap.size+1;omega) _⟩
 have g4:decide (sf≤0)=false:=decide_eq_false y4
 have e:=T5.out (by trivial) (by trivial) (by omega) (by omega)
 subst e
 clear T1 T2 T3 T4 T5 CI CF C0 SG a0 a1
 go_upto_region 5 with fail
 go_cut [7,8] (fun p7 p8 wx=>p7 = .string (bs z)∧BoxAtP W rr p8 wx)
 case first =>
  obtain ⟨q0,q1,_,_⟩:=frBlk HB.out (Ext.refl W)
  have HD:Hid (Ext W W.drew):=Lib.hid (Ext.refl W).drew
  have HBP:=Lib.hid (HB.out.drew)
  go_region_held3 (fun w'=>w'.cell? ⟨w.heap.size,0,none⟩=some (.string (bs n1))∧w'.cell? ⟨w.heap.size,1,none⟩=some (.string (bs e1)))
   (go_keep)
   (first
    |(go_at_call 36;((with_reducible refine (O1.out _ (HE.out.ext (HX.out.trans HD.out))).mono ?_);rintro e w5 ⟨rfl,hx⟩);(replace HD:=Lib.hid (HD.out.trans hx));(obtain ⟨q2,q3,_,_⟩:=frBlk HB.out HD.out);(replace HBP:=Lib.hid (HBP.out.ext hx));(obtain ⟨p0,p1,p2,p3⟩:=frBlk HBP.out (Ext.refl _));(have hq5:=Nat.ne_of_lt (HB.out.ext HD.out).lt);(have hq6:=Nat.ne_of_gt (HB.out.ext HD.out).lt);clear hx)
    |(go_at_call 36;((with_reducible refine (O1.out _ (HE.out.ext (HX.out.trans (HD.out.alloc _)))).mono ?_);rintro e w5 ⟨rfl,hx⟩);(have HLE:=Lib.hid HD.out.size);(have hpq:=Nat.ne_of_lt (Nat.lt_of_lt_of_le HB.out.lt HLE.out));(have hqp:=Nat.ne_of_gt (Nat.lt_of_lt_of_le HB.out.lt HLE.out));(have HBP:=Lib.hid ((Blk.new _ _ _).ext hx));(replace HD:=Lib.hid ((HD.out.alloc _).trans hx));(obtain ⟨q2,q3,_,_⟩:=frBlk HB.out HD.out);(obtain ⟨p0,p1,p2,p3⟩:=frBlk HBP.out (Ext.refl _));(have hq5:=Nat.ne_of_lt (HB.out.ext HD.out).lt);(have hq6:=Nat.ne_of_gt (HB.out.ext HD.out).lt);clear hx)
    |(go_at_call 36;((with_reducible refine (O1.out _ (HE.out.ext (HX.out.trans ((Ext.new _ _).drew)))).mono ?_);rintro e w5 ⟨rfl,hx⟩);(have HLE:=Lib.hid (Nat.le_refl W.heap.size));(have hpq:=Nat.ne_of_lt (Nat.lt_of_lt_of_le HB.out.lt HLE.out));(have hqp:=Nat.ne_of_gt (Nat.lt_of_lt_of_le HB.out.lt HLE.out));(have HBP:=Lib.hid (((Blk.new _ _ _).drew).ext hx));(replace HD:=Lib.hid (((Ext.new W _).drew).trans hx));(obtain ⟨q2,q3,_,_⟩:=frBlk HB.out HD.out);(obtain ⟨p0,p1,p2,p3⟩:=frBlk HBP.out (Ext.refl _));(have hq5:=Nat.ne_of_lt (HB.out.ext HD.out).lt);(have hq6:=Nat.ne_of_gt (HB.out.ext HD.out).lt);clear hx)
    |(go_at_call 38;((with_reducible refine (M1.out _ (HE.out.ext (HX.out.trans HD.out))).mono ?_);rintro e w5 ⟨rfl,hx⟩);(replace HD:=Lib.hid (HD.out.trans hx));(obtain ⟨q2,q3,_,_⟩:=frBlk HB.out HD.out);(replace HBP:=Lib.hid (HBP.out.ext hx));(obtain ⟨p0,p1,p2,p3⟩:=frBlk HBP.out (Ext.refl _));(have hq5:=Nat.ne_of_lt (HB.out.ext HD.out).lt);(have hq6:=Nat.ne_of_gt (HB.out.ext HD.out).lt);clear hx)
    |(go_at_call 38;((with_reducible refine (M1.out _ (HE.out.ext (HX.out.trans (HD.out.alloc _)))).mono ?_);rintro e w5 ⟨rfl,hx⟩);(have HLE:=Lib.hid HD.out.size);(have hpq:=Nat.ne_of_lt (Nat.lt_of_lt_of_le HB.out.lt HLE.out));(have hqp:=Nat.ne_of_gt (Nat.lt_of_lt_of_le HB.out.lt HLE.out));(have HBP:=Lib.hid ((Blk.new _ _ _).ext hx));(replace HD:=Lib.hid ((HD.out.alloc _).trans hx));(obtain ⟨q2,q3,_,_⟩:=frBlk HB.out HD.out);(obtain ⟨p0,p1,p2,p3⟩:=frBlk HBP.out (Ext.refl _));(have hq5:=Nat.ne_of_lt (HB.out.ext HD.out).lt);(have hq6:=Nat.ne_of_gt (HB.out.ext HD.out).lt);clear hx)
    |(go_at_call 38;((with_reducible refine (M1.out _ (HE.out.ext (HX.out.trans ((Ext.new _ _).drew)))).mono ?_);rintro e w5 ⟨rfl,hx⟩);(have HLE:=Lib.hid (Nat.le_refl W.heap.size));(have hpq:=Nat.ne_of_lt (Nat.lt_of_lt_of_le HB.out.lt HLE.out));(have hqp:=Nat.ne_of_gt (Nat.lt_of_lt_of_le HB.out.lt HLE.out));(have HBP:=Lib.hid (((Blk.new _ _ _).drew).ext hx));(replace HD:=Lib.hid (((Ext.new W _).drew).trans hx));(obtain ⟨q2,q3,_,_⟩:=frBlk HB.out HD.out);(obtain ⟨p0,p1,p2,p3⟩:=frBlk HBP.out (Ext.refl _));(have hq5:=Nat.ne_of_lt (HB.out.ext HD.out).lt);(have hq6:=Nat.ne_of_gt (HB.out.ext HD.out).lt);clear hx)
    |(go_at_call 174;((with_reducible refine (R1.out _ (HE.out.ext (HX.out.trans HD.out))).mono ?_);rintro e w5 ⟨rfl,hx⟩);(replace HD:=Lib.hid (HD.out.trans hx));(obtain ⟨q2,q3,_,_⟩:=frBlk HB.out HD.out);(replace HBP:=Lib.hid (HBP.out.ext hx));(obtain ⟨p0,p1,p2,p3⟩:=frBlk HBP.out (Ext.refl _));(have hq5:=Nat.ne_of_lt (HB.out.ext HD.out).lt);(have hq6:=Nat.ne_of_gt (HB.out.ext HD.out).lt);clear hx)
    |(go_at_call 174;((with_reducible refine (R1.out _ (HE.out.ext (HX.out.trans (HD.out.alloc _)))).mono ?_);rintro e w5 ⟨rfl,hx⟩);(have HLE:=Lib.hid HD.out.size);(have hpq:=Nat.ne_of_lt (Nat.lt_of_lt_of_le HB.out.lt HLE.out));(have hqp:=Nat.ne_of_gt (Nat.lt_of_lt_of_le HB.out.lt HLE.out));(have HBP:=Lib.hid ((Blk.new _ _ _).ext hx));(replace HD:=Lib.hid ((HD.out.alloc _).trans hx));(obtain ⟨q2,q3,_,_⟩:=frBlk HB.out HD.out);(obtain ⟨p0,p1,p2,p3⟩:=frBlk HBP.out (Ext.refl _));(have hq5:=Nat.ne_of_lt (HB.out.ext HD.out).lt);(have hq6:=Nat.ne_of_gt (HB.out.ext HD.out).lt);clear hx)
    |(go_at_call 174;((with_reducible refine (R1.out _ (HE.out.ext (HX.out.trans ((Ext.new _ _).drew)))).mono ?_);rintro e w5 ⟨rfl,hx⟩);(have HLE:=Lib.hid (Nat.le_refl W.heap.size));(have hpq:=Nat.ne_of_lt (Nat.lt_of_lt_of_le HB.out.lt HLE.out));(have hqp:=Nat.ne_of_gt (Nat.lt_of_lt_of_le HB.out.lt HLE.out));(have HBP:=Lib.hid (((Blk.new _ _ _).drew).ext hx));(replace HD:=Lib.hid (((Ext.new W _).drew).trans hx));(obtain ⟨q2,q3,_,_⟩:=frBlk HB.out HD.out);(obtain ⟨p0,p1,p2,p3⟩:=frBlk HBP.out (Ext.refl _));(have hq5:=Nat.ne_of_lt (HB.out.ext HD.out).lt);(have hq6:=Nat.ne_of_gt (HB.out.ext HD.out).lt);clear hx)
    |fail)
  all_goals
   go_wp2_with fail
   go_meet
   first
    |exact ⟨rfl,_,rfl,Blk.new _ _ _,HD.out.alloc _⟩
    |exact ⟨rfl,_,rfl,(HBP.out.set_ 0 _).set_ 1 _,(HD.out.setCell (p:=⟨_,0,none⟩) HLE.out _).setCell (p:=⟨_,1,none⟩) HLE.out _⟩
 case rest =>
  obtain ⟨rfl,P,rfl,hbp,hxw⟩:=hcut
  have HBZ:=Lib.hid hbp
  replace HX:=Lib.hid (HX.out.trans hxw)
  replace HP:=Lib.hid (HP.out.ext hxw)
  clear hbp hxw O1 M1 R1 HB
  obtain ⟨z0,z1,_,_⟩:=frBlk HBZ.out (Ext.refl _)
  obtain ⟨c0,c1,d0,d1⟩:=frBlk HP.out (Ext.refl _)
  go_wp2_with fail
  go_region
  all_goals
   go_wp2_with fail
   refine bodyPost_ret (results_tft rfl _ _ (w.heap.size+1) (.string (bs rr.num)) (.string (bs rr.den)) (.string (bs z)) (.int .i64 0) rfl rfl rfl ((HP.out.drew.set_ 0 _).set_ 1 _)) rfl ?_
   exact ⟨rfl,(HX.out.drew.setCell (p:=⟨w.heap.size+1,0,none⟩) (by show w.heap.size≤w.heap.size+1;omega) _).setCell (p:=⟨w.heap.size+1,1,none⟩) (by show w.heap.size≤w.heap.size+1;omega) _⟩
end
section
open Go.RowKit
attribute [local go_sem] size_bs toList_bs
theorem results_ttft {fn:Func} {a0 a b c:Tmp} (h:fn.results=#[.tmp a0,.tmp a,.cell b 26,.tmp c]) (tmps:Array Value) (w:World) (g:Nat) (x y z0 z u:Value) (hz0:tmps.getD a0 undef=z0) (hz:tmps.getD a undef=z) (ha:tmps.getD b undef = .pointer (some ⟨g,0,none⟩)) (hu:tmps.getD c undef=u) (hb:Blk w g 26 #[x,y]) :
  (results fn tmps).run Tryz.prog w = .ok (.tuple #[z0,z,.agg #[x,y],u]) w:=by
 obtain ⟨q0,q1,_,_⟩:=frBlk hb (Ext.refl _)
 unfold results
 rw [h]
 simp only [List.mapM_toArray,List.mapM_cons,List.mapM_nil,ha,hz,hu,hz0]
 go_simp
def termsS (o:OptV) (q:Bs):Bs × Fr × Int:=if o.other=[] then ([],⟨[],[]⟩,0) else partsV q o.r
def termsZ (o:OptV) (q:Bs) (r:Fr):Bs:=ofI (valZ o.p q+valZ (ofQ (frQ r*frQ o.v)) [49])
def termsV (o:OptV) (q:Bs):Bs × Bs × Fr × Int:=if (termsS o q).2.2=0 then ((termsS o q).1,termsZ o q (termsS o q).2.1,(termsS o q).2.1,0) else ([],[],⟨[],[]⟩,(termsS o q).2.2)
theorem rest_len {L:Nat} (h0:0<L) {q:Bs} {f:Fr} (hq:q.length≤L) (h1:f.num.length≤L) (h2:f.den.length≤L):(partsV q f).2.1.num.length≤4*L+2∧(partsV q f).2.1.den.length≤4*L+2:=by
 have qp:QB (L+L) (partsP q f):=(qb_int h0 (valI_lt10 hq)).mul (frQ_qb h1 h2 h0)
 have k:QB (L+L+(L+L)+1) (partsP q f-((floorQ (partsP q f):Int):Rat)):=qp.sub (flr_qb qp)
 have l1:=k.num_len
 have l2:=k.den_len
 unfold partsV
 split
 ·exact ⟨by show (partsR q f).num.length≤_;unfold partsR;omega,by show (partsR q f).den.length≤_;unfold partsR;omega⟩
 ·exact ⟨by simp,by simp⟩
structure TermsC (o:OptV) (q:Bs) (rest:Fr) (x y:Bs) (m:Fr) (z:Bs):Prop where
 v1:Pure 30 #[fv o.p,.string (bs q)] (.string (bs x))
 mu:Pure 38 #[fv rest,fv o.v] (fv m)
 v2:Pure 30 #[fv m,.string ⟨#[49]⟩] (.string (bs y))
 ad:Pure 21 #[.string (bs x),.string (bs y)] (.string (bs z))
theorem termsC {L M:Nat} (h0:0<L) (hL:L≤1000) (hM:M≤4010) (o:OptV) (q:Bs) (rest:Fr) (hs:OptSm L o) (hq:q.length≤L) (r1:rest.num.length≤M) (r2:rest.den.length≤M) (hm:0<M) :
  ∃ x y m,TermsC o q rest x y m (termsZ o q rest):=by
 obtain ⟨s0,s1,s2,s3,s4,s5,s6⟩:=hs
 have qv:=val_qb h0 s3 s4 hq
 have k1:(ofI (valZ o.p q)).length≤L+L+2:=round_len qv
 have qm:=(frQ_qb r1 r2 hm).mul (frQ_qb s5 s6 h0)
 have m1:=qm.num_len
 have m2:=qm.den_len
 have qw:=val_qb (L:=M+L+1) (by omega) m1 m2 (q:=[49]) (by simp)
 have k2:(ofI (valZ (ofQ (frQ rest*frQ o.v)) [49])).length≤(M+L+1)+(M+L+1)+2:=round_len qw
 refine ⟨_,_,_,priceVal h0 (by omega) o.p q s3 s4 hq,fracMul rest o.v (by omega) (by omega) (by omega) (by omega),priceVal (L:=M+L+1) (by omega) (by omega) (ofQ (frQ rest*frQ o.v)) [49] m1 m2 (by simp),?_⟩
 have:=addP (ofI (valZ o.p q)) (ofI (valZ (ofQ (frQ rest*frQ o.v)) [49])) (by omega) (by omega)
 rw [valI_ofI,valI_ofI] at this
 exact this
structure TermsT (o:OptV) (q:Bs) (S:Bs × Fr × Int) (v:Bs × Bs × Fr × Int):Prop where
 n:o.other=[]→v=([],termsZ o q ⟨[],[]⟩,⟨[],[]⟩,0)
 b:o.other≠[]→S.2.2≠0→v=([],[],⟨[],[]⟩,S.2.2)
 k:o.other≠[]→S.2.2=0→v=(S.1,termsZ o q S.2.1,S.2.1,0)
theorem termsT (o:OptV) (q:Bs):TermsT o q (partsV q o.r) (termsV o q):=by
 refine ⟨fun h=>?_,fun h k=>?_,fun h k=>?_⟩
 ·have e:termsS o q=([],⟨[],[]⟩,0):=by unfold termsS;rw [if_pos h]
  unfold termsV;rw [e];rfl
 ·have e:termsS o q=partsV q o.r:=by unfold termsS;rw [if_neg h]
  unfold termsV;rw [e,if_neg k]
 ·have e:termsS o q=partsV q o.r:=by unfold termsS;rw [if_neg h]
  unfold termsV;rw [e,if_pos k]
theorem mgTerms1 {L:Nat} (h0:0<L) (hL:L≤1000) (o:OptV) (q:Bs) (hs:OptSm L o) (hq:q.length≤L) :
  Pure 53 #[ov o,.string (bs q)] (.tuple #[.string (bs (termsV o q).1),.string (bs (termsV o q).2.1),fv (termsV o q).2.2.1,.int .i64 (termsV o q).2.2.2]):=by
 intro w hE
 have HE:=Lib.hid hE
 have T:=termsT o q
 have HT1:=Lib.hid T.n
 have HT2:=Lib.hid T.b
 have HT3:=Lib.hid T.k
 have PT:=Lib.hid (lmParts h0 (by omega) q o.r hq hs.2.1 hs.2.2.1)
 have C0:=Lib.hid (termsC (M:=1) h0 hL (by omega) o q ⟨[],[]⟩ hs hq (by simp) (by simp) (by omega))
 obtain ⟨l1,l2⟩:=rest_len h0 hq hs.2.1 hs.2.2.1
 have C1:=Lib.hid (termsC h0 hL (by omega) o q (partsV q o.r).2.1 hs hq l1 l2 (by omega))
 clear T l1 l2 hE
 generalize termsV o q=v at *
 generalize termsZ o q ⟨[],[]⟩=zz at *
 generalize termsZ o q (partsV q o.r).2.1=z at *
 generalize partsV q o.r=S at *
 obtain ⟨sh,⟨sn,sd⟩,se⟩:=S
 dsimp only at *
 obtain ⟨ot,⟨rn,rd⟩,⟨pn,pd⟩,⟨vn,vd⟩⟩:=o
 clear hs hq h0 hL
 dsimp only at HT1 HT2 HT3
 have hn1:w.heap.size≠w.heap.size+1:=by omega
 have hn2:w.heap.size+1≠w.heap.size:=by omega
 have hn3:¬ (w.heap.size=w.heap.size+1):=by omega
 have hn4:w.heap.size+1≠w.heap.size+1+1:=by omega
 have hn5:w.heap.size+1+1≠w.heap.size+1:=by omega
 have hn6:w.heap.size≠w.heap.size+1+1:=by omega
 have hn7:w.heap.size+1+1≠w.heap.size:=by omega
 have hn8:¬ (w.heap.size=w.heap.size+1+1):=by omega
 have hn9:¬ (w.heap.size+1=w.heap.size+1+1):=by omega
 have HB:=Lib.hid (((Blk.new w 50 #[.string (bs ot),.string (bs rn),.string (bs rd),.string (bs pn),.string (bs pd),.string (bs vn),.string (bs vd)]).alloc (.cells #[.string ⟨#[]⟩,.string ⟨#[]⟩] 26)).alloc (.cells #[.string ⟨#[]⟩,.string ⟨#[]⟩] 26))
 have HP:=Lib.hid ((Blk.newAt (w.alloc (.cells #[.string (bs ot),.string (bs rn),.string (bs rd),.string (bs pn),.string (bs pd),.string (bs vn),.string (bs vd)] 50)) 26 #[.string ⟨#[]⟩,.string ⟨#[]⟩] (w.heap.size+1) (by simp)).alloc (.cells #[.string ⟨#[]⟩,.string ⟨#[]⟩] 26))
 have HR:=Lib.hid (Blk.newAt ((w.alloc (.cells #[.string (bs ot),.string (bs rn),.string (bs rd),.string (bs pn),.string (bs pd),.string (bs vn),.string (bs vd)] 50)).alloc (.cells #[.string ⟨#[]⟩,.string ⟨#[]⟩] 26)) 26 #[.string ⟨#[]⟩,.string ⟨#[]⟩] (w.heap.size+1+1) (by simp))
 have HX:Hid (Ext w (((w.alloc (.cells #[.string (bs ot),.string (bs rn),.string (bs rd),.string (bs pn),.string (bs pd),.string (bs vn),.string (bs vd)] 50)).alloc (.cells #[.string ⟨#[]⟩,.string ⟨#[]⟩] 26)).alloc (.cells #[.string ⟨#[]⟩,.string ⟨#[]⟩] 26))):=Lib.hid (((Ext.new _ _).alloc _).alloc _)
 go_enter Tryz.func53,Tryz.ntmps53
 go_upto_region 3 with fail
 generalize ((w.alloc (.cells #[.string (bs ot),.string (bs rn),.string (bs rd),.string (bs pn),.string (bs pd),.string (bs vn),.string (bs vd)] 50)).alloc (.cells #[.string ⟨#[]⟩,.string ⟨#[]⟩] 26)).alloc (.cells #[.string ⟨#[]⟩,.string ⟨#[]⟩] 26)=W0 at *
 replace HB:Hid (Blk W0 w.heap.size 50 (oc ⟨ot,⟨rn,rd⟩,⟨pn,pd⟩,⟨vn,vd⟩⟩)):=HB
 obtain ⟨b0,b1,b2,b3,b4,b5,b6⟩:=optBlk HB.out (Ext.refl _)
 obtain ⟨q0,q1,f0,f1⟩:=frBlk HR.out (Ext.refl _)
 obtain ⟨c0,c1,d0,d1⟩:=frBlk HP.out (Ext.refl _)
 by_cases h0:ot=[]
 ·have e:=HT1.out h0
  subst e
  subst h0
  obtain ⟨x,y,m,hc⟩:=C0.out
  have HC:=Lib.hid hc
  clear hc HT1 HT2 HT3 PT C0 C1
  clear b0 b1 b2 b3 b4 b5 b6 q0 q1 f0 f1 c0 c1 d0 d1
  obtain ⟨b0,_,_,_,_,_,_⟩:=optBlk HB.out (Ext.refl _)
  go_upto_region 8 with fail
  obtain ⟨v1,mu,v2,ad⟩:=HC.out
  have V1:=Lib.hid v1
  have V2:=Lib.hid v2
  have M1:Hid (Pure 38 #[.agg #[.string ⟨#[]⟩,.string ⟨#[]⟩],fv ⟨vn,vd⟩] (fv m)):=Lib.hid mu
  have A1:=Lib.hid ad
  clear v1 mu v2 ad HC
  go_cut [11] (fun p11 wx=>p11 = .string (bs zz)∧Ext W0 wx)
  case first =>
   obtain ⟨_,_,_,b3,b4,b5,b6⟩:=optBlk HB.out (Ext.refl _)
   obtain ⟨q2,q3,_,_⟩:=frBlk HR.out (Ext.refl _)
   have HD:Hid (Ext W0 (W0).drew):=Lib.hid (Ext.refl _).drew
   go_region_held3 (fun w'=>w'.cell? ⟨w.heap.size,3,none⟩=some (.string (bs pn))∧w'.cell? ⟨w.heap.size,4,none⟩=some (.string (bs pd))∧w'.cell? ⟨w.heap.size,5,none⟩=some (.string (bs vn))∧w'.cell? ⟨w.heap.size,6,none⟩=some (.string (bs vd))∧w'.cell? ⟨w.heap.size+1+1,0,none⟩=some (.string ⟨#[]⟩)∧w'.cell? ⟨w.heap.size+1+1,1,none⟩=some (.string ⟨#[]⟩))
    (go_keep)
    (first
     |(go_at_call 30;((with_reducible refine (V1.out _ (HE.out.ext (HX.out.trans HD.out))).mono ?_);rintro e w5 ⟨rfl,hx⟩);(replace HD:=Lib.hid (HD.out.trans hx));(obtain ⟨_,_,_,b3,b4,b5,b6⟩:=optBlk HB.out HD.out);(obtain ⟨q2,q3,_,_⟩:=frBlk HR.out HD.out);clear hx)
     |(go_at_call 30;((with_reducible refine (V2.out _ (HE.out.ext (HX.out.trans HD.out))).mono ?_);rintro e w5 ⟨rfl,hx⟩);(replace HD:=Lib.hid (HD.out.trans hx));(obtain ⟨_,_,_,b3,b4,b5,b6⟩:=optBlk HB.out HD.out);(obtain ⟨q2,q3,_,_⟩:=frBlk HR.out HD.out);clear hx)
     |(go_at_call 38;((with_reducible refine (M1.out _ (HE.out.ext (HX.out.trans HD.out))).mono ?_);rintro e w5 ⟨rfl,hx⟩);(replace HD:=Lib.hid (HD.out.trans hx));(obtain ⟨_,_,_,b3,b4,b5,b6⟩:=optBlk HB.out HD.out);(obtain ⟨q2,q3,_,_⟩:=frBlk HR.out HD.out);clear hx)
     |(go_at_call 21;((with_reducible refine (A1.out _ (HE.out.ext (HX.out.trans HD.out))).mono ?_);rintro e w5 ⟨rfl,hx⟩);(replace HD:=Lib.hid (HD.out.trans hx));(obtain ⟨_,_,_,b3,b4,b5,b6⟩:=optBlk HB.out HD.out);(obtain ⟨q2,q3,_,_⟩:=frBlk HR.out HD.out);clear hx)
     |fail)
   all_goals (go_wp2_with fail;go_meet;exact ⟨rfl,HD.out⟩)
  case rest =>
   obtain ⟨rfl,hxw⟩:=hcut
   replace HX:=Lib.hid (HX.out.trans hxw)
   replace HP:=Lib.hid (HP.out.ext hxw)
   replace HR:=Lib.hid (HR.out.ext hxw)
   clear hxw V1 V2 M1 A1 HB
   obtain ⟨z0,z1,_,_⟩:=frBlk HR.out (Ext.refl _)
   obtain ⟨c0,c1,d0,d1⟩:=frBlk HP.out (Ext.refl _)
   go_wp2_with fail
   go_region
   all_goals
    go_wp2_with fail
    refine bodyPost_ret (results_ttft rfl _ _ (w.heap.size+1) (.string ⟨#[]⟩) (.string ⟨#[]⟩) (.string ⟨#[]⟩) (.string (bs zz)) (.int .i64 0) rfl rfl rfl rfl ((HP.out.drew.set_ 0 _).set_ 1 _)) rfl ?_
    exact ⟨rfl,(HX.out.drew.setCell (p:=⟨w.heap.size+1,0,none⟩) (by show w.heap.size≤w.heap.size+1;omega) _).setCell (p:=⟨w.heap.size+1,1,none⟩) (by show w.heap.size≤w.heap.size+1;omega) _⟩
 ·have qo:=bs_ne' h0
  have qe:ot.isEmpty=false:=by simpa using h0
  go_wp2_with fail
  refine (PT.out _ (HE.out.ext HX.out)).mono ?_
  rintro e W1 ⟨rfl,hx1⟩
  replace HB:=Lib.hid (HB.out.ext hx1)
  replace HP:=Lib.hid (HP.out.ext hx1)
  replace HR:=Lib.hid (HR.out.ext hx1)
  replace HX:=Lib.hid (HX.out.trans hx1)
  clear hx1
  clear b0 b1 b2 b3 b4 b5 b6 q0 q1 f0 f1 c0 c1 d0 d1
  obtain ⟨b0,b1,b2,b3,b4,b5,b6⟩:=optBlk HB.out (Ext.refl _)
  obtain ⟨q0,q1,f0,f1⟩:=frBlk HR.out (Ext.refl _)
  obtain ⟨c0,c1,d0,d1⟩:=frBlk HP.out (Ext.refl _)
  by_cases h1:se=0
  rotate_left
  ·have g:(se != 0)=true:=by rw [bne_iff_ne];exact h1
   have e:=HT2.out h0 h1
   subst e
   clear HT1 HT2 HT3 PT C0 C1
   go_wp2_with fail
   refine bodyPost_ret (results_ttft rfl _ _ (w.heap.size+1) (.string ⟨#[]⟩) (.string ⟨#[]⟩) (.string ⟨#[]⟩) (.string ⟨#[]⟩) (.int .i64 se) rfl rfl rfl rfl ((((HP.out.far (p:=⟨w.heap.size+1+1,0,none⟩) hn4 _).far (p:=⟨w.heap.size+1+1,1,none⟩) hn4 _).set_ 0 _).set_ 1 _)) rfl ?_
   exact ⟨rfl,(((HX.out.setCell (p:=⟨w.heap.size+1+1,0,none⟩) (by show w.heap.size≤w.heap.size+1+1;omega) _).setCell (p:=⟨w.heap.size+1+1,1,none⟩) (by show w.heap.size≤w.heap.size+1+1;omega) _).setCell (p:=⟨w.heap.size+1,0,none⟩) (by show w.heap.size≤w.heap.size+1;omega) _).setCell (p:=⟨w.heap.size+1,1,none⟩) (by show w.heap.size≤w.heap.size+1;omega) _⟩
  ·subst h1
   have e:=HT3.out h0 (by trivial)
   subst e
   obtain ⟨x,y,m,hc⟩:=C1.out
   have HC:=Lib.hid hc
   clear hc HT1 HT2 HT3 PT C0 C1
   go_upto_region 8 with fail
   replace HB:=Lib.hid ((HB.out.far (p:=⟨w.heap.size+1+1,0,none⟩) hn6 (.string (bs sn))).far (p:=⟨w.heap.size+1+1,1,none⟩) hn6 (.string (bs sd)))
   replace HP:=Lib.hid ((HP.out.far (p:=⟨w.heap.size+1+1,0,none⟩) hn4 (.string (bs sn))).far (p:=⟨w.heap.size+1+1,1,none⟩) hn4 (.string (bs sd)))
   replace HR:Hid (Blk ((W1.setCell ⟨w.heap.size+1+1,0,none⟩ (.string (bs sn))).setCell ⟨w.heap.size+1+1,1,none⟩ (.string (bs sd))) (w.heap.size+1+1) 26 #[.string (bs sn),.string (bs sd)]):=Lib.hid ((HR.out.set_ 0 _).set_ 1 _)
   replace HX:=Lib.hid ((HX.out.setCell (p:=⟨w.heap.size+1+1,0,none⟩) (by show w.heap.size≤w.heap.size+1+1;omega) (.string (bs sn))).setCell (p:=⟨w.heap.size+1+1,1,none⟩) (by show w.heap.size≤w.heap.size+1+1;omega) (.string (bs sd)))
   clear b0 b1 b2 b3 b4 b5 b6 q0 q1 f0 f1 c0 c1 d0 d1
   generalize (W1.setCell ⟨w.heap.size+1+1,0,none⟩ (.string (bs sn))).setCell ⟨w.heap.size+1+1,1,none⟩ (.string (bs sd))=W2 at *
   obtain ⟨v1,mu,v2,ad⟩:=HC.out
   have V1:=Lib.hid v1
   have V2:=Lib.hid v2
   have M1:Hid (Pure 38 #[.agg #[.string (bs sn),.string (bs sd)],fv ⟨vn,vd⟩] (fv m)):=Lib.hid mu
   have A1:=Lib.hid ad
   clear v1 mu v2 ad HC
   go_cut [11] (fun p11 wx=>p11 = .string (bs z)∧Ext W2 wx)
   case first =>
    obtain ⟨_,_,_,b3,b4,b5,b6⟩:=optBlk HB.out (Ext.refl _)
    obtain ⟨q2,q3,_,_⟩:=frBlk HR.out (Ext.refl _)
    have HD:Hid (Ext W2 (W2).drew):=Lib.hid (Ext.refl _).drew
    go_region_held3 (fun w'=>w'.cell? ⟨w.heap.size,3,none⟩=some (.string (bs pn))∧w'.cell? ⟨w.heap.size,4,none⟩=some (.string (bs pd))∧w'.cell? ⟨w.heap.size,5,none⟩=some (.string (bs vn))∧w'.cell? ⟨w.heap.size,6,none⟩=some (.string (bs vd))∧w'.cell? ⟨w.heap.size+1+1,0,none⟩=some (.string (bs sn))∧w'.cell? ⟨w.heap.size+1+1,1,none⟩=some (.string (bs sd)))
     (go_keep)
     (first
      |(go_at_call 30;((with_reducible refine (V1.out _ (HE.out.ext (HX.out.trans HD.out))).mono ?_);rintro e w5 ⟨rfl,hx⟩);(replace HD:=Lib.hid (HD.out.trans hx));(obtain ⟨_,_,_,b3,b4,b5,b6⟩:=optBlk HB.out HD.out);(obtain ⟨q2,q3,_,_⟩:=frBlk HR.out HD.out);clear hx)
      |(go_at_call 30;((with_reducible refine (V2.out _ (HE.out.ext (HX.out.trans HD.out))).mono ?_);rintro e w5 ⟨rfl,hx⟩);(replace HD:=Lib.hid (HD.out.trans hx));(obtain ⟨_,_,_,b3,b4,b5,b6⟩:=optBlk HB.out HD.out);(obtain ⟨q2,q3,_,_⟩:=frBlk HR.out HD.out);clear hx)
      |(go_at_call 38;((with_reducible refine (M1.out _ (HE.out.ext (HX.out.trans HD.out))).mono ?_);rintro e w5 ⟨rfl,hx⟩);(replace HD:=Lib.hid (HD.out.trans hx));(obtain ⟨_,_,_,b3,b4,b5,b6⟩:=optBlk HB.out HD.out);(obtain ⟨q2,q3,_,_⟩:=frBlk HR.out HD.out);clear hx)
      |(go_at_call 21;((with_reducible refine (A1.out _ (HE.out.ext (HX.out.trans HD.out))).mono ?_);rintro e w5 ⟨rfl,hx⟩);(replace HD:=Lib.hid (HD.out.trans hx));(obtain ⟨_,_,_,b3,b4,b5,b6⟩:=optBlk HB.out HD.out);(obtain ⟨q2,q3,_,_⟩:=frBlk HR.out HD.out);clear hx)
      |fail)
    all_goals (go_wp2_with fail;go_meet;exact ⟨rfl,HD.out⟩)
   case rest =>
    obtain ⟨rfl,hxw⟩:=hcut
    replace HX:=Lib.hid (HX.out.trans hxw)
    replace HP:=Lib.hid (HP.out.ext hxw)
    replace HR:=Lib.hid (HR.out.ext hxw)
    clear hxw V1 V2 M1 A1 HB
    obtain ⟨z0,z1,_,_⟩:=frBlk HR.out (Ext.refl _)
    obtain ⟨c0,c1,d0,d1⟩:=frBlk HP.out (Ext.refl _)
    go_wp2_with fail
    go_region
    all_goals
     go_wp2_with fail
     refine bodyPost_ret (results_ttft rfl _ _ (w.heap.size+1) (.string (bs sn)) (.string (bs sd)) (.string (bs sh)) (.string (bs z)) (.int .i64 0) rfl rfl rfl rfl ((HP.out.drew.set_ 0 _).set_ 1 _)) rfl ?_
     exact ⟨rfl,(HX.out.drew.setCell (p:=⟨w.heap.size+1,0,none⟩) (by show w.heap.size≤w.heap.size+1;omega) _).setCell (p:=⟨w.heap.size+1,1,none⟩) (by show w.heap.size≤w.heap.size+1;omega) _⟩
end
section
open Go.RowKit
attribute [local go_sem] size_bs toList_bs
def termsA (o:OptV) (q:Bs):Bs × Bs × Fr × Int:=if optE o≠0∨checkI q≠0 then ([],[],⟨[],[]⟩,1) else if valI q<0 then ([],[],⟨[],[]⟩,2) else termsV o q
structure TermsB (o:OptV) (q:Bs) (v:Bs × Bs × Fr × Int):Prop where
 a:optE o≠0→v=([],[],⟨[],[]⟩,1)
 b:optE o=0→checkI q≠0→v=([],[],⟨[],[]⟩,1)
 c:optE o=0→checkI q=0→cmpI (valI q) 0<0→v=([],[],⟨[],[]⟩,2)
 k:optE o=0→checkI q=0→¬ cmpI (valI q) 0<0→v=termsV o q
theorem termsB (o:OptV) (q:Bs):TermsB o q (termsA o q):=by
 refine ⟨fun h=>?_,fun h k=>?_,fun h k l=>?_,fun h k l=>?_⟩
 ·unfold termsA;rw [if_pos (.inl h)]
 ·unfold termsA;rw [if_pos (.inr k)]
 ·unfold termsA;rw [if_neg (by omega),if_pos (cmpI_neg.1 l)]
 ·unfold termsA;rw [if_neg (by omega),if_neg (fun h=>l (cmpI_neg.2 h))]
theorem mgTerms {L:Nat} (h0:0<L) (hL:L≤1000) (o:OptV) (q:Bs) (hs:OptSm L o) (hq:q.length≤L) :
  Pure 24 #[ov o,.string (bs q)] (.tuple #[.string (bs (termsA o q).1),.string (bs (termsA o q).2.1),fv (termsA o q).2.2.1,.int .i64 (termsA o q).2.2.2]):=by
 intro w hE
 have HE:=Lib.hid hE
 have T:=termsB o q
 have T1:=Lib.hid T.a
 have T2:=Lib.hid T.b
 have T3:=Lib.hid T.c
 have T4:=Lib.hid T.k
 have hs9:OptSm 9000 o:=by
  obtain ⟨s0,s1,s2,s3,s4,s5,s6⟩:=hs
  exact ⟨by omega,by omega,by omega,by omega,by omega,by omega,by omega⟩
 have CK:=Lib.hid (mgOptCheck o hs9)
 have CI:=Lib.hid (fun W=>intCheck q W (by omega))
 have C0:=Lib.hid (cmp0P q (by omega))
 have TT:=Lib.hid (mgTerms1 h0 hL o q hs hq)
 clear T hs9 hE hs hq h0 hL
 generalize termsA o q=v at *
 generalize termsV o q=S at *
 generalize optE o=oe at *
 generalize checkI q=ci at *
 generalize cmpI (valI q) 0=si at *
 obtain ⟨ot,⟨rn,rd⟩,⟨pn,pd⟩,⟨vn,vd⟩⟩:=o
 obtain ⟨sx,sy,⟨sn,sd⟩,se⟩:=S
 dsimp only at TT
 have hn1:w.heap.size≠w.heap.size+1:=by omega
 have hn2:w.heap.size+1≠w.heap.size:=by omega
 have hn3:¬ (w.heap.size=w.heap.size+1):=by omega
 have HB:=Lib.hid ((Blk.new w 50 #[.string (bs ot),.string (bs rn),.string (bs rd),.string (bs pn),.string (bs pd),.string (bs vn),.string (bs vd)]).alloc (.cells #[.string ⟨#[]⟩,.string ⟨#[]⟩] 26))
 have HP:=Lib.hid (Blk.newAt (w.alloc (.cells #[.string (bs ot),.string (bs rn),.string (bs rd),.string (bs pn),.string (bs pd),.string (bs vn),.string (bs vd)] 50)) 26 #[.string ⟨#[]⟩,.string ⟨#[]⟩] (w.heap.size+1) (by simp))
 have HX:Hid (Ext w ((w.alloc (.cells #[.string (bs ot),.string (bs rn),.string (bs rd),.string (bs pn),.string (bs pd),.string (bs vn),.string (bs vd)] 50)).alloc (.cells #[.string ⟨#[]⟩,.string ⟨#[]⟩] 26))):=Lib.hid ((Ext.new _ _).alloc _)
 go_enter Tryz.func24,Tryz.ntmps24
 go_upto_region 1 with fail
 generalize (w.alloc (.cells #[.string (bs ot),.string (bs rn),.string (bs rd),.string (bs pn),.string (bs pd),.string (bs vn),.string (bs vd)] 50)).alloc (.cells #[.string ⟨#[]⟩,.string ⟨#[]⟩] 26)=W0 at *
 replace HB:Hid (Blk W0 w.heap.size 50 (oc ⟨ot,⟨rn,rd⟩,⟨pn,pd⟩,⟨vn,vd⟩⟩)):=HB
 obtain ⟨b0,b1,b2,b3,b4,b5,b6⟩:=optBlk HB.out (Ext.refl _)
 go_wp2_with fail
 refine (CK.out _ (HE.out.ext HX.out)).mono ?_
 rintro e v4 ⟨rfl,hx1⟩
 replace HB:=Lib.hid (HB.out.ext hx1)
 replace HP:=Lib.hid (HP.out.ext hx1)
 replace HX:=Lib.hid (HX.out.trans hx1)
 clear hx1
 clear b0 b1 b2 b3 b4 b5 b6
 by_cases y1:oe=0
 rotate_left
 ·have g:(oe != 0)=true:=by rw [bne_iff_ne];exact y1
  have e:=T1.out y1
  subst e
  clear T1 T2 T3 T4
  obtain ⟨c0,c1,d0,d1⟩:=frBlk HP.out (Ext.refl _)
  go_wp2_with fail
  refine bodyPost_ret (results_ttft rfl _ _ (w.heap.size+1) (.string ⟨#[]⟩) (.string ⟨#[]⟩) (.string ⟨#[]⟩) (.string ⟨#[]⟩) (.int .i64 1) rfl rfl rfl rfl ((HP.out.set_ 0 _).set_ 1 _)) rfl ?_
  exact ⟨rfl,(HX.out.setCell (p:=⟨w.heap.size+1,0,none⟩) (by show w.heap.size≤w.heap.size+1;omega) _).setCell (p:=⟨w.heap.size+1,1,none⟩) (by show w.heap.size≤w.heap.size+1;omega) _⟩
 subst y1
 go_wp2_with fail
 refine (CI.out _).mono ?_
 rintro e v7 ⟨rfl,hx1⟩
 replace HB:=Lib.hid (HB.out.ext hx1)
 replace HP:=Lib.hid (HP.out.ext hx1)
 replace HX:=Lib.hid (HX.out.trans hx1)
 clear hx1
 by_cases y2:ci=0
 rotate_left
 ·have g:(ci != 0)=true:=by rw [bne_iff_ne];exact y2
  have e:=T2.out (by trivial) y2
  subst e
  clear T1 T2 T3 T4
  obtain ⟨c0,c1,d0,d1⟩:=frBlk HP.out (Ext.refl _)
  go_wp2_with fail
  refine bodyPost_ret (results_ttft rfl _ _ (w.heap.size+1) (.string ⟨#[]⟩) (.string ⟨#[]⟩) (.string ⟨#[]⟩) (.string ⟨#[]⟩) (.int .i64 1) rfl rfl rfl rfl ((HP.out.set_ 0 _).set_ 1 _)) rfl ?_
  exact ⟨rfl,(HX.out.setCell (p:=⟨w.heap.size+1,0,none⟩) (by show w.heap.size≤w.heap.size+1;omega) _).setCell (p:=⟨w.heap.size+1,1,none⟩) (by show w.heap.size≤w.heap.size+1;omega) _⟩
 subst y2
 go_wp2_with fail
 refine (C0.out _ (HE.out.ext HX.out)).mono ?_
 rintro e v9 ⟨rfl,hx1⟩
 replace HB:=Lib.hid (HB.out.ext hx1)
 replace HP:=Lib.hid (HP.out.ext hx1)
 replace HX:=Lib.hid (HX.out.trans hx1)
 clear hx1
 by_cases y3:si<0
 ·have g:decide (si<0)=true:=decide_eq_true y3
  have e:=T3.out (by trivial) (by trivial) (by omega)
  subst e
  clear T1 T2 T3 T4
  obtain ⟨c0,c1,d0,d1⟩:=frBlk HP.out (Ext.refl _)
  go_wp2_with fail
  refine bodyPost_ret (results_ttft rfl _ _ (w.heap.size+1) (.string ⟨#[]⟩) (.string ⟨#[]⟩) (.string ⟨#[]⟩) (.string ⟨#[]⟩) (.int .i64 2) rfl rfl rfl rfl ((HP.out.set_ 0 _).set_ 1 _)) rfl ?_
  exact ⟨rfl,(HX.out.setCell (p:=⟨w.heap.size+1,0,none⟩) (by show w.heap.size≤w.heap.size+1;omega) _).setCell (p:=⟨w.heap.size+1,1,none⟩) (by show w.heap.size≤w.heap.size+1;omega) _⟩
 have g3:decide (si<0)=false:=decide_eq_false y3
 have e:=T4.out (by trivial) (by trivial) (by omega)
 subst e
 clear T1 T2 T3 T4 CK CI C0
 obtain ⟨b0,b1,b2,b3,b4,b5,b6⟩:=optBlk HB.out (Ext.refl _)
 go_wp2_with fail
 refine (TT.out _ (HE.out.ext HX.out)).mono ?_
 rintro e v12 ⟨rfl,hx1⟩
 replace HB:=Lib.hid (HB.out.ext hx1)
 replace HP:=Lib.hid (HP.out.ext hx1)
 replace HX:=Lib.hid (HX.out.trans hx1)
 clear hx1
 clear b0 b1 b2 b3 b4 b5 b6
 obtain ⟨c0,c1,d0,d1⟩:=frBlk HP.out (Ext.refl _)
 go_wp2_with fail
 refine bodyPost_ret (results_ttft rfl _ _ (w.heap.size+1) (.string (bs sn)) (.string (bs sd)) (.string (bs sx)) (.string (bs sy)) (.int .i64 se) rfl rfl rfl rfl ((HP.out.set_ 0 _).set_ 1 _)) rfl ?_
 exact ⟨rfl,(HX.out.setCell (p:=⟨w.heap.size+1,0,none⟩) (by show w.heap.size≤w.heap.size+1;omega) _).setCell (p:=⟨w.heap.size+1,1,none⟩) (by show w.heap.size≤w.heap.size+1;omega) _⟩
end
section
open Go.RowKit
attribute [local go_sem] size_bs toList_bs get_bs
theorem ofI_last {z:Int} (h:z≠0):∃ (j:Nat) (hj:j<(ofI z).length),(ofI z).length=j+1∧((ofI z)[j]'hj).toNat=48+z.natAbs % 10:=by
 have hp:=dig10_pos (n:=z.natAbs) (by omega)
 have hm:(UInt8.ofNat (48+z.natAbs % 10)).toNat=48+z.natAbs % 10:=by
  rw [UInt8.toNat_ofNat_of_lt' (by show _<256;omega)]
 unfold ofI
 split
 ·refine ⟨(dig10 (z.natAbs / 10)).length+1,by rw [hp];simp,by rw [hp];simp,?_⟩
  simp only [List.getElem_cons_succ]
  simp only [hp]
  rw [List.getElem_append_right (by omega)]
  simpa using hm
 ·refine ⟨(dig10 (z.natAbs / 10)).length,by rw [hp];simp,by rw [hp];simp,?_⟩
  simp only [hp]
  rw [List.getElem_append_right (by omega)]
  simpa using hm
theorem refEven (a:Bs) (ha:a.length≤90000):PureR 249 #[.string (bs a)] (.bool (decide (valI a % 2=0))):=by
 intro w
 have HC:=Lib.hid (fun W=>refCanonical a W (by omega))
 rw [canon_ofI] at HC
 by_cases h0:valI a=0
 ·rw [h0,ofI_nil.2 rfl] at HC
  rw [h0]
  clear h0
  go_enter Tryz.func249,Tryz.ntmps249
  go_wp2_with fail
  refine (HC.out _).mono ?_
  rintro e w1 ⟨rfl,rfl⟩
  go_wp2_with fail
  go_ret
  exact ⟨rfl,Ext.refl _⟩
 ·obtain ⟨j,hj,hl,hc⟩:=ofI_last h0
  have he:=ofI_full h0
  have hlen:(ofI (valI a)).length≤90001:=ofI_lt10' (l:=a) (Nat.le_refl _) ha
  have HV:Hid (decide (valI a % 2=0)=(((((ofI (valI a))[j]'hj).toNat:Int)-48) % 2 == 0)):=Lib.hid (by
   rw [hc,Bool.eq_iff_iff,decide_eq_true_iff,beq_iff_eq]
   omega)
  rw [HV.out]
  have hb1:48≤((ofI (valI a))[j]'hj).toNat:=by omega
  have hb2:((ofI (valI a))[j]'hj).toNat≤57:=by omega
  have e1:(((ofI (valI a)).length:Nat):Int)-1=(j:Int):=by omega
  clear hc HV h0
  generalize ofI (valI a)=l at *
  clear hl
  go_enter Tryz.func249,Tryz.ntmps249
  go_wp2_with fail
  refine (HC.out _).mono ?_
  rintro e w1 ⟨rfl,rfl⟩
  go_wp2_with fail
  go_ret
  exact ⟨rfl,Ext.refl _⟩
theorem den_mul (q:Rat):q*((q.den:Int):Rat)=(q.num:Rat):=by
 have hd:(0:Int)<q.den:=by have:=q.den_pos;omega
 have hdR:(0:Rat)<((q.den:Int):Rat):=Rat.intCast_pos.2 hd
 have hq:q=(q.num:Rat) / ((q.den:Int):Rat):=by rw [← Rat.divInt_eq_div,Rat.num_divInt_den]
 conv=>lhs;lhs;rw [hq]
 exact Rat.div_mul_cancel (by grind)
theorem rest_mul (q:Rat):(q-((floorQ q:Int):Rat))*((q.den:Int):Rat)=((q.num % (q.den:Int):Int):Rat):=by
 have h1:=Int.mul_ediv_add_emod q.num (q.den:Int)
 have h2:=den_mul q
 have h3:(q.num:Rat)=((q.den:Int):Rat)*((floorQ q:Int):Rat)+((q.num % (q.den:Int):Int):Rat):=by
  rw [← Rat.intCast_mul,← Rat.intCast_add]
  unfold floorQ
  rw [h1]
 rw [h3] at h2
 generalize ((q.num % (q.den:Int):Int):Rat)=re at *
 generalize ((floorQ q:Int):Rat)=lo at *
 generalize ((q.den:Int):Rat)=d at *
 grind
theorem rest_iff (q:Rat):let re:=q.num % (q.den:Int);
  (q-((floorQ q:Int):Rat)<1 / 2↔re+re<q.den)∧(q-((floorQ q:Int):Rat)=1 / 2↔re+re=q.den)∧(q-((floorQ q:Int):Rat)=0↔re=0):=by
 have hm:=rest_mul q
 have hd:(0:Int)<q.den:=by have:=q.den_pos;omega
 have hdR:(0:Rat)<((q.den:Int):Rat):=Rat.intCast_pos.2 hd
 simp only
 have e1:(q.num % (q.den:Int)+q.num % (q.den:Int)<q.den)↔((q.num % (q.den:Int):Int):Rat)+((q.num % (q.den:Int):Int):Rat)<((q.den:Int):Rat):=by
  rw [← Rat.intCast_add,Rat.intCast_lt_intCast]
 have e2:(q.num % (q.den:Int)+q.num % (q.den:Int)=q.den)↔((q.num % (q.den:Int):Int):Rat)+((q.num % (q.den:Int):Int):Rat)=((q.den:Int):Rat):=by
  rw [← Rat.intCast_add,Rat.intCast_inj]
 have e3:(q.num % (q.den:Int)=0)↔((q.num % (q.den:Int):Int):Rat)=0:=by
  rw [← Rat.intCast_zero,Rat.intCast_inj]
 rw [e1,e2,e3]
 generalize ((q.num % (q.den:Int):Int):Rat)=re at *
 generalize q-((floorQ q:Int):Rat)=x at *
 generalize ((q.den:Int):Rat)=d at *
 subst hm
 refine ⟨⟨fun h=>?_,fun h=>?_⟩,⟨fun h=>?_,fun h=>?_⟩,⟨fun h=>?_,fun h=>?_⟩⟩
 ·have:=Rat.mul_lt_mul_of_pos_right h hdR
  grind
 ·refine Rat.lt_of_mul_lt_mul_right (c:=d) ?_ (by grind)
  grind
 ·rw [h];grind
 ·have h5:(x-1 / 2)*d=0:=by grind
  rcases Rat.mul_eq_zero.1 h5 with h6 | h6
  ·grind
  ·grind
 ·rw [h];grind
 ·rcases Rat.mul_eq_zero.1 h with h6 | h6
  ·exact h6
  ·grind
theorem round_rest (q:Rat):(cmpQ (q-((floorQ q:Int):Rat)) 0=0→roundQ q=floorQ q)∧(cmpQ (q-((floorQ q:Int):Rat)) (1 / 2)<0→roundQ q=floorQ q) ∧
  (cmpQ (q-((floorQ q:Int):Rat)) (1 / 2)=0→floorQ q % 2=0→roundQ q=floorQ q)∧(cmpQ (q-((floorQ q:Int):Rat)) (1 / 2)=0→floorQ q % 2≠0→roundQ q=floorQ q+1)∧(0<cmpQ (q-((floorQ q:Int):Rat)) (1 / 2)→roundQ q=floorQ q+1):=by
 obtain ⟨a1,a2,a3⟩:=rest_iff q
 obtain ⟨b1,b2,b3,b4⟩:=roundQ_cases q
 have hd:(0:Int)<q.den:=by have:=q.den_pos;omega
 refine ⟨fun h=>?_,fun h=>b1 (a1.1 (cmpQ_neg.1 h)),fun h h2=>b2 (a2.1 (cmpQ_zero.1 h)) h2,fun h h2=>b3 (a2.1 (cmpQ_zero.1 h)) h2,fun h=>b4 ?_⟩
 ·have h0:=a3.1 (cmpQ_zero.1 h)
  exact b1 (by omega)
 ·have h1:=cmpQ_pos.1 h
  have n1:=mt a1.2 (by grind)
  have n2:=mt a2.2 (by grind)
  omega
end
end Go.Proofs.YthgpheopnhajaaaGreatDoor
