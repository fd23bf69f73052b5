/- The seat's texts, part U18. -/
import Derived.Test.YthgpheopnhajaaaGreatDoorU15
import Derived.Test.YthgpheopnhajaaaGreatDoorU17
set_option maxRecDepth 100000
set_option maxHeartbeats 8000000
namespace Go.Proofs.YthgpheopnhajaaaGreatDoor
section
open Go.RowKit
attribute [local go_sem] size_bs toList_bs
def BoxAtR (W:World) (r:Fr) (p:Value) (wx:World):Prop:=∃ P,p = .pointer (some ⟨P,0,none⟩)∧Blk wx P 26 #[.string (bs r.num),.string (bs r.den)]∧Ext W wx
abbrev PureX (W0:World) (f:FuncId) (args:Array Value) (v:Value):Prop:=∀ W,Ext W0 W→Calls Tryz.prog f args W fun e w'=>e = .returned v∧Ext W w'
theorem PureR.x {f:FuncId} {args:Array Value} {v:Value} (h:PureR f args v) (W0:World):PureX W0 f args v:=fun W _=>h W
structure RtAt (f fl rl rr z h:Fr) (lo up:Bs) (c0 c1 c2:Int) (ev:Bool):Prop where
 fl:PureR 230 #[fv f] (.string (bs lo))
 o1:PureR 197 #[.string (bs lo)] (fv rl)
 s1:PureR 231 #[fv f,fv rl] (fv rr)
 o2:PureR 197 #[.string ⟨#[]⟩] (fv z)
 k0:PureR 99 #[fv rr,fv z] (.int .i64 c0)
 ad:PureR 121 #[.string (bs lo),.string ⟨#[49]⟩] (.string (bs up))
 hf:PureR 244 #[.string ⟨#[49]⟩,.string ⟨#[50]⟩] (.tuple #[fv h,.int .i64 0])
 k1:PureR 99 #[fv rr,fv h] (.int .i64 c1)
 k2:PureR 99 #[fv f,fv z] (.int .i64 c2)
 ev:PureR 249 #[.string (bs lo)] (.bool ev)
theorem frQ_nil':frQ ⟨[],[]⟩=0:=by
 have:=frQ_ofQ 0
 rwa [ofQ_zero] at this
theorem half_div:Rat.divInt (valI [49]) (valI [50])=1 / 2:=by
 rw [show valI [49]=1 by decide,show valI [50]=2 by decide,Rat.divInt_eq_div]
 simp
theorem floor_len {q:Rat} {L:Nat} (h:QB L q):(ofI (floorQ q)).length≤L+1:=by
 refine ofI_lt10 (Nat.lt_of_le_of_lt ?_ h.1)
 exact Int.natAbs_ediv_le_natAbs _ _
theorem floor_qb {q:Rat} {L:Nat} (h:QB L q):QB L ((floorQ q:Int):Rat) :=
 qb_int h.pos (Nat.lt_of_le_of_lt (Int.natAbs_ediv_le_natAbs _ _) h.1)
theorem rtAt (f:Fr) (h1:f.num.length≤8000) (h2:f.den.length≤8000) :
  ∃ rl rr z h c2,RtAt f f rl rr z h (ofI (floorQ (frQ f))) (ofI (floorQ (frQ f)+1)) (cmpQ (frQ f-((floorQ (frQ f):Int):Rat)) 0) (cmpQ (frQ f-((floorQ (frQ f):Int):Rat)) (1 / 2)) c2 (decide (floorQ (frQ f) % 2=0)):=by
 have hq:=frQ_qb h1 h2 (by omega)
 have hl:=floor_len hq
 have hfq:=floor_qb hq
 have l1:=hfq.num_len
 have l1':=hfq.den_len
 have hrq:=hq.sub hfq
 have l2:=hrq.num_len
 have l2':=hrq.den_len
 have ho:=refOfF (ofI (floorQ (frQ f))) (by omega)
 rw [valI_ofI] at ho
 have hs:=refSubF f (ofQ ((floorQ (frQ f):Int):Rat)) (by omega) (by omega) (by omega) (by omega)
 rw [frQ_ofQ] at hs
 have hz:=refOfF [] (by simp)
 rw [valI_nil,Rat.intCast_zero,ofQ_zero] at hz
 have hk0:=refCmpF (ofQ (frQ f-((floorQ (frQ f):Int):Rat))) ⟨[],[]⟩ (by omega) (by omega) (by simp) (by simp)
 rw [frQ_ofQ,frQ_nil'] at hk0
 have had:=addR (ofI (floorQ (frQ f))) [49] (by omega) (by simp)
 rw [valI_ofI,valI_one] at had
 have hh:=refNew [49] [50] (by simp) (by simp) (by decide)
 rw [show Rat.divInt (valI [49]) (valI [50])=1 / 2 from half_div] at hh
 have hhb:QB 8000 (1 / 2:Rat):=(show QB 2 (1 / 2:Rat) from by rw [← half_div];exact qb_divInt (L:=2) (by omega) (by decide) (by decide)).mono (by omega)
 have l3:=hhb.num_len
 have l3':=hhb.den_len
 have hk1:=refCmpF (ofQ (frQ f-((floorQ (frQ f):Int):Rat))) (ofQ (1 / 2)) (by omega) (by omega) (by omega) (by omega)
 rw [frQ_ofQ,frQ_ofQ] at hk1
 have hk2:=refCmpF f ⟨[],[]⟩ (by omega) (by omega) (by simp) (by simp)
 have hev:=refEven (ofI (floorQ (frQ f))) (by omega)
 rw [valI_ofI] at hev
 exact ⟨_,_,_,_,_,⟨refFloorF f (by omega) (by omega),ho,hs,hz,hk0,had,hh,hk1,hk2,hev⟩⟩
theorem refRoundTo (f:Fr) (h1:f.num.length≤8000) (h2:f.den.length≤8000):PureR 196 #[fv f,.int .i64 1] (.string (bs (ofI (roundQ (frQ f))))):=by
 intro w
 obtain ⟨rl,rr,z,h,c2,hr⟩:=rtAt f h1 h2
 have HR:=Lib.hid hr
 obtain ⟨n0,n1,n2,n3,n4⟩:=round_rest (frQ f)
 have N0:=Lib.hid n0
 have N1:=Lib.hid n1
 have N2:=Lib.hid n2
 have N3:=Lib.hid n3
 have N4:=Lib.hid n4
 clear hr h1 h2 n0 n1 n2 n3 n4
 have HEV:Hid ((floorQ (frQ f) % 2=0)↔decide (floorQ (frQ f) % 2=0)=true):=Lib.hid (by rw [decide_eq_true_iff])
 generalize decide (floorQ (frQ f) % 2=0)=ev at *
 generalize cmpQ (frQ f-((floorQ (frQ f):Int):Rat)) 0=c0 at *
 generalize cmpQ (frQ f-((floorQ (frQ f):Int):Rat)) (1 / 2)=c1 at *
 generalize roundQ (frQ f)=ro at *
 generalize floorQ (frQ f)=lo at *
 have O1:=Lib.hid (fun W0=>HR.out.o1.x W0)
 have S1:=Lib.hid (fun W0=>HR.out.s1.x W0)
 obtain ⟨n1,e1⟩:=f
 have HB:=Lib.hid (Blk.new w 26 #[.string (bs n1),.string (bs e1)])
 have HX:Hid (Ext w (w.alloc (.cells #[.string (bs n1),.string (bs e1)] 26))):=Lib.hid (Ext.new _ _)
 go_enter Tryz.func196,Tryz.ntmps196
 go_wp2_with fail
 refine (HR.out.fl _).mono ?_
 rintro e W ⟨rfl,hx1⟩
 replace HB:=Lib.hid (HB.out.ext hx1)
 replace HX:=Lib.hid (HX.out.trans hx1)
 clear hx1
 obtain ⟨q0,q1,_,_⟩:=frBlk HB.out (Ext.refl _)
 replace O1:=Lib.hid (O1.out W)
 replace S1:=Lib.hid (S1.out W)
 go_upto_region 2 with fail
 generalize w.heap.size=Q at *
 go_cut [6] (fun p6 wx=>BoxAtR W rr p6 wx)
 case first =>
  have HD:Hid (Ext W W.drew):=Lib.hid (Ext.refl W).drew
  have HBP:=Lib.hid (HB.out.drew)
  go_region_held3 (fun w'=>w'.cell? ⟨Q,0,none⟩=some (.string (bs n1))∧w'.cell? ⟨Q,1,none⟩=some (.string (bs e1)))
   (go_keep)
   (first
    |(go_at_call 197;((with_reducible refine (O1.out _ HD.out).mono ?_);rintro e w5 ⟨rfl,hx⟩);(replace HD:=Lib.hid (HD.out.trans hx));(obtain ⟨q2,q3,_,_⟩:=frBlk HB.out HD.out);(replace HBP:=Lib.hid (HBP.out.ext hx));(obtain ⟨p0,p1,p2,p3⟩:=frBlk HBP.out (Ext.refl _));(have hq5:=Nat.ne_of_lt (HB.out.ext HD.out).lt);(have hq6:=Nat.ne_of_gt (HB.out.ext HD.out).lt);clear hx)
    |(go_at_call 197;((with_reducible refine (O1.out _ (HD.out.alloc _)).mono ?_);rintro e w5 ⟨rfl,hx⟩);(have HLE:=Lib.hid HD.out.size);(have hpq:=Nat.ne_of_lt (Nat.lt_of_lt_of_le HB.out.lt HLE.out));(have hqp:=Nat.ne_of_gt (Nat.lt_of_lt_of_le HB.out.lt HLE.out));(have HBP:=Lib.hid ((Blk.new _ _ _).ext hx));(replace HD:=Lib.hid ((HD.out.alloc _).trans hx));(obtain ⟨q2,q3,_,_⟩:=frBlk HB.out HD.out);(obtain ⟨p0,p1,p2,p3⟩:=frBlk HBP.out (Ext.refl _));clear hx)
    |(go_at_call 197;((with_reducible refine (O1.out _ ((Ext.new _ _).drew)).mono ?_);rintro e w5 ⟨rfl,hx⟩);(have HLE:=Lib.hid (Nat.le_refl W.heap.size));(have hpq:=Nat.ne_of_lt (Nat.lt_of_lt_of_le HB.out.lt HLE.out));(have hqp:=Nat.ne_of_gt (Nat.lt_of_lt_of_le HB.out.lt HLE.out));(have HBP:=Lib.hid (((Blk.new _ _ _).drew).ext hx));(replace HD:=Lib.hid (((Ext.new W _).drew).trans hx));(obtain ⟨q2,q3,_,_⟩:=frBlk HB.out HD.out);(obtain ⟨p0,p1,p2,p3⟩:=frBlk HBP.out (Ext.refl _));clear hx)
    |(go_at_call 231;((with_reducible refine (S1.out _ HD.out).mono ?_);rintro e w5 ⟨rfl,hx⟩);(replace HD:=Lib.hid (HD.out.trans hx));(obtain ⟨q2,q3,_,_⟩:=frBlk HB.out HD.out);(replace HBP:=Lib.hid (HBP.out.ext hx));(obtain ⟨p0,p1,p2,p3⟩:=frBlk HBP.out (Ext.refl _));(have hq5:=Nat.ne_of_lt (HB.out.ext HD.out).lt);(have hq6:=Nat.ne_of_gt (HB.out.ext HD.out).lt);clear hx)
    |(go_at_call 231;((with_reducible refine (S1.out _ (HD.out.alloc _)).mono ?_);rintro e w5 ⟨rfl,hx⟩);(have HLE:=Lib.hid HD.out.size);(have hpq:=Nat.ne_of_lt (Nat.lt_of_lt_of_le HB.out.lt HLE.out));(have hqp:=Nat.ne_of_gt (Nat.lt_of_lt_of_le HB.out.lt HLE.out));(have HBP:=Lib.hid ((Blk.new _ _ _).ext hx));(replace HD:=Lib.hid ((HD.out.alloc _).trans hx));(obtain ⟨q2,q3,_,_⟩:=frBlk HB.out HD.out);(obtain ⟨p0,p1,p2,p3⟩:=frBlk HBP.out (Ext.refl _));clear hx)
    |fail)
  all_goals
   go_wp2_with fail
   go_meet
   first
    |exact ⟨_,rfl,Blk.new _ _ _,HD.out.alloc _⟩
    |exact ⟨_,rfl,(HBP.out.set_ 0 _).set_ 1 _,(HD.out.setCell (p:=⟨_,0,none⟩) HLE.out _).setCell (p:=⟨_,1,none⟩) HLE.out _⟩
 case rest =>
  obtain ⟨P,rfl,hbp,hxw⟩:=hcut
  have HBR:=Lib.hid hbp
  replace HB:=Lib.hid (HB.out.ext hxw)
  replace HX:=Lib.hid (HX.out.trans hxw)
  clear hbp hxw O1 S1 q0 q1
  go_wp2_with fail
  refine (HR.out.o2 _).mono ?_
  rintro e w3 ⟨rfl,hx1⟩
  replace HB:=Lib.hid (HB.out.ext hx1)
  replace HBR:=Lib.hid (HBR.out.ext hx1)
  replace HX:=Lib.hid (HX.out.trans hx1)
  clear hx1
  have HBZ:=Lib.hid (Blk.new w3 26 #[.string (bs z.num),.string (bs z.den)])
  replace HX:=Lib.hid (HX.out.alloc (.cells #[.string (bs z.num),.string (bs z.den)] 26))
  replace HB:=Lib.hid (HB.out.alloc (.cells #[.string (bs z.num),.string (bs z.den)] 26))
  replace HBR:=Lib.hid (HBR.out.alloc (.cells #[.string (bs z.num),.string (bs z.den)] 26))
  go_upto_region 4 with fail
  generalize w3.alloc (.cells #[.string (bs z.num),.string (bs z.den)] 26)=W3 at *
  generalize w3.heap.size=Z at *
  obtain ⟨z0,z1,_,_⟩:=frBlk HBZ.out (Ext.refl _)
  obtain ⟨r0,r1,_,_⟩:=frBlk HBR.out (Ext.refl _)
  go_wp2_with fail
  refine (HR.out.k0 _).mono ?_
  rintro e w4 ⟨rfl,hx1⟩
  replace HB:=Lib.hid (HB.out.ext hx1)
  replace HBR:=Lib.hid (HBR.out.ext hx1)
  replace HBZ:=Lib.hid (HBZ.out.ext hx1)
  replace HX:=Lib.hid (HX.out.trans hx1)
  clear hx1
  clear z0 z1 r0 r1
  by_cases hc0:c0=0
  ·have g:(c0 == 0)=true:=beq_iff_eq.2 hc0
   have e:=N0.out hc0
   have HE:=Lib.hid e
   clear e hc0
   go_wp2_with fail
   go_ret
   exact ⟨by rw [HE.out];rfl,HX.out⟩
  have g:(c0 == 0)=false:=by rw [beq_eq_false_iff_ne];exact hc0
  clear hc0 N0
  go_wp2_with fail
  refine (HR.out.ad _).mono ?_
  rintro e v8 ⟨rfl,hx1⟩
  replace HB:=Lib.hid (HB.out.ext hx1)
  replace HBR:=Lib.hid (HBR.out.ext hx1)
  replace HBZ:=Lib.hid (HBZ.out.ext hx1)
  replace HX:=Lib.hid (HX.out.trans hx1)
  clear hx1
  go_wp2_with fail
  refine (HR.out.hf _).mono ?_
  rintro e w5 ⟨rfl,hx1⟩
  replace HB:=Lib.hid (HB.out.ext hx1)
  replace HBR:=Lib.hid (HBR.out.ext hx1)
  replace HBZ:=Lib.hid (HBZ.out.ext hx1)
  replace HX:=Lib.hid (HX.out.trans hx1)
  clear hx1
  have HBH:=Lib.hid (Blk.new w5 26 #[.string (bs h.num),.string (bs h.den)])
  replace HX:=Lib.hid (HX.out.alloc (.cells #[.string (bs h.num),.string (bs h.den)] 26))
  replace HB:=Lib.hid (HB.out.alloc (.cells #[.string (bs h.num),.string (bs h.den)] 26))
  replace HBR:=Lib.hid (HBR.out.alloc (.cells #[.string (bs h.num),.string (bs h.den)] 26))
  replace HBZ:=Lib.hid (HBZ.out.alloc (.cells #[.string (bs h.num),.string (bs h.den)] 26))
  go_upto_region 8 with fail
  generalize w5.alloc (.cells #[.string (bs h.num),.string (bs h.den)] 26)=W5 at *
  generalize w5.heap.size=H at *
  obtain ⟨h0,h1,_,_⟩:=frBlk HBH.out (Ext.refl _)
  obtain ⟨r0,r1,_,_⟩:=frBlk HBR.out (Ext.refl _)
  go_wp2_with fail
  refine (HR.out.k1 _).mono ?_
  rintro e w6 ⟨rfl,hx1⟩
  replace HB:=Lib.hid (HB.out.ext hx1)
  replace HBZ:=Lib.hid (HBZ.out.ext hx1)
  replace HX:=Lib.hid (HX.out.trans hx1)
  clear hx1
  clear h0 h1 r0 r1 HBH HBR
  obtain ⟨q0,q1,_,_⟩:=frBlk HB.out (Ext.refl _)
  obtain ⟨z0,z1,_,_⟩:=frBlk HBZ.out (Ext.refl _)
  go_wp2_with fail
  refine (HR.out.k2 _).mono ?_
  rintro e w7 ⟨rfl,hx1⟩
  replace HX:=Lib.hid (HX.out.trans hx1)
  clear hx1
  clear q0 q1 z0 z1
  by_cases hp:0<c1
  ·have g1:decide (0<c1)=true:=decide_eq_true hp
   have HE:=Lib.hid (N4.out hp)
   clear hp
   go_wp2_with fail
   go_ret
   exact ⟨by rw [HE.out];rfl,HX.out⟩
  have g1:decide (0<c1)=false:=decide_eq_false hp
  by_cases hz:c1=0
  ·have g2:(c1 == 0)=true:=beq_iff_eq.2 hz
   have M2:=Lib.hid (N2.out hz)
   have M3:=Lib.hid (N3.out hz)
   clear hp hz N1 N2 N3 N4
   cases hev:ev
   ·have HE:=Lib.hid (M3.out (fun h=>by have:=HEV.out.1 h;rw [hev] at this;cases this))
    have HV:=Lib.hid HR.out.ev
    rw [hev] at HV
    clear HEV hev M2 M3 HR
    go_wp2_with fail
    refine (HV.out _).mono ?_
    rintro e v13 ⟨rfl,hx1⟩
    replace HX:=Lib.hid (HX.out.trans hx1)
    clear hx1
    go_wp2_with fail
    go_ret
    exact ⟨by rw [HE.out];rfl,HX.out⟩
   ·have HE:=Lib.hid (M2.out (HEV.out.2 hev))
    have HV:=Lib.hid HR.out.ev
    rw [hev] at HV
    clear HEV hev M2 M3 HR
    go_wp2_with fail
    refine (HV.out _).mono ?_
    rintro e v15 ⟨rfl,hx1⟩
    replace HX:=Lib.hid (HX.out.trans hx1)
    clear hx1
    go_wp2_with fail
    go_ret
    exact ⟨by rw [HE.out];rfl,HX.out⟩
  have g2:(c1 == 0)=false:=by rw [beq_eq_false_iff_ne];exact hz
  have HE:=Lib.hid (N1.out (by omega))
  clear hp hz
  go_wp2_with fail
  go_ret
  exact ⟨by rw [HE.out];rfl,HX.out⟩
theorem refMode (w:World):Calls Tryz.prog 287 #[.int .i64 1] w fun e w'=>e = .returned (.bool true)∧Ext w w':=by
 go_enter Tryz.func287,Tryz.ntmps287
 go_wp2_with fail
 go_ret
 exact ⟨rfl,Ext.refl _⟩
theorem refRound (f:Fr) (h1:f.num.length≤8000) (h2:f.den.length≤8000):PureR 232 #[fv f,.int .i64 1] (.tuple #[.string (bs (ofI (roundQ (frQ f)))),.int .i64 0]):=by
 intro w
 have HR:=Lib.hid (refRoundTo f h1 h2)
 have HM:=Lib.hid refMode
 generalize ofI (roundQ (frQ f))=r at *
 obtain ⟨n1,e1⟩:=f
 clear h1 h2
 have HB:=Lib.hid (Blk.new w 26 #[.string (bs n1),.string (bs e1)])
 have HX:Hid (Ext w (w.alloc (.cells #[.string (bs n1),.string (bs e1)] 26))):=Lib.hid (Ext.new _ _)
 go_enter Tryz.func232,Tryz.ntmps232
 go_wp2_with fail
 refine (HM.out _).mono ?_
 rintro e v18 ⟨rfl,hx1⟩
 replace HB:=Lib.hid (HB.out.ext hx1)
 replace HX:=Lib.hid (HX.out.trans hx1)
 clear hx1
 obtain ⟨q0,q1,_,_⟩:=frBlk HB.out (Ext.refl _)
 go_wp2_with fail
 refine (HR.out _).mono ?_
 rintro e v19 ⟨rfl,hx1⟩
 replace HX:=Lib.hid (HX.out.trans hx1)
 clear hx1
 go_wp2_with fail
 go_ret2
 exact ⟨rfl,HX.out⟩
theorem checkR (a:Bs) (ha:a.length≤100000):PureR 74 #[.string (bs a)] (.int .i64 (checkI a)):=fun W=>still (refCheckI a W (by omega))
theorem cmp0R (a:Bs) (ha:a.length≤100000):PureR 130 #[.string (bs a),.string ⟨#[]⟩] (.int .i64 (cmpI (valI a) 0)):=fun W=>still (refCmp0 a W (by omega))
end
section
open Go.RowKit
attribute [local go_sem] size_bs toList_bs
theorem rf24Round (f:Fr) (h1:f.num.length≤8000) (h2:f.den.length≤8000):PureR 170 #[fv f] (.string (bs (ofI (roundQ (frQ f))))):=by
 intro w
 have C:=Lib.hid (refRound f h1 h2)
 generalize ofI (roundQ (frQ f))=z at *
 obtain ⟨n1,e1⟩:=f
 clear h1 h2
 have HB:=Lib.hid (Blk.new w 26 #[.string (bs n1),.string (bs e1)])
 have HX:Hid (Ext w (w.alloc (.cells #[.string (bs n1),.string (bs e1)] 26))):=Lib.hid (Ext.new _ _)
 go_enter Tryz.func170,Tryz.ntmps170
 obtain ⟨r0,r1,_,_⟩:=frBlk HB.out (Ext.refl _)
 go_wp2_with fail
 refine (C.out _).mono ?_
 rintro e v1 ⟨rfl,hx1⟩
 replace HX:=Lib.hid (HX.out.trans hx1)
 clear hx1
 go_wp2_with fail
 go_ret
 exact ⟨rfl,HX.out⟩
theorem rfVal {L:Nat} (h0:0<L) (hL:L≤3900) (p:Fr) (q:Bs) (h1:p.num.length≤L) (h2:p.den.length≤L) (hq:q.length≤L):PureR 122 #[fv p,.string (bs q)] (.string (bs (ofI (valZ p q)))):=by
 intro w
 have qq:=qb_int h0 (valI_lt10 hq)
 have l1:=qq.num_len
 have l2:=qq.den_len
 have qv:=val_qb h0 h1 h2 hq
 have l3:=qv.num_len
 have l4:=qv.den_len
 have m:=refMulF p (ofQ ((valI q:Int):Rat)) (by omega) (by omega) (by omega) (by omega)
 rw [frQ_ofQ] at m
 have r:=refRoundTo (ofQ (frQ p*((valI q:Int):Rat))) (by omega) (by omega)
 rw [frQ_ofQ,show roundQ (frQ p*((valI q:Int):Rat))=valZ p q from rfl] at r
 have O:=Lib.hid (refOfF q (by omega))
 have M:=Lib.hid m
 have R:=Lib.hid r
 generalize ofI (valZ p q)=z at *
 generalize ofQ (frQ p*((valI q:Int):Rat))=fp at *
 generalize ofQ ((valI q:Int):Rat)=fq at *
 obtain ⟨n1,e1⟩:=p
 clear m r qq l1 l2 l3 l4 qv h1 h2 hq h0 hL
 have HB:=Lib.hid (Blk.new w 26 #[.string (bs n1),.string (bs e1)])
 have HX:Hid (Ext w (w.alloc (.cells #[.string (bs n1),.string (bs e1)] 26))):=Lib.hid (Ext.new _ _)
 have HD:Hid (Ext w (w.alloc (.cells #[.string (bs n1),.string (bs e1)] 26)).drew):=Lib.hid HX.out.drew
 have HBD:=Lib.hid HB.out.drew
 go_enter Tryz.func122,Tryz.ntmps122
 go_upto_region 1 with fail
 go_cut [4] (fun p4 wx=>p4 = .string (bs z)∧Ext w wx)
 case first =>
  obtain ⟨r0,r1,_,_⟩:=frBlk HB.out (Ext.refl _)
  go_region_held3 (fun w'=>w'.cell? ⟨w.heap.size,0,none⟩=some (.string (bs n1))∧w'.cell? ⟨w.heap.size,1,none⟩=some (.string (bs e1)))
   (go_keep)
   (first
    |(go_at_call 197;((with_reducible refine (O.out _).mono ?_);rintro e w4 ⟨rfl,hx⟩);(replace HD:=Lib.hid (HD.out.trans hx));(replace HBD:=Lib.hid (HBD.out.ext hx));(obtain ⟨y0,y1,_,_⟩:=frBlk HBD.out (Ext.refl _));clear hx O)
    |(go_at_call 168;((with_reducible refine (M.out _).mono ?_);rintro e w5 ⟨rfl,hx⟩);(replace HD:=Lib.hid (HD.out.trans hx));(replace HBD:=Lib.hid (HBD.out.ext hx));(obtain ⟨z0,z1,_,_⟩:=frBlk HBD.out (Ext.refl _));clear hx M)
    |(go_at_call 196;((with_reducible refine (R.out _).mono ?_);rintro e w6 ⟨rfl,hx⟩);(replace HD:=Lib.hid (HD.out.trans hx));(replace HBD:=Lib.hid (HBD.out.ext hx));(obtain ⟨x0,x1,_,_⟩:=frBlk HBD.out (Ext.refl _));clear hx R))
  all_goals (go_wp2_with fail;go_meet;exact ⟨rfl,HD.out⟩)
 case rest =>
  obtain ⟨rfl,hx⟩:=hcut
  have HXE:=Lib.hid hx
  clear hx
  go_wp2_with fail
  go_ret
  exact ⟨rfl,HXE.out⟩
end
section
open Go.RowKit
attribute [local go_sem] size_bs toList_bs
def BoxAtQ (W:World) (r:Fr) (p:Value) (wx:World):Prop:=∃ P,p = .pointer (some ⟨P,0,none⟩)∧W.heap.size≤P∧Blk wx P 26 #[.string (bs r.num),.string (bs r.den)]∧Ext W wx
theorem rf24Parts {L:Nat} (h0:0<L) (hL:L≤4000) (q:Bs) (f:Fr) (hq:q.length≤L) (h1:f.num.length≤L) (h2:f.den.length≤L) :
  PureR 169 #[.string (bs q),fv f] (.tuple #[.string (bs (partsV q f).1),fv (partsV q f).2.1,.int .i64 (partsV q f).2.2]):=by
 intro w
 have qq:=qb_int h0 (valI_lt10 hq)
 have qp:QB (L+L) (partsP q f):=qq.mul (frQ_qb h1 h2 h0)
 have qf:=flr_qb qp
 have l1:=qq.num_len
 have l2:=qq.den_len
 have l3:=qp.num_len
 have l4:=qp.den_len
 have l5:=qf.num_len
 have l6:=qf.den_len
 have l7:=flr_len qp
 have m:=refMulF (ofQ ((valI q:Int):Rat)) f (by omega) (by omega) (by omega) (by omega)
 rw [frQ_ofQ,show ((valI q:Int):Rat)*frQ f=partsP q f from rfl] at m
 have fl:=refFloorF (ofQ (partsP q f)) (by omega) (by omega)
 rw [frQ_ofQ] at fl
 have o2:=refOfF (ofI (floorQ (partsP q f))) (by omega)
 rw [valI_ofI] at o2
 have s:=refSubF (ofQ (partsP q f)) (ofQ ((floorQ (partsP q f):Int):Rat)) (by omega) (by omega) (by omega) (by omega)
 rw [frQ_ofQ,frQ_ofQ,show ofQ (partsP q f-((floorQ (partsP q f):Int):Rat))=partsR q f from rfl] at s
 rw [show ofI (floorQ (partsP q f))=partsW q f from rfl] at fl o2
 have c0:=cmp0R q (by omega)
 have sg:=refCmpF f ⟨[],[]⟩ (by omega) (by omega) (by simp) (by simp)
 rw [frQ_nilN] at sg
 have CI:=Lib.hid (checkR q (by omega))
 have CF:=Lib.hid (rfCheckF f (by omega) (by omega))
 have C0:=Lib.hid c0
 have SG:=Lib.hid sg
 have O1:=Lib.hid (refOfF q (by omega))
 have O2:=Lib.hid o2
 have M1:=Lib.hid m
 have F1:=Lib.hid fl
 have S1:=Lib.hid s
 have T1:=Lib.hid (partsT q f).c1
 have T2:=Lib.hid (partsT q f).c2
 have T3:=Lib.hid (partsT q f).s1
 have T4:=Lib.hid (partsT q f).s2
 have T5:=Lib.hid (partsT q f).k
 generalize partsV q f=v at *
 generalize partsW q f=z at *
 generalize partsR q f=rr at *
 generalize ofQ ((floorQ (partsP q f):Int):Rat)=fz at *
 generalize ofQ (partsP q f)=fp at *
 generalize ofQ ((valI q:Int):Rat)=fq at *
 generalize checkI q=ci at *
 generalize checkF f=cf at *
 generalize cmpI (valI q) 0=si at *
 generalize cmpQ (frQ f) 0=sf at *
 obtain ⟨n1,e1⟩:=f
 clear m s fl o2 sg c0 qq qp qf l1 l2 l3 l4 l5 l6 l7 h1 h2 hq h0 hL
 have hn1:w.heap.size≠w.heap.size+1:=by omega
 have hn2:w.heap.size+1≠w.heap.size:=by omega
 have hn3:¬ (w.heap.size=w.heap.size+1):=by omega
 have HB:=Lib.hid ((Blk.new w 26 #[.string (bs n1),.string (bs e1)]).alloc (.cells #[.string ⟨#[]⟩,.string ⟨#[]⟩] 26))
 have HP:=Lib.hid (Blk.newAt (w.alloc (.cells #[.string (bs n1),.string (bs e1)] 26)) 26 #[.string ⟨#[]⟩,.string ⟨#[]⟩] (w.heap.size+1) (by simp))
 have HX:Hid (Ext w ((w.alloc (.cells #[.string (bs n1),.string (bs e1)] 26)).alloc (.cells #[.string ⟨#[]⟩,.string ⟨#[]⟩] 26))):=Lib.hid ((Ext.new _ _).alloc _)
 go_enter Tryz.func169,Tryz.ntmps169
 go_wp2_with fail
 generalize (w.alloc (.cells #[.string (bs n1),.string (bs e1)] 26)).alloc (.cells #[.string ⟨#[]⟩,.string ⟨#[]⟩] 26)=W0 at *
 obtain ⟨a0,a1,_,_⟩:=frBlk HB.out (Ext.refl _)
 go_wp2_with fail
 refine (CI.out _).mono ?_
 rintro e v3 ⟨rfl,hx1⟩
 replace HB:=Lib.hid (HB.out.ext hx1)
 replace HP:=Lib.hid (HP.out.ext hx1)
 replace HX:=Lib.hid (HX.out.trans hx1)
 clear hx1
 clear a0 a1
 by_cases y1:ci=0
 rotate_left
 ·have g:(ci != 0)=true:=by rw [bne_iff_ne];exact y1
  have e:=T1.out y1
  subst e
  clear T1 T2 T3 T4 T5
  obtain ⟨c0,c1,d0,d1⟩:=frBlk HP.out (Ext.refl _)
  go_wp2_with fail
  refine bodyPost_ret (results_tft rfl _ _ (w.heap.size+1) (.string ⟨#[]⟩) (.string ⟨#[]⟩) (.string ⟨#[]⟩) (.int .i64 1) rfl rfl rfl ((HP.out.set_ 0 _).set_ 1 _)) rfl ?_
  exact ⟨rfl,(HX.out.setCell (p:=⟨w.heap.size+1,0,none⟩) (by show w.heap.size≤w.heap.size+1;omega) _).setCell (p:=⟨w.heap.size+1,1,none⟩) (by show w.heap.size≤w.heap.size+1;omega) _⟩
 subst y1
 obtain ⟨a0,a1,_,_⟩:=frBlk HB.out (Ext.refl _)
 go_wp2_with fail
 refine (CF.out _).mono ?_
 rintro e v5 ⟨rfl,hx1⟩
 replace HB:=Lib.hid (HB.out.ext hx1)
 replace HP:=Lib.hid (HP.out.ext hx1)
 replace HX:=Lib.hid (HX.out.trans hx1)
 clear hx1
 clear a0 a1
 by_cases y2:cf=0
 rotate_left
 ·have g:(cf != 0)=true:=by rw [bne_iff_ne];exact y2
  have e:=T2.out (by trivial) y2
  subst e
  clear T1 T2 T3 T4 T5
  obtain ⟨c0,c1,d0,d1⟩:=frBlk HP.out (Ext.refl _)
  go_wp2_with fail
  refine bodyPost_ret (results_tft rfl _ _ (w.heap.size+1) (.string ⟨#[]⟩) (.string ⟨#[]⟩) (.string ⟨#[]⟩) (.int .i64 1) rfl rfl rfl ((HP.out.set_ 0 _).set_ 1 _)) rfl ?_
  exact ⟨rfl,(HX.out.setCell (p:=⟨w.heap.size+1,0,none⟩) (by show w.heap.size≤w.heap.size+1;omega) _).setCell (p:=⟨w.heap.size+1,1,none⟩) (by show w.heap.size≤w.heap.size+1;omega) _⟩
 subst y2
 obtain ⟨a0,a1,_,_⟩:=frBlk HB.out (Ext.refl _)
 go_wp2_with fail
 refine (C0.out _).mono ?_
 rintro e v7 ⟨rfl,hx1⟩
 replace HB:=Lib.hid (HB.out.ext hx1)
 replace HP:=Lib.hid (HP.out.ext hx1)
 replace HX:=Lib.hid (HX.out.trans hx1)
 clear hx1
 clear a0 a1
 by_cases y3:si<0
 ·have g:decide (si<0)=true:=decide_eq_true y3
  have e:=T3.out (by trivial) (by trivial) (by omega)
  subst e
  clear T1 T2 T3 T4 T5
  obtain ⟨c0,c1,d0,d1⟩:=frBlk HP.out (Ext.refl _)
  go_wp2_with fail
  refine bodyPost_ret (results_tft rfl _ _ (w.heap.size+1) (.string ⟨#[]⟩) (.string ⟨#[]⟩) (.string ⟨#[]⟩) (.int .i64 2) rfl rfl rfl ((HP.out.set_ 0 _).set_ 1 _)) rfl ?_
  exact ⟨rfl,(HX.out.setCell (p:=⟨w.heap.size+1,0,none⟩) (by show w.heap.size≤w.heap.size+1;omega) _).setCell (p:=⟨w.heap.size+1,1,none⟩) (by show w.heap.size≤w.heap.size+1;omega) _⟩
 have g3:decide (si<0)=false:=decide_eq_false y3
 obtain ⟨a0,a1,_,_⟩:=frBlk HB.out (Ext.refl _)
 go_wp2_with fail
 refine (SG.out _).mono ?_
 rintro e W ⟨rfl,hx1⟩
 replace HB:=Lib.hid (HB.out.ext hx1)
 replace HP:=Lib.hid (HP.out.ext hx1)
 replace HX:=Lib.hid (HX.out.trans hx1)
 clear hx1
 clear a0 a1
 by_cases y4:sf≤0
 ·have g:decide (sf≤0)=true:=decide_eq_true y4
  have e:=T4.out (by trivial) (by trivial) (by omega) (by omega)
  subst e
  clear T1 T2 T3 T4 T5
  obtain ⟨c0,c1,d0,d1⟩:=frBlk HP.out (Ext.refl _)
  go_wp2_with fail
  refine bodyPost_ret (results_tft rfl _ _ (w.heap.size+1) (.string ⟨#[]⟩) (.string ⟨#[]⟩) (.string ⟨#[]⟩) (.int .i64 2) rfl rfl rfl ((HP.out.set_ 0 _).set_ 1 _)) rfl ?_
  exact ⟨rfl,(HX.out.setCell (p:=⟨w.heap.size+1,0,none⟩) (by show w.heap.size≤w.heap.size+1;omega) _).setCell (p:=⟨w.heap.size+1,1,none⟩) (by show w.heap.size≤w.heap.size+1;omega) _⟩
 have g4:decide (sf≤0)=false:=decide_eq_false y4
 have e:=T5.out (by trivial) (by trivial) (by omega) (by omega)
 subst e
 clear T1 T2 T3 T4 T5 CI CF C0 SG
 replace O1:=Lib.hid (O1.out.x W)
 replace M1:=Lib.hid (M1.out.x W)
 go_upto_region 5 with fail
 go_cut [7] (fun p7 wx=>BoxAtQ W fp p7 wx)
 case first =>
  obtain ⟨q0,q1,_,_⟩:=frBlk HB.out (Ext.refl W)
  have HD:Hid (Ext W W.drew):=Lib.hid (Ext.refl W).drew
  have HBP:=Lib.hid (HB.out.drew)
  have HLE:=Lib.hid (Nat.le_refl W.heap.size)
  go_region_held3 (fun w'=>w'.cell? ⟨w.heap.size,0,none⟩=some (.string (bs n1))∧w'.cell? ⟨w.heap.size,1,none⟩=some (.string (bs e1)))
   (go_keep)
   (first
    |(go_at_call 197;((with_reducible refine (O1.out _ HD.out).mono ?_);rintro e w5 ⟨rfl,hx⟩);(replace HD:=Lib.hid (HD.out.trans hx));(obtain ⟨q2,q3,_,_⟩:=frBlk HB.out HD.out);(replace HBP:=Lib.hid (HBP.out.ext hx));(obtain ⟨p0,p1,p2,p3⟩:=frBlk HBP.out (Ext.refl _));(have hq5:=Nat.ne_of_lt (HB.out.ext HD.out).lt);(have hq6:=Nat.ne_of_gt (HB.out.ext HD.out).lt);clear hx)
    |(go_at_call 197;((with_reducible refine (O1.out _ (HD.out.alloc _)).mono ?_);rintro e w5 ⟨rfl,hx⟩);(have HLE:=Lib.hid HD.out.size);(have hpq:=Nat.ne_of_lt (Nat.lt_of_lt_of_le HB.out.lt HLE.out));(have hqp:=Nat.ne_of_gt (Nat.lt_of_lt_of_le HB.out.lt HLE.out));(have HBP:=Lib.hid ((Blk.new _ _ _).ext hx));(replace HD:=Lib.hid ((HD.out.alloc _).trans hx));(obtain ⟨q2,q3,_,_⟩:=frBlk HB.out HD.out);(obtain ⟨p0,p1,p2,p3⟩:=frBlk HBP.out (Ext.refl _));(have hq5:=Nat.ne_of_lt (HB.out.ext HD.out).lt);(have hq6:=Nat.ne_of_gt (HB.out.ext HD.out).lt);clear hx)
    |(go_at_call 197;((with_reducible refine (O1.out _ ((Ext.new _ _).drew)).mono ?_);rintro e w5 ⟨rfl,hx⟩);(have HLE:=Lib.hid (Nat.le_refl W.heap.size));(have hpq:=Nat.ne_of_lt (Nat.lt_of_lt_of_le HB.out.lt HLE.out));(have hqp:=Nat.ne_of_gt (Nat.lt_of_lt_of_le HB.out.lt HLE.out));(have HBP:=Lib.hid (((Blk.new _ _ _).drew).ext hx));(replace HD:=Lib.hid (((Ext.new W _).drew).trans hx));(obtain ⟨q2,q3,_,_⟩:=frBlk HB.out HD.out);(obtain ⟨p0,p1,p2,p3⟩:=frBlk HBP.out (Ext.refl _));(have hq5:=Nat.ne_of_lt (HB.out.ext HD.out).lt);(have hq6:=Nat.ne_of_gt (HB.out.ext HD.out).lt);clear hx)
    |(go_at_call 168;((with_reducible refine (M1.out _ HD.out).mono ?_);rintro e w5 ⟨rfl,hx⟩);(replace HD:=Lib.hid (HD.out.trans hx));(obtain ⟨q2,q3,_,_⟩:=frBlk HB.out HD.out);(replace HBP:=Lib.hid (HBP.out.ext hx));(obtain ⟨p0,p1,p2,p3⟩:=frBlk HBP.out (Ext.refl _));(have hq5:=Nat.ne_of_lt (HB.out.ext HD.out).lt);(have hq6:=Nat.ne_of_gt (HB.out.ext HD.out).lt);clear hx)
    |(go_at_call 168;((with_reducible refine (M1.out _ (HD.out.alloc _)).mono ?_);rintro e w5 ⟨rfl,hx⟩);(have HLE:=Lib.hid HD.out.size);(have hpq:=Nat.ne_of_lt (Nat.lt_of_lt_of_le HB.out.lt HLE.out));(have hqp:=Nat.ne_of_gt (Nat.lt_of_lt_of_le HB.out.lt HLE.out));(have HBP:=Lib.hid ((Blk.new _ _ _).ext hx));(replace HD:=Lib.hid ((HD.out.alloc _).trans hx));(obtain ⟨q2,q3,_,_⟩:=frBlk HB.out HD.out);(obtain ⟨p0,p1,p2,p3⟩:=frBlk HBP.out (Ext.refl _));(have hq5:=Nat.ne_of_lt (HB.out.ext HD.out).lt);(have hq6:=Nat.ne_of_gt (HB.out.ext HD.out).lt);clear hx)
    |(go_at_call 168;((with_reducible refine (M1.out _ ((Ext.new _ _).drew)).mono ?_);rintro e w5 ⟨rfl,hx⟩);(have HLE:=Lib.hid (Nat.le_refl W.heap.size));(have hpq:=Nat.ne_of_lt (Nat.lt_of_lt_of_le HB.out.lt HLE.out));(have hqp:=Nat.ne_of_gt (Nat.lt_of_lt_of_le HB.out.lt HLE.out));(have HBP:=Lib.hid (((Blk.new _ _ _).drew).ext hx));(replace HD:=Lib.hid (((Ext.new W _).drew).trans hx));(obtain ⟨q2,q3,_,_⟩:=frBlk HB.out HD.out);(obtain ⟨p0,p1,p2,p3⟩:=frBlk HBP.out (Ext.refl _));(have hq5:=Nat.ne_of_lt (HB.out.ext HD.out).lt);(have hq6:=Nat.ne_of_gt (HB.out.ext HD.out).lt);clear hx)
    |fail)
  all_goals
   go_wp2_with fail
   go_meet
   first
    |exact ⟨_,rfl,HD.out.size,Blk.new _ _ _,HD.out.alloc _⟩
    |exact ⟨_,rfl,HLE.out,(HBP.out.set_ 0 _).set_ 1 _,(HD.out.setCell (p:=⟨_,0,none⟩) HLE.out _).setCell (p:=⟨_,1,none⟩) HLE.out _⟩
 case rest =>
  obtain ⟨Q,rfl,hle,hbp,hxw⟩:=hcut
  have hQ1:Q≠w.heap.size+1:=by have:=HP.out.lt;omega
  have hQ2:w.heap.size+1≠Q:=fun e=>hQ1 e.symm
  have HBZ:=Lib.hid hbp
  replace HX:=Lib.hid (HX.out.trans hxw)
  replace HP:=Lib.hid (HP.out.ext hxw)
  clear hbp hxw O1 M1 HB hle
  obtain ⟨z0,z1,_,_⟩:=frBlk HBZ.out (Ext.refl _)
  go_wp2_with fail
  refine (F1.out _).mono ?_
  rintro e W2 ⟨rfl,hx1⟩
  replace HBZ:=Lib.hid (HBZ.out.ext hx1)
  replace HP:=Lib.hid (HP.out.ext hx1)
  replace HX:=Lib.hid (HX.out.trans hx1)
  clear hx1
  clear z0 z1 F1
  obtain ⟨z0,z1,_,_⟩:=frBlk HBZ.out (Ext.refl _)
  obtain ⟨c0,c1,d0,d1⟩:=frBlk HP.out (Ext.refl _)
  go_wp2_with fail
  have HD:Hid (Ext W2 W2.drew):=Lib.hid (Ext.refl W2).drew
  go_region_held3 (fun w'=>w'.cell? ⟨Q,0,none⟩=some (.string (bs fp.num))∧w'.cell? ⟨Q,1,none⟩=some (.string (bs fp.den)))
   (go_keep)
   (first
    |(go_at_call 197;((with_reducible refine (O2.out _).mono ?_);rintro e w5 ⟨rfl,hx⟩);(replace HD:=Lib.hid (HD.out.trans hx));(obtain ⟨z2,z3,_,_⟩:=frBlk HBZ.out HD.out);(obtain ⟨c2,c3,d2,d3⟩:=frBlk HP.out HD.out);clear hx)
    |(go_at_call 231;((with_reducible refine (S1.out _).mono ?_);rintro e w5 ⟨rfl,hx⟩);(replace HD:=Lib.hid (HD.out.trans hx));(obtain ⟨z2,z3,_,_⟩:=frBlk HBZ.out HD.out);(obtain ⟨c2,c3,d2,d3⟩:=frBlk HP.out HD.out);clear hx)
    |fail)
  all_goals
   go_wp2_with fail
   refine bodyPost_ret (results_tft rfl _ _ (w.heap.size+1) (.string (bs rr.num)) (.string (bs rr.den)) (.string (bs z)) (.int .i64 0) rfl rfl rfl (((HP.out.ext HD.out).set_ 0 _).set_ 1 _)) rfl ?_
   exact ⟨rfl,((HX.out.trans HD.out).setCell (p:=⟨w.heap.size+1,0,none⟩) (by show w.heap.size≤w.heap.size+1;omega) _).setCell (p:=⟨w.heap.size+1,1,none⟩) (by show w.heap.size≤w.heap.size+1;omega) _⟩
end
section
open Go.RowKit
attribute [local go_sem] size_bs toList_bs
theorem results_ttf {fn:Func} {a0 a b:Tmp} (h:fn.results=#[.tmp a0,.tmp a,.cell b 26]) (tmps:Array Value) (w:World) (g:Nat) (x y z0 z:Value) (hz0:tmps.getD a0 undef=z0) (hz:tmps.getD a undef=z) (ha:tmps.getD b undef = .pointer (some ⟨g,0,none⟩)) (hb:Blk w g 26 #[x,y]) :
  (results fn tmps).run Tryz.prog w = .ok (.tuple #[z0,z,.agg #[x,y]]) w:=by
 obtain ⟨q0,q1,_,_⟩:=frBlk hb (Ext.refl _)
 unfold results
 rw [h]
 simp only [List.mapM_toArray,List.mapM_cons,List.mapM_nil,ha,hz,hz0]
 go_simp
theorem valZ_one (x:Rat):valZ (ofQ x) [49]=roundQ x:=by
 unfold valZ;rw [frQ_ofQ,show valI [49]=1 by decide +kernel];simp
theorem termsZ_eq (o:OptV) (q:Bs) (r:Fr):termsZ o q r=ofI (valZ o.p q+roundQ (frQ r*frQ o.v)):=by
 unfold termsZ;rw [valZ_one]
theorem termsZ_nil (o:OptV) (q:Bs):termsZ o q ⟨[],[]⟩=ofI (valZ o.p q):=by
 rw [termsZ_eq,frQ_nilN,Rat.zero_mul,show roundQ 0=0 from by have:=roundQ_int 0;simpa using this,Int.add_zero]
structure TermsD (o:OptV) (q:Bs) (rest:Fr) (x y:Bs) (m:Fr) (z:Bs):Prop where
 mu:PureR 168 #[fv rest,fv o.v] (fv m)
 ro:PureR 170 #[fv m] (.string (bs y))
 ad:PureR 121 #[.string (bs x),.string (bs y)] (.string (bs z))
theorem termsD {L M:Nat} (h0:0<L) (hL:L≤500) (hM:M≤4010) (o:OptV) (q:Bs) (rest:Fr) (hs:OptSm L o) (hq:q.length≤L) (r1:rest.num.length≤M) (r2:rest.den.length≤M) (hm:0<M) :
  ∃ y m,TermsD o q rest (ofI (valZ o.p q)) y m (termsZ o q rest):=by
 obtain ⟨s0,s1,s2,s3,s4,s5,s6⟩:=hs
 have qv:=val_qb h0 s3 s4 hq
 have k1:(ofI (valZ o.p q)).length≤L+L+2:=round_len qv
 have qm:=(frQ_qb r1 r2 hm).mul (frQ_qb s5 s6 h0)
 have m1:=qm.num_len
 have m2:=qm.den_len
 have k2:(ofI (roundQ (frQ rest*frQ o.v))).length≤(M+L)+2:=round_len qm
 have ro:=rf24Round (ofQ (frQ rest*frQ o.v)) (by omega) (by omega)
 rw [frQ_ofQ] at ro
 refine ⟨_,_,refMulF rest o.v (by omega) (by omega) (by omega) (by omega),ro,?_⟩
 have:=addR (ofI (valZ o.p q)) (ofI (roundQ (frQ rest*frQ o.v))) (by omega) (by omega)
 rw [valI_ofI,valI_ofI,← termsZ_eq] at this
 exact this
theorem rfTermsOf {L:Nat} (h0:0<L) (hL:L≤500) (o:OptV) (q:Bs) (hs:OptSm L o) (hq:q.length≤L) :
  PureR 101 #[ov o,.string (bs q)] (.tuple #[.string (bs (termsS o q).1),.string (bs (termsZ o q (termsS o q).2.1)),fv (termsS o q).2.1]):=by
 intro w
 have V:=Lib.hid (rfVal h0 (by omega) o.p q hs.2.2.2.1 hs.2.2.2.2.1 hq)
 have PT:=Lib.hid (rf24Parts h0 (by omega) q o.r hq hs.2.1 hs.2.2.1)
 obtain ⟨l1,l2⟩:=rest_len h0 hq hs.2.1 hs.2.2.1
 have C1:=Lib.hid (termsD h0 hL (by omega) o q (partsV q o.r).2.1 hs hq l1 l2 (by omega))
 have S1:Hid (o.other=[]→(termsS o q)=([],⟨[],[]⟩,0)∧termsZ o q ⟨[],[]⟩=ofI (valZ o.p q)):=Lib.hid (fun h=>⟨by unfold termsS;rw [if_pos h],termsZ_nil o q⟩)
 have S2:Hid (o.other≠[]→termsS o q=partsV q o.r):=Lib.hid (fun h=>by unfold termsS;rw [if_neg h])
 clear l1 l2
 generalize termsS o q=T at *
 generalize ofI (valZ o.p q)=x at *
 generalize hz0:termsZ o q ⟨[],[]⟩=zz at *
 by_cases h1:o.other=[]
 ·obtain ⟨e1,e2⟩:=S1.out h1
  subst e1
  dsimp only
  rw [hz0]
  subst e2
  obtain ⟨ot,⟨rn,rd⟩,⟨pn,pd⟩,⟨vn,vd⟩⟩:=o
  dsimp only at h1
  have H1:=Lib.hid h1
  clear S1 S2 PT C1 hs hq h0 hL hz0 h1
  have hn1:w.heap.size≠w.heap.size+1:=by omega
  have hn2:w.heap.size+1≠w.heap.size:=by omega
  have hn3:¬ (w.heap.size=w.heap.size+1):=by omega
  have HB:=Lib.hid ((Blk.new w 50 #[.string (bs ot),.string (bs rn),.string (bs rd),.string (bs pn),.string (bs pd),.string (bs vn),.string (bs vd)]).alloc (.cells #[.string ⟨#[]⟩,.string ⟨#[]⟩] 26))
  have HP:=Lib.hid (Blk.newAt (w.alloc (.cells #[.string (bs ot),.string (bs rn),.string (bs rd),.string (bs pn),.string (bs pd),.string (bs vn),.string (bs vd)] 50)) 26 #[.string ⟨#[]⟩,.string ⟨#[]⟩] (w.heap.size+1) (by simp))
  have HX:Hid (Ext w ((w.alloc (.cells #[.string (bs ot),.string (bs rn),.string (bs rd),.string (bs pn),.string (bs pd),.string (bs vn),.string (bs vd)] 50)).alloc (.cells #[.string ⟨#[]⟩,.string ⟨#[]⟩] 26))):=Lib.hid ((Ext.new _ _).alloc _)
  go_enter Tryz.func101,Tryz.ntmps101
  go_upto_region 1 with fail
  generalize (w.alloc (.cells #[.string (bs ot),.string (bs rn),.string (bs rd),.string (bs pn),.string (bs pd),.string (bs vn),.string (bs vd)] 50)).alloc (.cells #[.string ⟨#[]⟩,.string ⟨#[]⟩] 26)=W0 at *
  replace HB:Hid (Blk W0 w.heap.size 50 (oc ⟨ot,⟨rn,rd⟩,⟨pn,pd⟩,⟨vn,vd⟩⟩)):=HB
  obtain ⟨b0,b1,b2,b3,b4,b5,b6⟩:=optBlk HB.out (Ext.refl _)
  go_wp2_with fail
  refine (V.out _).mono ?_
  rintro e v4 ⟨rfl,hx1⟩
  replace HB:=Lib.hid (HB.out.ext hx1)
  replace HP:=Lib.hid (HP.out.ext hx1)
  replace HX:=Lib.hid (HX.out.trans hx1)
  clear hx1
  have h1:=H1.out
  subst h1
  clear H1
  clear b0 b1 b2 b3 b4 b5 b6
  obtain ⟨b0,b1,b2,b3,b4,b5,b6⟩:=optBlk HB.out (Ext.refl _)
  obtain ⟨c0,c1,d0,d1⟩:=frBlk HP.out (Ext.refl _)
  go_wp2_with fail
  refine bodyPost_ret (results_ttf rfl _ _ (w.heap.size+1) (.string ⟨#[]⟩) (.string ⟨#[]⟩) (.string ⟨#[]⟩) (.string (bs _)) rfl rfl rfl ((HP.out.set_ 0 _).set_ 1 _)) rfl ?_
  exact ⟨rfl,(HX.out.setCell (p:=⟨w.heap.size+1,0,none⟩) (by show w.heap.size≤w.heap.size+1;omega) _).setCell (p:=⟨w.heap.size+1,1,none⟩) (by show w.heap.size≤w.heap.size+1;omega) _⟩
 ·have e1:=S2.out h1
  rw [e1]
  clear hz0 e1
  clear S1 S2
  obtain ⟨y,m,hc⟩:=C1.out
  have M1:=Lib.hid hc.mu
  have R1:=Lib.hid hc.ro
  have A1:=Lib.hid hc.ad
  clear hc C1
  generalize termsZ o q (partsV q o.r).2.1=z at *
  generalize partsV q o.r=S at *
  obtain ⟨sh,⟨sn,sd⟩,se⟩:=S
  dsimp only at *
  obtain ⟨ot,⟨rn,rd⟩,⟨pn,pd⟩,⟨vn,vd⟩⟩:=o
  dsimp only at h1
  have qo:=bs_ne' h1
  have qe:ot.isEmpty=false:=by simpa using h1
  clear hs hq h0 hL
  have hn1:w.heap.size≠w.heap.size+1:=by omega
  have hn2:w.heap.size+1≠w.heap.size:=by omega
  have hn3:¬ (w.heap.size=w.heap.size+1):=by omega
  have HB:=Lib.hid ((Blk.new w 50 #[.string (bs ot),.string (bs rn),.string (bs rd),.string (bs pn),.string (bs pd),.string (bs vn),.string (bs vd)]).alloc (.cells #[.string ⟨#[]⟩,.string ⟨#[]⟩] 26))
  have HP:=Lib.hid (Blk.newAt (w.alloc (.cells #[.string (bs ot),.string (bs rn),.string (bs rd),.string (bs pn),.string (bs pd),.string (bs vn),.string (bs vd)] 50)) 26 #[.string ⟨#[]⟩,.string ⟨#[]⟩] (w.heap.size+1) (by simp))
  have HX:Hid (Ext w ((w.alloc (.cells #[.string (bs ot),.string (bs rn),.string (bs rd),.string (bs pn),.string (bs pd),.string (bs vn),.string (bs vd)] 50)).alloc (.cells #[.string ⟨#[]⟩,.string ⟨#[]⟩] 26))):=Lib.hid ((Ext.new _ _).alloc _)
  go_enter Tryz.func101,Tryz.ntmps101
  go_upto_region 1 with fail
  generalize (w.alloc (.cells #[.string (bs ot),.string (bs rn),.string (bs rd),.string (bs pn),.string (bs pd),.string (bs vn),.string (bs vd)] 50)).alloc (.cells #[.string ⟨#[]⟩,.string ⟨#[]⟩] 26)=W0 at *
  replace HB:Hid (Blk W0 w.heap.size 50 (oc ⟨ot,⟨rn,rd⟩,⟨pn,pd⟩,⟨vn,vd⟩⟩)):=HB
  obtain ⟨b0,b1,b2,b3,b4,b5,b6⟩:=optBlk HB.out (Ext.refl _)
  go_wp2_with fail
  refine (V.out _).mono ?_
  rintro e v10 ⟨rfl,hx1⟩
  replace HB:=Lib.hid (HB.out.ext hx1)
  replace HP:=Lib.hid (HP.out.ext hx1)
  replace HX:=Lib.hid (HX.out.trans hx1)
  clear hx1
  clear b0 b1 b2 b3 b4 b5 b6
  obtain ⟨b0,b1,b2,b3,b4,b5,b6⟩:=optBlk HB.out (Ext.refl _)
  go_wp2_with fail
  refine (PT.out _).mono ?_
  rintro e W2 ⟨rfl,hx1⟩
  replace HB:=Lib.hid (HB.out.ext hx1)
  replace HP:=Lib.hid (HP.out.ext hx1)
  replace HX:=Lib.hid (HX.out.trans hx1)
  clear hx1
  clear b0 b1 b2 b3 b4 b5 b6
  obtain ⟨b0,b1,b2,b3,b4,b5,b6⟩:=optBlk HB.out (Ext.refl _)
  have HBZ:=Lib.hid (Blk.new W2 26 #[.string (bs sn),.string (bs sd)])
  replace HB:=Lib.hid (HB.out.alloc (.cells #[.string (bs sn),.string (bs sd)] 26))
  have hQ1:W2.heap.size≠w.heap.size+1:=by have:=HP.out.lt;omega
  replace HP:=Lib.hid (HP.out.alloc (.cells #[.string (bs sn),.string (bs sd)] 26))
  replace HX:=Lib.hid (HX.out.alloc (.cells #[.string (bs sn),.string (bs sd)] 26))
  have hQ2:w.heap.size+1≠W2.heap.size:=fun e=>hQ1 e.symm
  go_wp2_with fail
  generalize W2.heap.size=Q at *
  generalize W2.alloc (.cells #[.string (bs sn),.string (bs sd)] 26)=W3 at *
  clear b0 b1 b2 b3 b4 b5 b6
  obtain ⟨b0,b1,b2,b3,b4,b5,b6⟩:=optBlk HB.out (Ext.refl _)
  obtain ⟨z0,z1,_,_⟩:=frBlk HBZ.out (Ext.refl _)
  obtain ⟨c0,c1,d0,d1⟩:=frBlk HP.out (Ext.refl _)
  have HD:Hid (Ext W3 W3.drew):=Lib.hid (Ext.refl W3).drew
  go_region_held3 (fun w'=>w'.cell? ⟨Q,0,none⟩=some (.string (bs sn))∧w'.cell? ⟨Q,1,none⟩=some (.string (bs sd))∧w'.cell? ⟨w.heap.size,5,none⟩=some (.string (bs vn))∧w'.cell? ⟨w.heap.size,6,none⟩=some (.string (bs vd)))
   (go_keep)
   (first
    |(go_at_call 168;((with_reducible refine (M1.out _).mono ?_);rintro e w5 ⟨rfl,hx⟩);(replace HD:=Lib.hid (HD.out.trans hx));(obtain ⟨_,_,_,b3,b4,b5,b6⟩:=optBlk HB.out HD.out);(obtain ⟨z2,z3,_,_⟩:=frBlk HBZ.out HD.out);(obtain ⟨c2,c3,d2,d3⟩:=frBlk HP.out HD.out);clear hx)
    |(go_at_call 170;((with_reducible refine (R1.out _).mono ?_);rintro e w5 ⟨rfl,hx⟩);(replace HD:=Lib.hid (HD.out.trans hx));(obtain ⟨_,_,_,b3,b4,b5,b6⟩:=optBlk HB.out HD.out);(obtain ⟨z2,z3,_,_⟩:=frBlk HBZ.out HD.out);(obtain ⟨c2,c3,d2,d3⟩:=frBlk HP.out HD.out);clear hx)
    |(go_at_call 121;((with_reducible refine (A1.out _).mono ?_);rintro e w5 ⟨rfl,hx⟩);(replace HD:=Lib.hid (HD.out.trans hx));(obtain ⟨_,_,_,b3,b4,b5,b6⟩:=optBlk HB.out HD.out);(obtain ⟨z2,z3,_,_⟩:=frBlk HBZ.out HD.out);(obtain ⟨c2,c3,d2,d3⟩:=frBlk HP.out HD.out);clear hx)
    |fail)
  all_goals
   go_wp2_with fail
   refine bodyPost_ret (results_ttf rfl _ _ (w.heap.size+1) (.string (bs sn)) (.string (bs sd)) (.string (bs sh)) (.string (bs z)) rfl rfl rfl (((HP.out.ext HD.out).set_ 0 _).set_ 1 _)) rfl ?_
   exact ⟨rfl,((HX.out.trans HD.out).setCell (p:=⟨w.heap.size+1,0,none⟩) (by show w.heap.size≤w.heap.size+1;omega) _).setCell (p:=⟨w.heap.size+1,1,none⟩) (by show w.heap.size≤w.heap.size+1;omega) _⟩
end
section
open Go.RowKit
attribute [local go_sem] size_bs toList_bs
theorem signR3 (a:Bs) (ha:a.length≤90000):PureR 75 #[.string (bs a)] (.int .i64 (cmpI (valI a) 0)):=fun W=>still (refSign a W (by omega))
end
end Go.Proofs.YthgpheopnhajaaaGreatDoor
