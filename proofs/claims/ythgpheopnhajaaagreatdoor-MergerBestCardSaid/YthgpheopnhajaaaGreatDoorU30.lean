/- The seat's texts, part U30. -/
import Derived.Test.YthgpheopnhajaaaGreatDoorU14
import Derived.Test.YthgpheopnhajaaaGreatDoorU17
import Derived.Test.YthgpheopnhajaaaGreatDoorU19
import Derived.Test.YthgpheopnhajaaaGreatDoorU23
import Derived.Test.YthgpheopnhajaaaGreatDoorU26
import Derived.Test.YthgpheopnhajaaaGreatDoorU29
import Derived.Deep.RegionHeld3
import Derived.BigQuiet
import Derived.Deep.MidRow
import Derived.BigRegion
set_option maxRecDepth 100000
set_option maxHeartbeats 8000000
namespace Go.Proofs.YthgpheopnhajaaaGreatDoor
section
open Go.RowKit
attribute [local go_sem] size_bs toList_bs
theorem lim_num (f:Fr) (h:numE f=0):limE f false=0:=by
 have hn:=numF f
 have hl:=limF f false
 rw [h] at hn
 have c:checkF f=0:=by
  by_cases a:checkF f=0
  ·exact a
  ·exact absurd (hn.c a) (by decide)
 have d1:¬ (40<digN f.num∨40<digN f.den):=fun a=>absurd (hn.d c a) (by decide)
 have s:¬ cmpQ (frQ f) 0<0:=fun a=>absurd (hn.s c (by omega) (by omega) a) (by decide)
 exact hl.k c (by omega) (by omega) (by simp;omega)
def NumOK (n d:Bs):Prop:=numE ⟨n,d⟩=0∧n.length≤9000∧d.length≤9000
theorem limGood {n d:Bs} (h:NumOK n d) (g1 g2:Nat) (w:World) (hE:Env w) (b1:Blk w g1 4 #[.bool false]) (b2:Blk w g2 4 #[.bool false]) :
  Calls Tryz.prog 216 #[fv ⟨n,d⟩,.pointer (some ⟨g1,0,none⟩),.pointer (some ⟨g2,0,none⟩)] w fun e w'=>e = .returned (.int .i64 0)∧Ext w w':=by
 have:=limOK ⟨n,d⟩ h.2.1 h.2.2 false g1 g2 w hE b1 b2
 rwa [lim_num _ h.1] at this
structure OptOK (o:OptV) (ins:Bs):Prop where
 e:optE o=0
 ne:o.other≠ins
 sm:OptSm 9000 o
theorem fkOptions (key:Bs) (day:Int) (ins:Bs) (A:Option Addr) (os:List OptV) (c:Nat) (w:World) (hA:RdO w A os) (h0:0<os.length) (h8:os.length≤8) (hg:∀ o ∈ os,OptOK o ins) (hE:Env w) :
  Calls Tryz.prog 157 #[xv key day ins A os.length c] w fun e w'=>e = .returned (.int .i64 0)∧Ext w w':=by
 have HE:=Lib.hid hE
 have HA:=Lib.hid hA
 have HOK:=Lib.hid hg
 have HB:=Lib.hid (Blk.new w 30 (xc key day ins A os.length c))
 have HX:Hid (Ext w (w.alloc (.cells (xc key day ins A os.length c) 30))):=Lib.hid (Ext.new _ _)
 have q0:((os.length:Int) == 0)=false:=by rw [beq_eq_false_iff_ne];omega
 have q8:decide (8<(os.length:Int))=false:=by rw [decide_eq_false_iff_not];omega
 clear hA hg hE
 go_enter Tryz.func157,Tryz.ntmps157
 obtain ⟨x0,x1,x2,x3,x4,x5,x6,x7,x8,x9,x10,x11,x12,x13,x14,x15,x16,x17,x18,x19,x20⟩:=xBlk HB.out (Ext.refl _)
 clear x0 x1 x2 x3 x4 x6 x7 x8 x9 x10 x11 x12 x13 x14 x15 x16 x17 x18 x20
 go_wp2_with fail
 generalize w.alloc (.cells (xc key day ins A os.length c) 30)=W0 at *
 generalize hgx:w.heap.size=gx at *
 go_loopw [19,4,6,7] (fun i _ _ _ wr=>∃ k:Nat,k≤os.length∧i = .int .i64 k∧Ext W0 wr) (fun i _ _ _ _=>os.length-(intOf i).toNat)
 case atStart=>exact ⟨0,by omega,rfl,Ext.refl _⟩
 case round =>
  obtain ⟨k,hk,rfl,hx⟩:=hrel
  replace HX:=Lib.hid (HX.out.trans hx)
  replace HB:=Lib.hid (HB.out.ext hx)
  have HL:=Lib.hid hx
  clear hx
  by_cases hlt:k<os.length
  ·obtain ⟨b,o,rfl,hb,c0,c1,c2,c3,c4,c5,c6⟩:=(HA.out.ext HX.out).at_ hlt
   have ok:=HOK.out _ (List.getElem_mem hlt)
   obtain ⟨hgo,n1,n2,n3,hbad⟩:=opt_ok ok.e
   obtain ⟨s0,s1,s2,s3,s4,s5,s6⟩:=ok.sm
   have hne:=ok.ne
   have hki:(k:Int)<(os.length:Int):=by omega
   have hk0:(0:Int)≤(k:Int):=by omega
   clear ok HOK
   generalize os[k]'hlt=y at *
   obtain ⟨ot,⟨rn,rd⟩,⟨pn,pd⟩,⟨vn,vd⟩⟩:=y
   dsimp only at c0 c1 c2 c3 c4 c5 c6 hgo n1 n2 n3 s0 s1 s2 s3 s4 s5 s6 hne
   have R1:Hid (NumOK rn rd):=Lib.hid ⟨n1,s1,s2⟩
   have R2:Hid (NumOK pn pd):=Lib.hid ⟨n2,s3,s4⟩
   have R3:Hid (NumOK vn vd):=Lib.hid ⟨n3,s5,s6⟩
   have HNm:=Lib.hid (fun W=>insName ot W (by omega))
   have qi:(ot == ins)=false:=beq_eq_false_iff_ne.2 hne
   clear n1 n2 n3 s0 s1 s2 s3 s4 s5 s6 hne
   have HG:=Lib.hid (Blk.new wr 50 (oc ⟨ot,⟨rn,rd⟩,⟨pn,pd⟩,⟨vn,vd⟩⟩))
   replace HX:=Lib.hid (HX.out.alloc (.cells (oc ⟨ot,⟨rn,rd⟩,⟨pn,pd⟩,⟨vn,vd⟩⟩) 50))
   replace HL:=Lib.hid (HL.out.alloc (.cells (oc ⟨ot,⟨rn,rd⟩,⟨pn,pd⟩,⟨vn,vd⟩⟩) 50))
   replace HB:=Lib.hid (HB.out.alloc (.cells (oc ⟨ot,⟨rn,rd⟩,⟨pn,pd⟩,⟨vn,vd⟩⟩) 50))
   obtain ⟨x0,x1,x2,x3,x4,x5,x6,x7,x8,x9,x10,x11,x12,x13,x14,x15,x16,x17,x18,x19,x20⟩:=xBlk HB.out (Ext.refl _)
   clear x0 x1 x2 x3 x4 x6 x7 x8 x9 x10 x11 x12 x13 x14 x15 x16 x17 x18 x19 x20
   by_cases h0:ot=[]
   ·subst h0
    obtain ⟨r0,r1,r2,r3,r4,r5,r6⟩:=optBlk HG.out (Ext.refl _)
    obtain ⟨x0,x1,x2,x3,x4,x5,x6,x7,x8,x9,x10,x11,x12,x13,x14,x15,x16,x17,x18,x19,x20⟩:=xBlk HB.out (Ext.refl _)
    clear x0 x1 x2 x3 x4 x6 x7 x8 x9 x10 x11 x12 x13 x14 x15 x16 x17 x18 x19 x20
    have HS:=Lib.hid (Blk.newAt (wr.alloc (.cells (oc ⟨[],⟨rn,rd⟩,⟨pn,pd⟩,⟨vn,vd⟩⟩) 50)) 26 #[.string (bs rn),.string (bs rd),.string (bs pn),.string (bs pd),.string (bs vn),.string (bs vd)] (wr.heap.size+1) (by simp))
    replace HX:=Lib.hid (HX.out.alloc (.cells #[.string (bs rn),.string (bs rd),.string (bs pn),.string (bs pd),.string (bs vn),.string (bs vd)] 26))
    replace HL:=Lib.hid (HL.out.alloc (.cells #[.string (bs rn),.string (bs rd),.string (bs pn),.string (bs pd),.string (bs vn),.string (bs vd)] 26))
    replace HB:=Lib.hid (HB.out.alloc (.cells #[.string (bs rn),.string (bs rd),.string (bs pn),.string (bs pd),.string (bs vn),.string (bs vd)] 26))
    replace HG:=Lib.hid (HG.out.alloc (.cells #[.string (bs rn),.string (bs rd),.string (bs pn),.string (bs pd),.string (bs vn),.string (bs vd)] 26))
    go_wp2_with fail
    clear r0 r1 r2 r3 r4 r5 r6 x5
    generalize (wr.alloc (.cells (oc ⟨[],⟨rn,rd⟩,⟨pn,pd⟩,⟨vn,vd⟩⟩) 50)).alloc (.cells #[.string (bs rn),.string (bs rd),.string (bs pn),.string (bs pd),.string (bs vn),.string (bs vd)] 26)=W5 at *
    generalize wr.heap.size=G4 at *
    go_loopw [45,6,7] (fun i _ _ wr=>∃ j:Nat,j≤3∧i = .int .i64 j∧Ext w wr∧Ext W0 wr∧Blk wr gx 30 (xc key day ins (some ⟨b,o,none⟩) os.length c)∧Blk wr G4 50 (oc ⟨[],⟨rn,rd⟩,⟨pn,pd⟩,⟨vn,vd⟩⟩)∧Blk wr (G4+1) 26 #[.string (bs rn),.string (bs rd),.string (bs pn),.string (bs pd),.string (bs vn),.string (bs vd)]) (fun i _ _ _=>3-(intOf i).toNat)
    case atStart=>exact ⟨0,by omega,rfl,HX.out,HL.out,HB.out,HG.out,HS.out⟩
    case round =>
     clear HX HL HB HG HS
     obtain ⟨j,hj,rfl,hx,hl,hb,hg,hs⟩:=hrel
     have HX:=Lib.hid hx
     have HL:=Lib.hid hl
     have HB:=Lib.hid hb
     have HG:=Lib.hid hg
     have HS:=Lib.hid hs
     clear hx hl hb hg hs
     obtain rfl | rfl | rfl | rfl:j=0∨j=1∨j=2∨j=3:=by omega
     ·skip
      have a0:=HS.out.cell 0
      have a1:=HS.out.cell 1
      simp only [List.getElem?_toArray,List.getElem?_cons_zero,List.getElem?_cons_succ] at a0 a1
      have HV:=Lib.hid (Blk.new wr 26 #[.string (bs rn),.string (bs rd)])
      replace HX:=Lib.hid (HX.out.alloc (.cells #[.string (bs rn),.string (bs rd)] 26))
      replace HL:=Lib.hid (HL.out.alloc (.cells #[.string (bs rn),.string (bs rd)] 26))
      replace HB:=Lib.hid (HB.out.alloc (.cells #[.string (bs rn),.string (bs rd)] 26))
      replace HG:=Lib.hid (HG.out.alloc (.cells #[.string (bs rn),.string (bs rd)] 26))
      replace HS:=Lib.hid (HS.out.alloc (.cells #[.string (bs rn),.string (bs rd)] 26))
      have LG:=Lib.hid (fun g1 g2 W hE b1 b2=>limGood R1.out g1 g2 W hE b1 b2)
      clear R1 R2 R3
      go_upto_region 15 with fail
      generalize wr.alloc (.cells #[.string (bs rn),.string (bs rd)] 26)=W6 at *
      generalize wr.heap.size=G6 at *
      obtain ⟨b0,b1,_,_⟩:=frBlk HV.out (Ext.refl _)
      have HD:Hid (Ext W6 W6.drew):=Lib.hid (Ext.refl W6).drew
      go_region_held3 (fun w'=>w'.cell? ⟨G6,0,none⟩=some (.string (bs rn))∧w'.cell? ⟨G6,1,none⟩=some (.string (bs rd)))
       (go_keep)
       (first
        |(go_at_call 150;((with_reducible refine (fkBetween false false _).mono ?_);rintro e w5 ⟨rfl,hb1,hb2,hx5⟩);(replace HD:=Lib.hid (HD.out.trans hx5));(have HB1:Hid (Blk w5 W6.heap.size 4 #[.bool false]):=Lib.hid hb1);(have HB2:Hid (Blk w5 (W6.heap.size+1) 4 #[.bool false]):=Lib.hid hb2);(obtain ⟨b0,b1,_,_⟩:=frBlk HV.out HD.out);clear hx5 hb1 hb2)
        |(go_at_call 216;((with_reducible refine (LG.out _ _ _ (HE.out.ext (HX.out.trans HD.out)) HB1.out HB2.out).mono ?_);rintro e w6 ⟨rfl,hx6⟩);(replace HD:=Lib.hid (HD.out.trans hx6));(obtain ⟨b0,b1,_,_⟩:=frBlk HV.out HD.out);clear hx6)
        |fail)
      all_goals
       go_wp2_with fail
       exact ⟨⟨1,by omega,by go_num,HX.out.trans HD.out,HL.out.trans HD.out,HB.out.ext HD.out,HG.out.ext HD.out,HS.out.ext HD.out⟩,by simp [intOf]⟩
     ·skip
      have a0:=HS.out.cell 2
      have a1:=HS.out.cell 3
      simp only [List.getElem?_toArray,List.getElem?_cons_zero,List.getElem?_cons_succ] at a0 a1
      have HV:=Lib.hid (Blk.new wr 26 #[.string (bs pn),.string (bs pd)])
      replace HX:=Lib.hid (HX.out.alloc (.cells #[.string (bs pn),.string (bs pd)] 26))
      replace HL:=Lib.hid (HL.out.alloc (.cells #[.string (bs pn),.string (bs pd)] 26))
      replace HB:=Lib.hid (HB.out.alloc (.cells #[.string (bs pn),.string (bs pd)] 26))
      replace HG:=Lib.hid (HG.out.alloc (.cells #[.string (bs pn),.string (bs pd)] 26))
      replace HS:=Lib.hid (HS.out.alloc (.cells #[.string (bs pn),.string (bs pd)] 26))
      have LG:=Lib.hid (fun g1 g2 W hE b1 b2=>limGood R2.out g1 g2 W hE b1 b2)
      clear R1 R2 R3
      go_upto_region 15 with fail
      generalize wr.alloc (.cells #[.string (bs pn),.string (bs pd)] 26)=W6 at *
      generalize wr.heap.size=G6 at *
      obtain ⟨b0,b1,_,_⟩:=frBlk HV.out (Ext.refl _)
      have HD:Hid (Ext W6 W6.drew):=Lib.hid (Ext.refl W6).drew
      go_region_held3 (fun w'=>w'.cell? ⟨G6,0,none⟩=some (.string (bs pn))∧w'.cell? ⟨G6,1,none⟩=some (.string (bs pd)))
       (go_keep)
       (first
        |(go_at_call 150;((with_reducible refine (fkBetween false false _).mono ?_);rintro e w5 ⟨rfl,hb1,hb2,hx5⟩);(replace HD:=Lib.hid (HD.out.trans hx5));(have HB1:Hid (Blk w5 W6.heap.size 4 #[.bool false]):=Lib.hid hb1);(have HB2:Hid (Blk w5 (W6.heap.size+1) 4 #[.bool false]):=Lib.hid hb2);(obtain ⟨b0,b1,_,_⟩:=frBlk HV.out HD.out);clear hx5 hb1 hb2)
        |(go_at_call 216;((with_reducible refine (LG.out _ _ _ (HE.out.ext (HX.out.trans HD.out)) HB1.out HB2.out).mono ?_);rintro e w6 ⟨rfl,hx6⟩);(replace HD:=Lib.hid (HD.out.trans hx6));(obtain ⟨b0,b1,_,_⟩:=frBlk HV.out HD.out);clear hx6)
        |fail)
      all_goals
       go_wp2_with fail
       exact ⟨⟨2,by omega,by go_num,HX.out.trans HD.out,HL.out.trans HD.out,HB.out.ext HD.out,HG.out.ext HD.out,HS.out.ext HD.out⟩,by simp [intOf]⟩
     ·skip
      have a0:=HS.out.cell 4
      have a1:=HS.out.cell 5
      simp only [List.getElem?_toArray,List.getElem?_cons_zero,List.getElem?_cons_succ] at a0 a1
      have HV:=Lib.hid (Blk.new wr 26 #[.string (bs vn),.string (bs vd)])
      replace HX:=Lib.hid (HX.out.alloc (.cells #[.string (bs vn),.string (bs vd)] 26))
      replace HL:=Lib.hid (HL.out.alloc (.cells #[.string (bs vn),.string (bs vd)] 26))
      replace HB:=Lib.hid (HB.out.alloc (.cells #[.string (bs vn),.string (bs vd)] 26))
      replace HG:=Lib.hid (HG.out.alloc (.cells #[.string (bs vn),.string (bs vd)] 26))
      replace HS:=Lib.hid (HS.out.alloc (.cells #[.string (bs vn),.string (bs vd)] 26))
      have LG:=Lib.hid (fun g1 g2 W hE b1 b2=>limGood R3.out g1 g2 W hE b1 b2)
      clear R1 R2 R3
      go_upto_region 15 with fail
      generalize wr.alloc (.cells #[.string (bs vn),.string (bs vd)] 26)=W6 at *
      generalize wr.heap.size=G6 at *
      obtain ⟨b0,b1,_,_⟩:=frBlk HV.out (Ext.refl _)
      have HD:Hid (Ext W6 W6.drew):=Lib.hid (Ext.refl W6).drew
      go_region_held3 (fun w'=>w'.cell? ⟨G6,0,none⟩=some (.string (bs vn))∧w'.cell? ⟨G6,1,none⟩=some (.string (bs vd)))
       (go_keep)
       (first
        |(go_at_call 150;((with_reducible refine (fkBetween false false _).mono ?_);rintro e w5 ⟨rfl,hb1,hb2,hx5⟩);(replace HD:=Lib.hid (HD.out.trans hx5));(have HB1:Hid (Blk w5 W6.heap.size 4 #[.bool false]):=Lib.hid hb1);(have HB2:Hid (Blk w5 (W6.heap.size+1) 4 #[.bool false]):=Lib.hid hb2);(obtain ⟨b0,b1,_,_⟩:=frBlk HV.out HD.out);clear hx5 hb1 hb2)
        |(go_at_call 216;((with_reducible refine (LG.out _ _ _ (HE.out.ext (HX.out.trans HD.out)) HB1.out HB2.out).mono ?_);rintro e w6 ⟨rfl,hx6⟩);(replace HD:=Lib.hid (HD.out.trans hx6));(obtain ⟨b0,b1,_,_⟩:=frBlk HV.out HD.out);clear hx6)
        |fail)
      all_goals
       go_wp2_with fail
       exact ⟨⟨3,by omega,by go_num,HX.out.trans HD.out,HL.out.trans HD.out,HB.out.ext HD.out,HG.out.ext HD.out,HS.out.ext HD.out⟩,by simp [intOf]⟩
     ·skip
      obtain ⟨r0,r1,r2,r3,r4,r5,r6⟩:=optBlk HG.out (Ext.refl _)
      clear R1 R2 R3 hj
      by_cases b1:rn=[]
      rotate_left
      ·exfalso;simp [optBad,b1] at hbad
      subst b1
      by_cases b2:rd=[]
      rotate_left
      ·exfalso;simp [optBad,b2] at hbad
      subst b2
      by_cases b3:vn=[]
      rotate_left
      ·exfalso;simp [optBad,b3] at hbad
      subst b3
      by_cases b4:vd=[]
      rotate_left
      ·exfalso;simp [optBad,b4] at hbad
      subst b4
      go_wp2_with fail
      go_quiet (fail)
      go_wp2_with fail
      exact ⟨⟨k+1,by omega,by go_num,HL.out.drewN _⟩,by simp [intOf];omega⟩
   ·obtain hnm:=hgo.resolve_left h0
    rw [hnm] at HNm
    have qe:ot.isEmpty=false:=by simpa using h0
    go_wp2_with fail
    refine (HNm.out _).mono ?_
    rintro e W4 ⟨rfl,hx1⟩
    replace HX:=Lib.hid (HX.out.trans hx1)
    replace HL:=Lib.hid (HL.out.trans hx1)
    replace HB:=Lib.hid (HB.out.ext hx1)
    replace HG:=Lib.hid (HG.out.ext hx1)
    clear hx1 c0 c1 c2 c3 c4 c5 c6 hb HNm hnm x5
    generalize hG4:wr.heap.size=G4 at *
    clear hG4
    obtain ⟨r0,r1,r2,r3,r4,r5,r6⟩:=optBlk HG.out (Ext.refl _)
    obtain ⟨x0,x1,x2,x3,x4,x5,x6,x7,x8,x9,x10,x11,x12,x13,x14,x15,x16,x17,x18,x19,x20⟩:=xBlk HB.out (Ext.refl _)
    clear x0 x1 x2 x3 x4 x6 x7 x8 x9 x10 x11 x12 x13 x14 x15 x16 x17 x18 x19 x20
    have HS:=Lib.hid (Blk.new W4 26 #[.string (bs rn),.string (bs rd),.string (bs pn),.string (bs pd),.string (bs vn),.string (bs vd)])
    replace HX:=Lib.hid (HX.out.alloc (.cells #[.string (bs rn),.string (bs rd),.string (bs pn),.string (bs pd),.string (bs vn),.string (bs vd)] 26))
    replace HL:=Lib.hid (HL.out.alloc (.cells #[.string (bs rn),.string (bs rd),.string (bs pn),.string (bs pd),.string (bs vn),.string (bs vd)] 26))
    replace HB:=Lib.hid (HB.out.alloc (.cells #[.string (bs rn),.string (bs rd),.string (bs pn),.string (bs pd),.string (bs vn),.string (bs vd)] 26))
    replace HG:=Lib.hid (HG.out.alloc (.cells #[.string (bs rn),.string (bs rd),.string (bs pn),.string (bs pd),.string (bs vn),.string (bs vd)] 26))
    go_wp2_with fail
    clear r0 r1 r2 r3 r4 r5 r6 x5
    generalize hG5:W4.heap.size=G5 at *
    generalize W4.alloc (.cells #[.string (bs rn),.string (bs rd),.string (bs pn),.string (bs pd),.string (bs vn),.string (bs vd)] 26)=W5 at *
    clear hG5
    go_loopw [45,6,7] (fun i _ _ wr=>∃ j:Nat,j≤3∧i = .int .i64 j∧Ext w wr∧Ext W0 wr∧Blk wr gx 30 (xc key day ins (some ⟨b,o,none⟩) os.length c)∧Blk wr G4 50 (oc ⟨ot,⟨rn,rd⟩,⟨pn,pd⟩,⟨vn,vd⟩⟩)∧Blk wr G5 26 #[.string (bs rn),.string (bs rd),.string (bs pn),.string (bs pd),.string (bs vn),.string (bs vd)]) (fun i _ _ _=>3-(intOf i).toNat)
    case atStart=>exact ⟨0,by omega,rfl,HX.out,HL.out,HB.out,HG.out,HS.out⟩
    case round =>
     clear HX HL HB HG HS
     obtain ⟨j,hj,rfl,hx,hl,hb,hg,hs⟩:=hrel
     have HX:=Lib.hid hx
     have HL:=Lib.hid hl
     have HB:=Lib.hid hb
     have HG:=Lib.hid hg
     have HS:=Lib.hid hs
     clear hx hl hb hg hs
     obtain rfl | rfl | rfl | rfl:j=0∨j=1∨j=2∨j=3:=by omega
     ·skip
      have a0:=HS.out.cell 0
      have a1:=HS.out.cell 1
      simp only [List.getElem?_toArray,List.getElem?_cons_zero,List.getElem?_cons_succ] at a0 a1
      have HV:=Lib.hid (Blk.new wr 26 #[.string (bs rn),.string (bs rd)])
      replace HX:=Lib.hid (HX.out.alloc (.cells #[.string (bs rn),.string (bs rd)] 26))
      replace HL:=Lib.hid (HL.out.alloc (.cells #[.string (bs rn),.string (bs rd)] 26))
      replace HB:=Lib.hid (HB.out.alloc (.cells #[.string (bs rn),.string (bs rd)] 26))
      replace HG:=Lib.hid (HG.out.alloc (.cells #[.string (bs rn),.string (bs rd)] 26))
      replace HS:=Lib.hid (HS.out.alloc (.cells #[.string (bs rn),.string (bs rd)] 26))
      have LG:=Lib.hid (fun g1 g2 W hE b1 b2=>limGood R1.out g1 g2 W hE b1 b2)
      clear R1 R2 R3
      go_upto_region 15 with fail
      generalize wr.alloc (.cells #[.string (bs rn),.string (bs rd)] 26)=W6 at *
      generalize wr.heap.size=G6 at *
      obtain ⟨b0,b1,_,_⟩:=frBlk HV.out (Ext.refl _)
      have HD:Hid (Ext W6 W6.drew):=Lib.hid (Ext.refl W6).drew
      go_region_held3 (fun w'=>w'.cell? ⟨G6,0,none⟩=some (.string (bs rn))∧w'.cell? ⟨G6,1,none⟩=some (.string (bs rd)))
       (go_keep)
       (first
        |(go_at_call 150;((with_reducible refine (fkBetween false false _).mono ?_);rintro e w5 ⟨rfl,hb1,hb2,hx5⟩);(replace HD:=Lib.hid (HD.out.trans hx5));(have HB1:Hid (Blk w5 W6.heap.size 4 #[.bool false]):=Lib.hid hb1);(have HB2:Hid (Blk w5 (W6.heap.size+1) 4 #[.bool false]):=Lib.hid hb2);(obtain ⟨b0,b1,_,_⟩:=frBlk HV.out HD.out);clear hx5 hb1 hb2)
        |(go_at_call 216;((with_reducible refine (LG.out _ _ _ (HE.out.ext (HX.out.trans HD.out)) HB1.out HB2.out).mono ?_);rintro e w6 ⟨rfl,hx6⟩);(replace HD:=Lib.hid (HD.out.trans hx6));(obtain ⟨b0,b1,_,_⟩:=frBlk HV.out HD.out);clear hx6)
        |fail)
      all_goals
       go_wp2_with fail
       exact ⟨⟨1,by omega,by go_num,HX.out.trans HD.out,HL.out.trans HD.out,HB.out.ext HD.out,HG.out.ext HD.out,HS.out.ext HD.out⟩,by simp [intOf]⟩
     ·skip
      have a0:=HS.out.cell 2
      have a1:=HS.out.cell 3
      simp only [List.getElem?_toArray,List.getElem?_cons_zero,List.getElem?_cons_succ] at a0 a1
      have HV:=Lib.hid (Blk.new wr 26 #[.string (bs pn),.string (bs pd)])
      replace HX:=Lib.hid (HX.out.alloc (.cells #[.string (bs pn),.string (bs pd)] 26))
      replace HL:=Lib.hid (HL.out.alloc (.cells #[.string (bs pn),.string (bs pd)] 26))
      replace HB:=Lib.hid (HB.out.alloc (.cells #[.string (bs pn),.string (bs pd)] 26))
      replace HG:=Lib.hid (HG.out.alloc (.cells #[.string (bs pn),.string (bs pd)] 26))
      replace HS:=Lib.hid (HS.out.alloc (.cells #[.string (bs pn),.string (bs pd)] 26))
      have LG:=Lib.hid (fun g1 g2 W hE b1 b2=>limGood R2.out g1 g2 W hE b1 b2)
      clear R1 R2 R3
      go_upto_region 15 with fail
      generalize wr.alloc (.cells #[.string (bs pn),.string (bs pd)] 26)=W6 at *
      generalize wr.heap.size=G6 at *
      obtain ⟨b0,b1,_,_⟩:=frBlk HV.out (Ext.refl _)
      have HD:Hid (Ext W6 W6.drew):=Lib.hid (Ext.refl W6).drew
      go_region_held3 (fun w'=>w'.cell? ⟨G6,0,none⟩=some (.string (bs pn))∧w'.cell? ⟨G6,1,none⟩=some (.string (bs pd)))
       (go_keep)
       (first
        |(go_at_call 150;((with_reducible refine (fkBetween false false _).mono ?_);rintro e w5 ⟨rfl,hb1,hb2,hx5⟩);(replace HD:=Lib.hid (HD.out.trans hx5));(have HB1:Hid (Blk w5 W6.heap.size 4 #[.bool false]):=Lib.hid hb1);(have HB2:Hid (Blk w5 (W6.heap.size+1) 4 #[.bool false]):=Lib.hid hb2);(obtain ⟨b0,b1,_,_⟩:=frBlk HV.out HD.out);clear hx5 hb1 hb2)
        |(go_at_call 216;((with_reducible refine (LG.out _ _ _ (HE.out.ext (HX.out.trans HD.out)) HB1.out HB2.out).mono ?_);rintro e w6 ⟨rfl,hx6⟩);(replace HD:=Lib.hid (HD.out.trans hx6));(obtain ⟨b0,b1,_,_⟩:=frBlk HV.out HD.out);clear hx6)
        |fail)
      all_goals
       go_wp2_with fail
       exact ⟨⟨2,by omega,by go_num,HX.out.trans HD.out,HL.out.trans HD.out,HB.out.ext HD.out,HG.out.ext HD.out,HS.out.ext HD.out⟩,by simp [intOf]⟩
     ·skip
      have a0:=HS.out.cell 4
      have a1:=HS.out.cell 5
      simp only [List.getElem?_toArray,List.getElem?_cons_zero,List.getElem?_cons_succ] at a0 a1
      have HV:=Lib.hid (Blk.new wr 26 #[.string (bs vn),.string (bs vd)])
      replace HX:=Lib.hid (HX.out.alloc (.cells #[.string (bs vn),.string (bs vd)] 26))
      replace HL:=Lib.hid (HL.out.alloc (.cells #[.string (bs vn),.string (bs vd)] 26))
      replace HB:=Lib.hid (HB.out.alloc (.cells #[.string (bs vn),.string (bs vd)] 26))
      replace HG:=Lib.hid (HG.out.alloc (.cells #[.string (bs vn),.string (bs vd)] 26))
      replace HS:=Lib.hid (HS.out.alloc (.cells #[.string (bs vn),.string (bs vd)] 26))
      have LG:=Lib.hid (fun g1 g2 W hE b1 b2=>limGood R3.out g1 g2 W hE b1 b2)
      clear R1 R2 R3
      go_upto_region 15 with fail
      generalize wr.alloc (.cells #[.string (bs vn),.string (bs vd)] 26)=W6 at *
      generalize wr.heap.size=G6 at *
      obtain ⟨b0,b1,_,_⟩:=frBlk HV.out (Ext.refl _)
      have HD:Hid (Ext W6 W6.drew):=Lib.hid (Ext.refl W6).drew
      go_region_held3 (fun w'=>w'.cell? ⟨G6,0,none⟩=some (.string (bs vn))∧w'.cell? ⟨G6,1,none⟩=some (.string (bs vd)))
       (go_keep)
       (first
        |(go_at_call 150;((with_reducible refine (fkBetween false false _).mono ?_);rintro e w5 ⟨rfl,hb1,hb2,hx5⟩);(replace HD:=Lib.hid (HD.out.trans hx5));(have HB1:Hid (Blk w5 W6.heap.size 4 #[.bool false]):=Lib.hid hb1);(have HB2:Hid (Blk w5 (W6.heap.size+1) 4 #[.bool false]):=Lib.hid hb2);(obtain ⟨b0,b1,_,_⟩:=frBlk HV.out HD.out);clear hx5 hb1 hb2)
        |(go_at_call 216;((with_reducible refine (LG.out _ _ _ (HE.out.ext (HX.out.trans HD.out)) HB1.out HB2.out).mono ?_);rintro e w6 ⟨rfl,hx6⟩);(replace HD:=Lib.hid (HD.out.trans hx6));(obtain ⟨b0,b1,_,_⟩:=frBlk HV.out HD.out);clear hx6)
        |fail)
      all_goals
       go_wp2_with fail
       exact ⟨⟨3,by omega,by go_num,HX.out.trans HD.out,HL.out.trans HD.out,HB.out.ext HD.out,HG.out.ext HD.out,HS.out.ext HD.out⟩,by simp [intOf]⟩
     ·skip
      obtain ⟨r0,r1,r2,r3,r4,r5,r6⟩:=optBlk HG.out (Ext.refl _)
      clear R1 R2 R3 hj
      by_cases b1:rn=[]
      rotate_left
      ·have q1:rn.isEmpty=false:=by simpa using b1
       have q:=bs_ne' b1
       go_wp2_with fail
       go_quiet (fail)
       go_wp2_with fail
       exact ⟨⟨k+1,by omega,by go_num,HL.out.drewN _⟩,by simp [intOf];omega⟩
      subst b1
      by_cases b2:rd=[]
      rotate_left
      ·have q1:rd.isEmpty=false:=by simpa using b2
       have q:=bs_ne' b2
       go_wp2_with fail
       go_quiet (fail)
       go_wp2_with fail
       exact ⟨⟨k+1,by omega,by go_num,HL.out.drewN _⟩,by simp [intOf];omega⟩
      subst b2
      exfalso
      simp [optBad,h0] at hbad
  ·have hki:¬ (k:Int)<(os.length:Int):=by omega
   clear hk hlt
   go_wp2_with fail
   go_ret
   exact ⟨rfl,HX.out⟩
end
section
open Go.RowKit
attribute [local go_sem] size_bs toList_bs
section
variable (key:Bs) (day:Int) (ins:Bs) (A:Option Addr) (n c:Nat) (K:Array Value) (w:World)
theorem fkField0 (hs:ins.length≤9000) (hn:isName ins=true):Calls Tryz.prog 90 #[xv key day ins A n c,.agg K,.int .i64 0] w fun e w'=>e = .returned (.int .i64 0)∧Ext w w':=by
 have HB:=Lib.hid (Blk.new w 30 (xc key day ins A n c))
 have HX0:Hid (Ext w (w.alloc (.cells (xc key day ins A n c) 30))):=Lib.hid (Ext.new _ _)
 have HX:Hid (Ext w ((w.alloc (.cells (xc key day ins A n c) 30)).alloc (.cells K 144))):=Lib.hid ((Ext.new _ _).alloc _)
 replace HB:=Lib.hid (HB.out.alloc (.cells K 144))
 have HN:=Lib.hid (fun W=>fkName ins W hs hn)
 go_enter Tryz.func90,Tryz.ntmps90
 obtain ⟨x0,x1,x2,x3,x4,x5,x6,x7,x8,x9,x10,x11,x12,x13,x14,x15,x16,x17,x18,x19,x20⟩:=xBlk HB.out (Ext.refl _)
 clear x0 x1 x2 x3 x4 x6 x7 x8 x9 x10 x11 x12 x13 x14 x15 x16 x17 x18 x19 x20
 go_wp2_with fail
 refine (HN.out _).mono ?_
 rintro e v2 ⟨rfl,hx1⟩
 replace HX:=Lib.hid (HX.out.trans hx1)
 clear hx1
 go_wp2_with fail
 go_ret
 exact ⟨rfl,HX.out⟩
theorem fkField11 (h:∀ W,Ext w W→Calls Tryz.prog 157 #[xv key day ins A n c] W fun e w'=>e = .returned (.int .i64 0)∧Ext W w') :
  Calls Tryz.prog 90 #[xv key day ins A n c,.agg K,.int .i64 11] w fun e w'=>e = .returned (.int .i64 0)∧Ext w w':=by
 have HB:=Lib.hid (Blk.new w 30 (xc key day ins A n c))
 have HX0:Hid (Ext w (w.alloc (.cells (xc key day ins A n c) 30))):=Lib.hid (Ext.new _ _)
 have HX:Hid (Ext w ((w.alloc (.cells (xc key day ins A n c) 30)).alloc (.cells K 144))):=Lib.hid ((Ext.new _ _).alloc _)
 replace HB:=Lib.hid (HB.out.alloc (.cells K 144))
 have HN:=Lib.hid (fun W hx=>h W hx)
 clear h
 have hs1:(Tryz.prog.info? 30).map (·.size)=some (xc key day ins A n c).toList.length:=by kernel_rfl
 have hrg:=fact_range HB.out
 go_enter Tryz.func90,Tryz.ntmps90
 go_wp2_with (first | refine wpList_load_mid rfl 30 _ rfl w.heap.size 0 rfl _ _ hrg Tryz.underlying30 rfl hs1 ?_ | fail)
 refine (HN.out _ HX.out).mono ?_
 rintro e v5 ⟨rfl,hx1⟩
 replace HX:=Lib.hid (HX.out.trans hx1)
 clear hx1
 go_wp2_with fail
 go_ret
 exact ⟨rfl,HX.out⟩
end
end
section
open Go.RowKit
open Go.Maps (Keyed)
attribute [local go_sem] size_bs toList_bs
def exCl:List Value:=kcl [101,120,99,104,97,110,103,101] 1 [true,false,false,false,false,false,false,false,false,false,false,true,false] (.map none) false
theorem exLook {w:World} {b n:Nat} {D:DataW Value} (h:MapAt w b n D) (hh:Maps.has D (.int .i64 10)=true) (hk:∀ z,D.atKey (.int .i64 10) z = .held exK) :
  (Instr.lookup 146 (.map (some b)) (.int .i64 10) true).run Tryz.prog w = .ok (.tuple #[.agg exCl.toArray,.bool true]) w:=by
 obtain ⟨v,ps,h1,h2⟩:=h.look_ok (t:=146) (e:=144) keyInt Tryz.underlying146 (Tryz.zeroValue144 w) (zd := .held _) (zp:=[]) rfl (keyMk 10 (by decide))
 rw [hh] at h1
 rw [hk] at h2
 unfold RK at h2
 injection h2 with h2
 injection h2 with h2 _
 injection h2 with h2
 subst h2
 exact h1
def KAt (W:World) (p3 p4:Value) (wx:World):Prop:=∃ P,p3 = .pointer (some ⟨P,0,none⟩)∧p4 = .bool true∧Blk wx P 144 exCl.toArray∧Ext W wx
theorem fkCheck (key:Bs) (day:Int) (ins:Bs) (A:Option Addr) (os:List OptV) (c:Nat) (w:World) (hA:RdO w A os) (h0:0<os.length) (h8:os.length≤8) (hg:∀ o ∈ os,OptOK o ins)
  (hk:isName key=true) (hkl:key.length≤9000) (hi:isName ins=true) (hil:ins.length≤9000) (hd1 : -25567≤day) (hd2:day≤84005) (hE:Env w) :
  Calls Tryz.prog 34 #[xv key day ins A os.length c] w fun e w'=>e = .returned (.int .i64 0)∧Ext w w':=by
 have HE:=Lib.hid hE
 have HA:=Lib.hid hA
 have HO:=Lib.hid (fun W (hx:Ext w W)=>fkOptions key day ins A os c W (hA.ext hx) h0 h8 hg (hE.ext hx))
 have HN:=Lib.hid (insName key (w.alloc (.cells (xc key day ins A os.length c) 30)) (by omega))
 rw [hk] at HN
 have KI:=Lib.hid (fun W=>kindsAll W)
 have HI:=Lib.hid (And.intro hi hil)
 have hoc:=kcl_one [101,120,99,104,97,110,103,101] 1 [true,false,false,false,false,false,false,false,false,false,false,true,false] (.map none) false rfl
 have hs2:(Tryz.prog.info? 144).map (·.size)=some exCl.toArray.size:=by kernel_rfl
 have g1:decide (day < -25567)=false:=by rw [decide_eq_false_iff_not];omega
 have g2:decide (84005<day)=false:=by rw [decide_eq_false_iff_not];omega
 have HB:=Lib.hid (Blk.new w 30 (xc key day ins A os.length c))
 have HX:Hid (Ext w (w.alloc (.cells (xc key day ins A os.length c) 30))):=Lib.hid (Ext.new _ _)
 clear hA h0 h8 hg hk hkl hi hil hd1 hd2 hE
 generalize hgn:os.length=n at *
 go_enter Tryz.func34,Tryz.ntmps34
 obtain ⟨x0,x1,x2,x3,x4,x5,x6,x7,x8,x9,x10,x11,x12,x13,x14,x15,x16,x17,x18,x19,x20⟩:=xBlk HB.out (Ext.refl _)
 go_wp2_with fail
 refine (HN.out).mono ?_
 rintro e W ⟨rfl,hx1⟩
 replace HB:=Lib.hid (HB.out.ext hx1)
 replace HX:=Lib.hid (HX.out.trans hx1)
 clear hx1
 clear x0 x1 x2 x3 x4 x5 x6 x7 x8 x9 x10 x11 x12 x13 x14 x15 x16 x17 x18 x19 x20
 obtain ⟨x0,x1,x2,x3,x4,x5,x6,x7,x8,x9,x10,x11,x12,x13,x14,x15,x16,x17,x18,x19,x20⟩:=xBlk HB.out (Ext.refl _)
 go_upto_region 11 with fail
 go_cut [3,4] (fun p3 p4 wx=>KAt W p3 p4 wx)
 case first =>
  clear HO HN HI HE HA x0 x1 x2 x3 x5 x6 x7 x8 x9 x10 x11 x12 x13 x14 x15 x16 x17 x18 x19 x20
  have y4:W.drew.cell? ⟨w.heap.size,4,none⟩=some (.int .i64 10):=x4
  refine wp_region_held_drew (S:=fun w'=>w'.cell? ⟨w.heap.size,4,none⟩=some (.int .i64 10)) (by kernel_rfl) x4 (fun hHeld=>?_)
  refine wpAnyH_take (i:=1) (v := .pointer (some ⟨w.heap.size,4,none⟩)) rfl (by kernel_rfl) (by kernel_rfl) (by kernel_rfl) (fun _ _ _ h=>h) (Or.inl ⟨by rfl,?_⟩) (by assumption) ?_
  ·intro w hSw
   (try dsimp only at hSw)
   go_simp
  (try simp only [Act.put,List.setIfInBounds_toArray])
  refine wpAnyH_take (i:=2) (v := .int .i64 10) rfl (by kernel_rfl) (by kernel_rfl) (by kernel_rfl) (fun _ _ _ h=>h) (Or.inl ⟨by rfl,?_⟩) (by assumption) ?_
  ·intro w hSw
   (try dsimp only at hSw)
   go_simp
  (try simp only [Act.put])
  refine wpAnyH_ready (rs:=[0,7]) (by kernel_rfl) (by simp) ?_
  refine AllReadyH.cons rfl (fun K hK=>?_) (AllReadyH.cons rfl (fun K hK=>?_) (AllReadyH.nil))
  ·go_simp
   refine (KI.out _).mono ?_
   rintro e w1 ⟨b,n,D,rfl,hM,hh,hk,hx⟩
   have L1:=exLook hM hh hk
   have L2:=exLook (hM.ext (Ext.new w1 (.cells #[.string ⟨#[]⟩,.int .i64 0,.bool false,.bool false,.bool false,.bool false,.bool false,.bool false,.bool false,.bool false,.bool false,.bool false,.bool false,.bool false,.bool false,.map none,.bool false] 144))) hh hk
   have y5:=(xBlk HB.out ((Ext.refl W).drew.trans hx)).2.2.2.2.1
   have BN:=Lib.hid (Blk.new w1 144 (kcl [] 0 no13 (.map none) false).toArray)
   have HZ:Hid (Ext W (w1.alloc (.cells (kcl [] 0 no13 (.map none) false).toArray 144))):=Lib.hid (((Ext.refl W).drew.trans hx).alloc _)
   have y6:=(xBlk HB.out HZ.out).2.2.2.2.1
   have hle:Hid (W.heap.size≤w1.heap.size):=Lib.hid hx.size
   clear hM hh hk hx
   refine hK.out _ _ y5 (fun hHeld=>?_)
   clear hK K
   (try simp only [Act.put,List.setIfInBounds_toArray,List.set_cons_zero,List.set_cons_succ])
   refine wpAnyH_ready (rs:=[3,7]) (by kernel_rfl) (by simp) ?_
   refine AllReadyH.cons rfl (fun K hK=>?_) (AllReadyH.cons rfl (fun K hK=>?_) (AllReadyH.nil))
   ·go_simp
    refine hK.out _ _ y5 (fun hHeld=>?_)
    clear hK K
    (try simp only [Act.put,List.setIfInBounds_toArray,List.set_cons_zero,List.set_cons_succ])
    refine wpAnyH_take (i:=4) (v := .tuple #[.agg exCl.toArray,.bool true]) rfl (by kernel_rfl) (by kernel_rfl) (by kernel_rfl) (fun _ _ _ h=>h) (Or.inl ⟨by rfl,?_⟩) (by assumption) ?_
    ·intro w hSw
     (try dsimp only at hSw)
     go_simp
    (try simp only [Act.put,List.setIfInBounds_toArray])
    refine wpAnyH_take (i:=5) (v := .agg exCl.toArray) rfl (by kernel_rfl) (by kernel_rfl) (by kernel_rfl) (fun _ _ _ h=>h) (Or.inl ⟨by rfl,?_⟩) (by assumption) ?_
    ·intro w hSw
     (try dsimp only at hSw)
     go_simp
    (try simp only [Act.put])
    refine wpAnyH_take (i:=6) (v := .bool true) rfl (by kernel_rfl) (by kernel_rfl) (by kernel_rfl) (fun _ _ _ h=>h) (Or.inl ⟨by rfl,?_⟩) (by assumption) ?_
    ·intro w hSw
     (try dsimp only at hSw)
     go_simp
    (try simp only [Act.put])
    refine wpAnyH_ready (rs:=[7]) (by kernel_rfl) (by simp) ?_
    refine AllReadyH.cons rfl (fun K hK=>?_) (AllReadyH.nil)
    go_simp
    refine hK.out _ _ y6 (fun hHeld=>?_)
    clear hK K
    (try simp only [Act.put,List.setIfInBounds_toArray,List.set_cons_zero,List.set_cons_succ])
    refine wpAnyH_ready (rs:=[8]) (by kernel_rfl) (by simp) ?_
    refine AllReadyH.cons rfl (fun K hK=>?_) (AllReadyH.nil)
    have hth:=kind_there BN.out (n:=exCl.toArray.size) rfl
    rw [if_pos (by rfl)]
    refine wp_store_mid 144 _ _ rfl w1.heap.size 0 exCl.toArray rfl rfl hth hs2 hoc ?_
    have O:=Lib.hid (kind_over BN.out (ys:=exCl) rfl)
    have HS:=Lib.hid (ext_sets exCl 0 _ () HZ.out hle.out)
    refine hK.out _ _ ((xBlk HB.out HS.out).2.2.2.2.1) (fun hHeld=>?_)
    clear hK K
    (try simp only [Act.put,List.setIfInBounds_toArray])
    refine wpAnyH_take (i:=9) (v := .bool true) rfl (by kernel_rfl) (by kernel_rfl) (by kernel_rfl) (fun _ _ _ h=>h) (Or.inl ⟨by rfl,?_⟩) (by assumption) ?_
    ·intro w hSw
     (try dsimp only at hSw)
     go_simp
    (try simp only [Act.put])
    refine wpAnyH_done (by kernel_rfl) ?_ _
    go_wp2_with fail
    go_meet
    exact ⟨_,rfl,rfl,O.out,HS.out⟩
   ·go_simp
    refine hK.out _ _ y6 (fun hHeld=>?_)
    clear hK K
    (try simp only [Act.put,List.setIfInBounds_toArray,List.set_cons_zero,List.set_cons_succ])
    refine wpAnyH_ready (rs:=[3]) (by kernel_rfl) (by simp) ?_
    refine AllReadyH.cons rfl (fun K hK=>?_) (AllReadyH.nil)
    go_simp
    refine hK.out _ _ y6 (fun hHeld=>?_)
    clear hK K
    (try simp only [Act.put,List.setIfInBounds_toArray,List.set_cons_zero,List.set_cons_succ])
    refine wpAnyH_take (i:=4) (v := .tuple #[.agg exCl.toArray,.bool true]) rfl (by kernel_rfl) (by kernel_rfl) (by kernel_rfl) (fun _ _ _ h=>h) (Or.inl ⟨by rfl,?_⟩) (by assumption) ?_
    ·intro w hSw
     (try dsimp only at hSw)
     go_simp
    (try simp only [Act.put,List.setIfInBounds_toArray])
    refine wpAnyH_take (i:=5) (v := .agg exCl.toArray) rfl (by kernel_rfl) (by kernel_rfl) (by kernel_rfl) (fun _ _ _ h=>h) (Or.inl ⟨by rfl,?_⟩) (by assumption) ?_
    ·intro w hSw
     (try dsimp only at hSw)
     go_simp
    (try simp only [Act.put])
    refine wpAnyH_take (i:=6) (v := .bool true) rfl (by kernel_rfl) (by kernel_rfl) (by kernel_rfl) (fun _ _ _ h=>h) (Or.inl ⟨by rfl,?_⟩) (by assumption) ?_
    ·intro w hSw
     (try dsimp only at hSw)
     go_simp
    (try simp only [Act.put])
    refine wpAnyH_ready (rs:=[8]) (by kernel_rfl) (by simp) ?_
    refine AllReadyH.cons rfl (fun K hK=>?_) (AllReadyH.nil)
    have hth:=kind_there BN.out (n:=exCl.toArray.size) rfl
    rw [if_pos (by rfl)]
    refine wp_store_mid 144 _ _ rfl w1.heap.size 0 exCl.toArray rfl rfl hth hs2 hoc ?_
    have O:=Lib.hid (kind_over BN.out (ys:=exCl) rfl)
    have HS:=Lib.hid (ext_sets exCl 0 _ () HZ.out hle.out)
    refine hK.out _ _ ((xBlk HB.out HS.out).2.2.2.2.1) (fun hHeld=>?_)
    clear hK K
    (try simp only [Act.put])
    refine wpAnyH_take (i:=9) (v := .bool true) rfl (by kernel_rfl) (by kernel_rfl) (by kernel_rfl) (fun _ _ _ h=>h) (Or.inl ⟨by rfl,?_⟩) (by assumption) ?_
    ·intro w hSw
     (try dsimp only at hSw)
     go_simp
    (try simp only [Act.put])
    refine wpAnyH_done (by kernel_rfl) ?_ _
    go_wp2_with fail
    go_meet
    exact ⟨_,rfl,rfl,O.out,HS.out⟩
  ·go_simp
   have HZ0:Hid (Ext W (W.drew.alloc (.cells (kcl [] 0 no13 (.map none) false).toArray 144))):=Lib.hid ((Ext.refl W).drew.alloc _)
   have y5:=(xBlk HB.out HZ0.out).2.2.2.2.1
   refine hK.out _ _ y5 (fun hHeld=>?_)
   clear hK K
   (try simp only [Act.put,List.setIfInBounds_toArray,List.set_cons_zero,List.set_cons_succ])
   refine wpAnyH_ready (rs:=[0]) (by kernel_rfl) (by simp) ?_
   refine AllReadyH.cons rfl (fun K hK=>?_) (AllReadyH.nil)
   go_simp
   refine (KI.out _).mono ?_
   rintro e w1 ⟨b,n,D,rfl,hM,hh,hk,hx⟩
   have L1:=exLook hM hh hk
   have HZ:Hid (Ext W w1):=Lib.hid (HZ0.out.trans hx)
   have BN:Hid (Blk w1 W.heap.size 144 (kcl [] 0 no13 (.map none) false).toArray):=Lib.hid ((Blk.new W.drew _ _).ext hx)
   have y6:=(xBlk HB.out HZ.out).2.2.2.2.1
   clear hM hh hk hx
   refine hK.out _ _ y6 (fun hHeld=>?_)
   clear hK K
   (try simp only [Act.put,List.setIfInBounds_toArray,List.set_cons_zero,List.set_cons_succ])
   refine wpAnyH_ready (rs:=[3]) (by kernel_rfl) (by simp) ?_
   refine AllReadyH.cons rfl (fun K hK=>?_) (AllReadyH.nil)
   go_simp
   refine hK.out _ _ y6 (fun hHeld=>?_)
   clear hK K
   (try simp only [Act.put,List.setIfInBounds_toArray,List.set_cons_zero,List.set_cons_succ])
   refine wpAnyH_take (i:=4) (v := .tuple #[.agg exCl.toArray,.bool true]) rfl (by kernel_rfl) (by kernel_rfl) (by kernel_rfl) (fun _ _ _ h=>h) (Or.inl ⟨by rfl,?_⟩) (by assumption) ?_
   ·intro w hSw
    (try dsimp only at hSw)
    go_simp
   (try simp only [Act.put,List.setIfInBounds_toArray])
   refine wpAnyH_take (i:=5) (v := .agg exCl.toArray) rfl (by kernel_rfl) (by kernel_rfl) (by kernel_rfl) (fun _ _ _ h=>h) (Or.inl ⟨by rfl,?_⟩) (by assumption) ?_
   ·intro w hSw
    (try dsimp only at hSw)
    go_simp
   (try simp only [Act.put])
   refine wpAnyH_take (i:=6) (v := .bool true) rfl (by kernel_rfl) (by kernel_rfl) (by kernel_rfl) (fun _ _ _ h=>h) (Or.inl ⟨by rfl,?_⟩) (by assumption) ?_
   ·intro w hSw
    (try dsimp only at hSw)
    go_simp
   (try simp only [Act.put])
   refine wpAnyH_ready (rs:=[8]) (by kernel_rfl) (by simp) ?_
   refine AllReadyH.cons rfl (fun K hK=>?_) (AllReadyH.nil)
   have hth:=kind_there BN.out (n:=exCl.toArray.size) rfl
   rw [if_pos (by rfl)]
   refine wp_store_mid 144 _ _ rfl W.heap.size 0 exCl.toArray rfl rfl hth hs2 hoc ?_
   have O:=Lib.hid (kind_over BN.out (ys:=exCl) rfl)
   have HS:=Lib.hid (ext_sets exCl 0 _ () HZ.out (Nat.le_refl _))
   refine hK.out _ _ ((xBlk HB.out HS.out).2.2.2.2.1) (fun hHeld=>?_)
   clear hK K
   (try simp only [Act.put])
   refine wpAnyH_take (i:=9) (v := .bool true) rfl (by kernel_rfl) (by kernel_rfl) (by kernel_rfl) (fun _ _ _ h=>h) (Or.inl ⟨by rfl,?_⟩) (by assumption) ?_
   ·intro w hSw
    (try dsimp only at hSw)
    go_simp
   (try simp only [Act.put])
   refine wpAnyH_done (by kernel_rfl) ?_ _
   go_wp2_with fail
   go_meet
   exact ⟨_,rfl,rfl,O.out,HS.out⟩
 case rest =>
  obtain ⟨P,rfl,rfl,hk,hx⟩:=hcut
  replace HX:=Lib.hid (HX.out.trans hx)
  replace HB:=Lib.hid (HB.out.ext hx)
  have HK:=Lib.hid hk
  clear hk hx x0 x1 x2 x3 x4 x5 x6 x7 x8 x9 x10 x11 x12 x13 x14 x15 x16 x17 x18 x19 x20 KI HN g1 g2 hs2 hoc
  have hs1:(Tryz.prog.info? 30).map (·.size)=some (xc key day ins A n c).toList.length:=by kernel_rfl
  have hs3:(Tryz.prog.info? 144).map (·.size)=some exCl.length:=by kernel_rfl
  go_wp2_with fail
  go_loopw [41,5,6] (fun i _ _ wr=>∃ k:Nat,k≤13∧i = .int .i64 k∧Ext wc wr) (fun i _ _ _=>13-(intOf i).toNat)
  case atStart=>exact ⟨0,by omega,rfl,Ext.refl _⟩
  case round =>
   obtain ⟨k,hk,rfl,hx⟩:=hrel
   replace HX:=Lib.hid (HX.out.trans hx)
   replace HB:=Lib.hid (HB.out.ext hx)
   replace HK:=Lib.hid (HK.out.ext hx)
   have HL:=Lib.hid hx
   clear hx
   obtain ⟨_,_,q2,q3,q4,q5,q6,q7,q8,q9,q10,q11,q12,q13,q14,_,_⟩:=kindBlk HK.out
   have hrg:=fact_range HB.out
   have hrk:=kind_range HK.out
   obtain rfl | rfl | rfl | rfl | rfl | rfl | rfl | rfl | rfl | rfl | rfl | rfl | rfl | rfl:k=0∨k=1∨k=2∨k=3∨k=4∨k=5∨k=6∨k=7∨k=8∨k=9∨k=10∨k=11∨k=12∨k=13:=by omega
   ·clear hk
    have HV:=Lib.hid (fkField0 key day ins A n c exCl.toArray wr HI.out.2 HI.out.1)
    go_wp2_with (first | refine wpList_load_mid rfl 30 _ rfl w.heap.size 0 rfl _ _ hrg Tryz.underlying30 rfl hs1 ?_ | refine wpList_load_mid rfl 144 _ rfl P 0 rfl _ _ hrk Tryz.underlying144 rfl hs3 ?_ | fail)
    refine HV.out.mono ?_
    rintro e v1 ⟨rfl,hx1⟩
    replace HX:=Lib.hid (HX.out.trans hx1)
    replace HL:=Lib.hid (HL.out.trans hx1)
    clear hx1
    go_wp2_with fail
    exact ⟨⟨0+1,by omega,by go_num,HL.out⟩,by simp [intOf]⟩
   ·clear hk
    have HV:=Lib.hid (fkEmpty1 key day ins A n c wr)
    go_wp2_with (first | refine wpList_load_mid rfl 30 _ rfl w.heap.size 0 rfl _ _ hrg Tryz.underlying30 rfl hs1 ?_ | refine wpList_load_mid rfl 144 _ rfl P 0 rfl _ _ hrk Tryz.underlying144 rfl hs3 ?_ | fail)
    refine HV.out.mono ?_
    rintro e v1 ⟨rfl,hx1⟩
    replace HX:=Lib.hid (HX.out.trans hx1)
    replace HL:=Lib.hid (HL.out.trans hx1)
    clear hx1
    go_wp2_with fail
    exact ⟨⟨1+1,by omega,by go_num,HL.out⟩,by simp [intOf]⟩
   ·clear hk
    have HV:=Lib.hid (fkEmpty2 key day ins A n c wr)
    go_wp2_with (first | refine wpList_load_mid rfl 30 _ rfl w.heap.size 0 rfl _ _ hrg Tryz.underlying30 rfl hs1 ?_ | refine wpList_load_mid rfl 144 _ rfl P 0 rfl _ _ hrk Tryz.underlying144 rfl hs3 ?_ | fail)
    refine HV.out.mono ?_
    rintro e v1 ⟨rfl,hx1⟩
    replace HX:=Lib.hid (HX.out.trans hx1)
    replace HL:=Lib.hid (HL.out.trans hx1)
    clear hx1
    go_wp2_with fail
    exact ⟨⟨2+1,by omega,by go_num,HL.out⟩,by simp [intOf]⟩
   ·clear hk
    have HV:=Lib.hid (fkEmpty3 key day ins A n c wr)
    go_wp2_with (first | refine wpList_load_mid rfl 30 _ rfl w.heap.size 0 rfl _ _ hrg Tryz.underlying30 rfl hs1 ?_ | refine wpList_load_mid rfl 144 _ rfl P 0 rfl _ _ hrk Tryz.underlying144 rfl hs3 ?_ | fail)
    refine HV.out.mono ?_
    rintro e v1 ⟨rfl,hx1⟩
    replace HX:=Lib.hid (HX.out.trans hx1)
    replace HL:=Lib.hid (HL.out.trans hx1)
    clear hx1
    go_wp2_with fail
    exact ⟨⟨3+1,by omega,by go_num,HL.out⟩,by simp [intOf]⟩
   ·clear hk
    have HV:=Lib.hid (fkEmpty4 key day ins A n c wr)
    go_wp2_with (first | refine wpList_load_mid rfl 30 _ rfl w.heap.size 0 rfl _ _ hrg Tryz.underlying30 rfl hs1 ?_ | refine wpList_load_mid rfl 144 _ rfl P 0 rfl _ _ hrk Tryz.underlying144 rfl hs3 ?_ | fail)
    refine HV.out.mono ?_
    rintro e v1 ⟨rfl,hx1⟩
    replace HX:=Lib.hid (HX.out.trans hx1)
    replace HL:=Lib.hid (HL.out.trans hx1)
    clear hx1
    go_wp2_with fail
    exact ⟨⟨4+1,by omega,by go_num,HL.out⟩,by simp [intOf]⟩
   ·clear hk
    have HV:=Lib.hid (fkEmpty5 key day ins A n c wr)
    go_wp2_with (first | refine wpList_load_mid rfl 30 _ rfl w.heap.size 0 rfl _ _ hrg Tryz.underlying30 rfl hs1 ?_ | refine wpList_load_mid rfl 144 _ rfl P 0 rfl _ _ hrk Tryz.underlying144 rfl hs3 ?_ | fail)
    refine HV.out.mono ?_
    rintro e v1 ⟨rfl,hx1⟩
    replace HX:=Lib.hid (HX.out.trans hx1)
    replace HL:=Lib.hid (HL.out.trans hx1)
    clear hx1
    go_wp2_with fail
    exact ⟨⟨5+1,by omega,by go_num,HL.out⟩,by simp [intOf]⟩
   ·clear hk
    have HV:=Lib.hid (fkEmpty6 key day ins A n c wr)
    go_wp2_with (first | refine wpList_load_mid rfl 30 _ rfl w.heap.size 0 rfl _ _ hrg Tryz.underlying30 rfl hs1 ?_ | refine wpList_load_mid rfl 144 _ rfl P 0 rfl _ _ hrk Tryz.underlying144 rfl hs3 ?_ | fail)
    refine HV.out.mono ?_
    rintro e v1 ⟨rfl,hx1⟩
    replace HX:=Lib.hid (HX.out.trans hx1)
    replace HL:=Lib.hid (HL.out.trans hx1)
    clear hx1
    go_wp2_with fail
    exact ⟨⟨6+1,by omega,by go_num,HL.out⟩,by simp [intOf]⟩
   ·clear hk
    have HV:=Lib.hid (fkEmpty7 key day ins A n c wr)
    go_wp2_with (first | refine wpList_load_mid rfl 30 _ rfl w.heap.size 0 rfl _ _ hrg Tryz.underlying30 rfl hs1 ?_ | refine wpList_load_mid rfl 144 _ rfl P 0 rfl _ _ hrk Tryz.underlying144 rfl hs3 ?_ | fail)
    refine HV.out.mono ?_
    rintro e v1 ⟨rfl,hx1⟩
    replace HX:=Lib.hid (HX.out.trans hx1)
    replace HL:=Lib.hid (HL.out.trans hx1)
    clear hx1
    go_wp2_with fail
    exact ⟨⟨7+1,by omega,by go_num,HL.out⟩,by simp [intOf]⟩
   ·clear hk
    have HV:=Lib.hid (fkEmpty8 key day ins A n c wr)
    go_wp2_with (first | refine wpList_load_mid rfl 30 _ rfl w.heap.size 0 rfl _ _ hrg Tryz.underlying30 rfl hs1 ?_ | refine wpList_load_mid rfl 144 _ rfl P 0 rfl _ _ hrk Tryz.underlying144 rfl hs3 ?_ | fail)
    refine HV.out.mono ?_
    rintro e v1 ⟨rfl,hx1⟩
    replace HX:=Lib.hid (HX.out.trans hx1)
    replace HL:=Lib.hid (HL.out.trans hx1)
    clear hx1
    go_wp2_with fail
    exact ⟨⟨8+1,by omega,by go_num,HL.out⟩,by simp [intOf]⟩
   ·clear hk
    have HV:=Lib.hid (fkEmpty9 key day ins A n c wr)
    go_wp2_with (first | refine wpList_load_mid rfl 30 _ rfl w.heap.size 0 rfl _ _ hrg Tryz.underlying30 rfl hs1 ?_ | refine wpList_load_mid rfl 144 _ rfl P 0 rfl _ _ hrk Tryz.underlying144 rfl hs3 ?_ | fail)
    refine HV.out.mono ?_
    rintro e v1 ⟨rfl,hx1⟩
    replace HX:=Lib.hid (HX.out.trans hx1)
    replace HL:=Lib.hid (HL.out.trans hx1)
    clear hx1
    go_wp2_with fail
    exact ⟨⟨9+1,by omega,by go_num,HL.out⟩,by simp [intOf]⟩
   ·clear hk
    have HV:=Lib.hid (fkEmpty10 key day ins A n c wr)
    go_wp2_with (first | refine wpList_load_mid rfl 30 _ rfl w.heap.size 0 rfl _ _ hrg Tryz.underlying30 rfl hs1 ?_ | refine wpList_load_mid rfl 144 _ rfl P 0 rfl _ _ hrk Tryz.underlying144 rfl hs3 ?_ | fail)
    refine HV.out.mono ?_
    rintro e v1 ⟨rfl,hx1⟩
    replace HX:=Lib.hid (HX.out.trans hx1)
    replace HL:=Lib.hid (HL.out.trans hx1)
    clear hx1
    go_wp2_with fail
    exact ⟨⟨10+1,by omega,by go_num,HL.out⟩,by simp [intOf]⟩
   ·clear hk
    have HV:=Lib.hid (fkField11 key day ins A n c exCl.toArray wr (fun W hx=>HO.out W (HX.out.trans hx)))
    go_wp2_with (first | refine wpList_load_mid rfl 30 _ rfl w.heap.size 0 rfl _ _ hrg Tryz.underlying30 rfl hs1 ?_ | refine wpList_load_mid rfl 144 _ rfl P 0 rfl _ _ hrk Tryz.underlying144 rfl hs3 ?_ | fail)
    refine HV.out.mono ?_
    rintro e v1 ⟨rfl,hx1⟩
    replace HX:=Lib.hid (HX.out.trans hx1)
    replace HL:=Lib.hid (HL.out.trans hx1)
    clear hx1
    go_wp2_with fail
    exact ⟨⟨11+1,by omega,by go_num,HL.out⟩,by simp [intOf]⟩
   ·clear hk
    have HV:=Lib.hid (fkEmpty12 key day ins A n c wr)
    go_wp2_with (first | refine wpList_load_mid rfl 30 _ rfl w.heap.size 0 rfl _ _ hrg Tryz.underlying30 rfl hs1 ?_ | refine wpList_load_mid rfl 144 _ rfl P 0 rfl _ _ hrk Tryz.underlying144 rfl hs3 ?_ | fail)
    refine HV.out.mono ?_
    rintro e v1 ⟨rfl,hx1⟩
    replace HX:=Lib.hid (HX.out.trans hx1)
    replace HL:=Lib.hid (HL.out.trans hx1)
    clear hx1
    go_wp2_with fail
    exact ⟨⟨12+1,by omega,by go_num,HL.out⟩,by simp [intOf]⟩
   ·clear hk hrg hrk q2 q3 q4 q5 q6 q7 q8 q9 q10 q11 q12 q13 q14
    go_wp2_with fail
    go_ret
    exact ⟨rfl,HX.out⟩
end
section
open Go.RowKit
def putK (ls:List LotV) (ins:Bs):Nat→Nat
 |0=>0
 |n+1=>match ls[n]? with
  |some y=>if (Op.bytesLess y.ins ins || y.ins == ins)=true then n+1 else putK ls ins n
  |none=>putK ls ins n
theorem putK_le (ls:List LotV) (ins:Bs):∀ n,putK ls ins n≤n
 |0=>Nat.le_refl _
 |n+1=>by
  have:=putK_le ls ins n
  unfold putK
  split
  ·split <;> omega
  ·omega
theorem putK_hit {ls:List LotV} {ins:Bs} {k:Nat} (hk:k<ls.length) (h:(Op.bytesLess (ls[k]'hk).ins ins || (ls[k]'hk).ins == ins)=true):putK ls ins (k+1)=k+1:=by
 conv=>lhs;unfold putK
 rw [List.getElem?_eq_getElem hk]
 exact if_pos h
theorem putK_skip {ls:List LotV} {ins:Bs} {k:Nat} (hk:k<ls.length) (h:(Op.bytesLess (ls[k]'hk).ins ins || (ls[k]'hk).ins == ins)=false):putK ls ins (k+1)=putK ls ins k:=by
 conv=>lhs;unfold putK
 rw [List.getElem?_eq_getElem hk]
 exact if_neg (by rw [h];decide)
end
end Go.Proofs.YthgpheopnhajaaaGreatDoor
