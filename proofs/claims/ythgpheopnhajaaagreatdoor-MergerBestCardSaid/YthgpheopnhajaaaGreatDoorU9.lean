/- The seat's texts, part U9. -/
import Derived.Test.YthgpheopnhajaaaGreatDoorU2
import Derived.Test.YthgpheopnhajaaaGreatDoorU7
import Derived.Test.YthgpheopnhajaaaGreatDoorU8
import Derived.RangeFuncNested
import Derived.RangeFuncBound
import Derived.RangeFuncCalls
import Derived.RangeFuncLeaves
import Derived.Shelf.Abstract
import Derived.Shelf.RegionOpen
import Derived.OwnWalkIn
import Derived.TacticsInMore
import Derived.LoopNIn
import Derived.LoopIn
import Derived.RangeFuncRecord
set_option maxRecDepth 100000
set_option maxHeartbeats 8000000
namespace Go.Proofs.YthgpheopnhajaaaGreatDoor
section
open Go.RowKit
attribute [local go_sem] size_bs toList_bs
structure DvAt (w:World) (g:Nat) (ba bb:Bool) (A A' A1 A2:Option Addr) (x y q r c c':Nat) (W:World):Prop where
 ext:Ext w W
 b1:Blk W g 124 #[.bool ba,.slice A (gr x).length c]
 b2:Blk W (g+1) 124 #[.bool bb,.slice A' (gr y).length c']
 ry:RdU W A' (gr y)
 rq:RdU W A1 (gr q)
 rr:RdU W A2 (gr r)
theorem DvAt.on {w:World} {g:Nat} {ba bb:Bool} {A A' A1 A2:Option Addr} {x y q r c c':Nat} {W W':World} (h:DvAt w g ba bb A A' A1 A2 x y q r c c' W) (hx:Ext W W'):DvAt w g ba bb A A' A1 A2 x y q r c c' W' :=
 ⟨h.ext.trans hx,h.b1.ext hx,h.b2.ext hx,h.ry.ext hx,h.rq.ext hx,h.rr.ext hx⟩
theorem DvAt.cells {w:World} {g:Nat} {ba bb:Bool} {A A' A1 A2:Option Addr} {x y q r c c':Nat} {W:World} (h:DvAt w g ba bb A A' A1 A2 x y q r c c' W):W.cell? ⟨g,0,none⟩=some (.bool ba)∧W.cell? ⟨g+1,0,none⟩=some (.bool bb)∧W.cell? ⟨g+1,1,none⟩=some (.slice A' (gr y).length c'):=by
 have x0:=h.b1.cell 0
 have y0:=h.b2.cell 0
 have y1:=h.b2.cell 1
 simp only [List.getElem?_toArray,List.getElem?_cons_zero,List.getElem?_cons_succ] at x0 y0 y1
 exact ⟨x0,y0,y1⟩
theorem lit1 {W:World} {g:Nat} (h:W.heap.size=g):RdU (W.alloc (.cells #[.int .u64 1] 183)) (some ⟨g,0,none⟩) [1]:=by
 subst h;exact Reads.lit rfl
theorem gr_le {m n L:Nat} (h:n≤m+1) (hm:m<10 ^ L) (hL:L≤100000):(gr n).length≤1000000:=by
 have h1:n<10 ^ (L+1):=by rw [Nat.pow_succ];omega
 have:=gr_len10 h1
 omega
theorem intDiv_zero (a b:Bs) (w:World) (ha:a.length≤100000) (hb:b.length≤100000) (h0:natOf (mag b)=0) :
  Calls Tryz.prog 144 #[.string (bs a),.string (bs b)] w fun e w'=>e = .returned (.tuple #[.string (bs []),.string (bs []),.int .i64 10])∧Ext w w':=by
 have HR1:=Lib.hid (fun W=>intRead a W (by omega))
 have HR2:=Lib.hid (fun W=>intRead b W (by omega))
 rw [h0,gr_zero] at HR2
 generalize natOf (mag a)=x at *
 generalize neg a=ba at *
 generalize neg b=bb at *
 clear ha hb h0
 go_enter Tryz.func144,Tryz.ntmps144
 go_wp2_with fail
 refine (HR1.out _).mono ?_
 rintro e w1 ⟨A,c,rfl,hrd1,hx1,_,_⟩
 go_wp2_with fail
 refine (HR2.out _).mono ?_
 rintro e w2 ⟨A',c',rfl,hrd2,hx2,_,_⟩
 have HX:Hid (Ext w ((w2.alloc (.cells #[.bool ba,.slice A (gr x).length c] 124)).alloc (.cells #[.bool bb,.slice A' 0 c'] 124))):=Lib.hid (((hx1.trans hx2).alloc _).alloc _)
 clear hrd1 hrd2 hx1 hx2
 go_wp2_with fail
 go_ret3
 exact ⟨rfl,HX.out⟩
theorem intDiv_some (a b:Bs) (w:World) (ha:a.length≤100000) (hb:b.length≤100000) (h0:0<natOf (mag b)) (hE:Env w) :
  Calls Tryz.prog 144 #[.string (bs a),.string (bs b)] w fun e w'=>e = .returned (.tuple #[.string (bs (ofI (divF (valI a) (valI b)))),.string (bs (ofI (modF (valI a) (valI b)))),.int .i64 0])∧Ext w w':=by
 have HR1:=Lib.hid (fun W=>intRead a W (by omega))
 have HR2:=Lib.hid (fun W=>intRead b W (by omega))
 obtain ⟨L,hLa,hLb,hL⟩:∃ L:Nat,a.length≤L∧b.length≤L∧L≤100000:=⟨max a.length b.length,by omega,by omega,by omega⟩
 have HL1:Hid ((gr (natOf (mag a))).length≤900000):=Lib.hid (by have:=gr_len10 (mag_pow a hLa);omega)
 have HL2:Hid ((gr (natOf (mag b))).length≤900000):=Lib.hid (by have:=gr_len10 (mag_pow b hLb);omega)
 have HLQ:Hid (∀ n,n≤natOf (mag a)+1→(gr n).length≤1000000):=Lib.hid (fun n h=>gr_le h (mag_pow a hLa) hL)
 have HLR:Hid (∀ n,n≤natOf (mag b)+1→(gr n).length≤1000000):=Lib.hid (fun n h=>gr_le h (mag_pow b hLb) hL)
 have HE:=Lib.hid hE
 have HS:Hid ((neg a=neg b∨natOf (mag a) % natOf (mag b)=0)→txt (neg a != neg b) (natOf (mag a) / natOf (mag b))=ofI (divF (valI a) (valI b))∧txt (neg b) (natOf (mag a) % natOf (mag b))=ofI (modF (valI a) (valI b))):=Lib.hid (fun h=>by
  have:=div_same h0 h
  rw [txt_ofI,txt_ofI,← this.1,← this.2];exact ⟨rfl,rfl⟩)
 have HO:Hid (neg a≠neg b→natOf (mag a) % natOf (mag b)≠0→txt true (natOf (mag a) / natOf (mag b)+1)=ofI (divF (valI a) (valI b))∧txt (neg b) (natOf (mag b)-natOf (mag a) % natOf (mag b))=ofI (modF (valI a) (valI b))):=Lib.hid (fun h h2=>by
  have:=div_other h0 h h2
  rw [txt_ofI,txt_ofI,← this.1,← this.2];exact ⟨rfl,rfl⟩)
 generalize ofI (divF (valI a) (valI b))=zq at *
 generalize ofI (modF (valI a) (valI b))=zr at *
 generalize natOf (mag a)=x at *
 generalize natOf (mag b)=y at *
 generalize neg a=ba at *
 generalize neg b=bb at *
 have hyl:0<(gr y).length:=by
  rcases Nat.eq_zero_or_pos (gr y).length with e | e
  ·have e3:y=0:=gr_inj (by rw [List.length_eq_zero_iff.1 e,gr_zero])
   omega
  ·exact e
 clear ha hb hLa hLb hE
 go_enter Tryz.func144,Tryz.ntmps144
 go_wp2_with fail
 refine (HR1.out _).mono ?_
 rintro e w1 ⟨A,c,rfl,hrd1,hx1,hca,hcm⟩
 have HC:=Lib.hid (And.intro hca hcm)
 clear hca hcm
 go_wp2_with fail
 refine (HR2.out _).mono ?_
 rintro e w2 ⟨A',c',rfl,hrd2,hx2,_,_⟩
 have HB1:=Lib.hid ((Blk.new w2 124 #[.bool ba,.slice A (gr x).length c]).alloc (.cells #[.bool bb,.slice A' (gr y).length c'] 124))
 have HB2:=Lib.hid (blk_at (w2.alloc (.cells #[.bool ba,.slice A (gr x).length c] 124)) 124 #[.bool bb,.slice A' (gr y).length c'] (w2.heap.size+1) (by simp))
 have HX:Hid (Ext w ((w2.alloc (.cells #[.bool ba,.slice A (gr x).length c] 124)).alloc (.cells #[.bool bb,.slice A' (gr y).length c'] 124))):=Lib.hid (((hx1.trans hx2).alloc _).alloc _)
 have HD1:=Lib.hid (((hrd1.ext hx2).ext (Ext.new _ (.cells #[.bool ba,.slice A (gr x).length c] 124))).ext (Ext.new _ (.cells #[.bool bb,.slice A' (gr y).length c'] 124)))
 have HD2:=Lib.hid ((hrd2.ext (Ext.new _ (.cells #[.bool ba,.slice A (gr x).length c] 124))).ext (Ext.new _ (.cells #[.bool bb,.slice A' (gr y).length c'] 124)))
 clear hrd1 hrd2 hx1 hx2
 go_wp2_with fail
 generalize ((w2.alloc (.cells #[.bool ba,.slice A (gr x).length c] 124)).alloc (.cells #[.bool bb,.slice A' (gr y).length c'] 124))=W at *
 generalize w2.heap.size=g at *
 refine (intDivide x y h0 A A' c c' _ HD1.out HD2.out HL1.out HL2.out HC.out.1 HC.out.2).mono ?_
 rintro e w4 ⟨A1,c1,A2,c2,rfl,hrq,hrr,hx,hq,hr⟩
 have H:Hid (DvAt w g ba bb A A' A1 A2 x y (x / y) (x % y) c c' w4):=Lib.hid ⟨HX.out.trans hx,HB1.out.ext hx,HB2.out.ext hx,HD2.out.ext hx,hrq,hrr⟩
 have HCQ:=Lib.hid hq
 have HCR:=Lib.hid hr
 have hrl:x % y<y:=Nat.mod_lt _ h0
 have hql:x / y≤x:=Nat.div_le_self _ _
 have HLq:=Lib.hid (HLQ.out (x / y) (by omega))
 have HLr:=Lib.hid (HLR.out (x % y) (by omega))
 have HLq1:=Lib.hid (HLQ.out (x / y+1) (by omega))
 have HLr1:=Lib.hid (HLR.out (y-x % y) (by omega))
 have HMI:=Lib.hid (fun W hW hW'=>intMinus y (x % y) (by omega) A' A2 c' c2 W hW hW' (by have:=HL2.out;omega) HLr.out)
 have HPL:Hid (∀ W B,RdU W A1 (gr (x / y))→RdU W B [1]→Calls Tryz.prog 133 #[.slice A1 (gr (x / y)).length c1,.slice B 1 1] W (MagEnds (x / y+1) W)):=Lib.hid (fun W B h1 h2=>by
  have e1:gr 1=[1]:=gr_small (by decide) (by decide)
  have:=intPlus (x / y) 1 A1 B c1 1 W h1 (by rw [e1];exact h2) HLq.out (by rw [e1];simp)
  rw [e1] at this
  exact this)
 clear hrq hrr hx hq hr HB1 HB2 HX HD1 HD2 HR1 HR2 HL1 HL2 HLQ HLR hrl hql
 cases ba <;> cases bb
 ·have HVQ:Hid (txt false (x / y)=zq):=Lib.hid (HS.out (.inl rfl)).1
  have HVR:Hid (txt false (x % y)=zr):=Lib.hid (HS.out (.inl rfl)).2
  clear HLq1 HLr1 HMI HPL HS HO
  generalize x / y=qq at *
  generalize x % y=rr at *
  have HT2:=Lib.hid (fun s W h1 h2=>intText s rr A2 c2 W h1 HLr.out HCR.out.1 HCR.out.2 h2)
  obtain ⟨x0,y0,y1⟩:=H.out.cells
  go_wp2_with fail
  replace H:=Lib.hid (H.out.on (Ext.refl _).drew)
  go_region_held3 (fun w'=>w'.cell? ⟨g,0,none⟩=some (.bool false)∧w'.cell? ⟨g+1,0,none⟩=some (.bool false))
   (go_keep)
   (first
    |(go_at_call 80;((with_reducible refine (intText _ qq A1 c1 _ H.out.rq HLq.out HCQ.out.1 HCQ.out.2 (HE.out.ext H.out.ext)).mono ?_);rintro e w5 ⟨rfl,hx⟩);(replace H:=Lib.hid (H.out.on hx));(obtain ⟨u0,v0,_⟩:=H.out.cells);clear hx)
    |(go_at_call 80;((with_reducible refine (HT2.out _ _ H.out.rr (HE.out.ext H.out.ext)).mono ?_);rintro e w6 ⟨rfl,hx⟩);(replace H:=Lib.hid (H.out.on hx));(obtain ⟨s0,t0,_⟩:=H.out.cells);clear hx))
  all_goals
   rw [HVQ.out,HVR.out]
   go_wp2_with fail
   go_ret3
   exact ⟨rfl,H.out.ext⟩
 ·by_cases hz:x % y=0
  ·have HVQ:Hid (txt true (x / y)=zq):=Lib.hid (HS.out (.inr hz)).1
   have HVR:Hid (txt true (x % y)=zr):=Lib.hid (HS.out (.inr hz)).2
   have hl0:(gr (x % y)).length=0:=by rw [hz,gr_zero];rfl
   clear HLq1 HLr1 HMI HPL HS HO hz
   generalize x / y=qq at *
   generalize x % y=rr at *
   have HT2:=Lib.hid (fun s W h1 h2=>intText s rr A2 c2 W h1 HLr.out HCR.out.1 HCR.out.2 h2)
   rw [hl0] at HT2
   obtain ⟨x0,y0,y1⟩:=H.out.cells
   go_wp2_with fail
   replace H:=Lib.hid (H.out.on (Ext.refl _).drew)
   go_region_held3 (fun w'=>w'.cell? ⟨g,0,none⟩=some (.bool false)∧w'.cell? ⟨g+1,0,none⟩=some (.bool true))
    (go_keep)
    (first
     |(go_at_call 80;((with_reducible refine (intText _ qq A1 c1 _ H.out.rq HLq.out HCQ.out.1 HCQ.out.2 (HE.out.ext H.out.ext)).mono ?_);rintro e w5 ⟨rfl,hx⟩);(replace H:=Lib.hid (H.out.on hx));(obtain ⟨u0,v0,_⟩:=H.out.cells);clear hx)
     |(go_at_call 80;((with_reducible refine (HT2.out _ _ H.out.rr (HE.out.ext H.out.ext)).mono ?_);rintro e w6 ⟨rfl,hx⟩);(replace H:=Lib.hid (H.out.on hx));(obtain ⟨s0,t0,_⟩:=H.out.cells);clear hx))
   all_goals
    rw [HVQ.out,HVR.out]
    go_wp2_with fail
    go_ret3
    exact ⟨rfl,H.out.ext⟩
  ·have HVQ:Hid (txt true (x / y+1)=zq):=Lib.hid (HO.out (by decide) hz).1
   have HVR:Hid (txt true (y-x % y)=zr):=Lib.hid (HO.out (by decide) hz).2
   have hl0:0<(gr (x % y)).length:=by
    rcases Nat.eq_zero_or_pos (gr (x % y)).length with e | e
    ·exact absurd (gr_inj (by rw [List.length_eq_zero_iff.1 e,gr_zero]):x % y=0) hz
    ·exact e
   clear HS HO hz HLq HLr HCQ HCR
   generalize x / y=q0 at *
   generalize x % y=r0 at *
   obtain ⟨x0,y0,y1⟩:=H.out.cells
   have hgs:=H.out.b2.lt
   go_wp2_with fail
   have H0:=H
   replace H:=Lib.hid (H.out.on (Ext.refl _).drew)
   obtain ⟨x2,y2,y3⟩:=H.out.cells
   go_region_held3 (fun w'=>w'.cell? ⟨g+1,1,none⟩=some (.slice A' (gr y).length c'))
    (go_keep)
    (first
     |(go_at_call 133;((with_reducible refine (HPL.out _ _ ((H0.out.on (Ext.new _ _)).on (Ext.refl _).drew).rq ((lit1 (by first | rfl | simp)).ext (Ext.refl _).drew)).mono ?_);rintro e w5 ⟨A3,c3,rfl,hrd3,hx,hc3,hm3⟩);(replace H:=Lib.hid (((H0.out.on (Ext.new _ _)).on (Ext.refl _).drew).on hx));(have HCQ:=Lib.hid (And.intro hc3 hm3));(have HRQ:=Lib.hid hrd3);(obtain ⟨_,_,v1⟩:=H.out.cells);(try (replace HRR:=Lib.hid (HRR.out.ext hx)));clear hx hrd3 hc3 hm3)
     |(go_at_call 133;((with_reducible refine (HPL.out _ _ (H.out.on (Ext.new _ _)).rq (lit1 (by first | rfl | simp))).mono ?_);rintro e w5 ⟨A3,c3,rfl,hrd3,hx,hc3,hm3⟩);(replace H:=Lib.hid ((H.out.on (Ext.new _ _)).on hx));(have HCQ:=Lib.hid (And.intro hc3 hm3));(have HRQ:=Lib.hid hrd3);(obtain ⟨_,_,v1⟩:=H.out.cells);(try (replace HRR:=Lib.hid (HRR.out.ext hx)));clear hx hrd3 hc3 hm3)
     |(go_at_call 133;((with_reducible refine (HPL.out _ _ H.out.rq HLIT.out).mono ?_);rintro e w5 ⟨A3,c3,rfl,hrd3,hx,hc3,hm3⟩);(replace H:=Lib.hid (H.out.on hx));(have HCQ:=Lib.hid (And.intro hc3 hm3));(have HRQ:=Lib.hid hrd3);(obtain ⟨_,_,v1⟩:=H.out.cells);(try (replace HRR:=Lib.hid (HRR.out.ext hx)));clear hx hrd3 hc3 hm3)
     |(go_at_call 134;((with_reducible refine (HMI.out _ H.out.ry H.out.rr).mono ?_);rintro e w6 ⟨A4,c4,rfl,hrd4,hx,hc4,hm4⟩);(replace H:=Lib.hid (H.out.on hx));(have HCR:=Lib.hid (And.intro hc4 hm4));(have HRR:=Lib.hid hrd4);(obtain ⟨_,_,v1⟩:=H.out.cells);(try (replace HRQ:=Lib.hid (HRQ.out.ext hx)));clear hx hrd4 hc4 hm4)
     |(go_at_call 134;((with_reducible refine (HMI.out _ ((H0.out.on (Ext.new _ _)).on (Ext.refl _).drew).ry ((H0.out.on (Ext.new _ _)).on (Ext.refl _).drew).rr).mono ?_);rintro e w6 ⟨A4,c4,rfl,hrd4,hx,hc4,hm4⟩);(have HLIT:Hid (RdU w6 _ [1]):=Lib.hid (((lit1 rfl).ext (Ext.refl _).drew).ext hx));(replace H:=Lib.hid (((H0.out.on (Ext.new _ _)).on (Ext.refl _).drew).on hx));(have HCR:=Lib.hid (And.intro hc4 hm4));(have HRR:=Lib.hid hrd4);(obtain ⟨_,_,v1⟩:=H.out.cells);clear hx hrd4 hc4 hm4))
   all_goals
    replace H:Hid (DvAt w g false true A A' A3 A4 x y (q0+1) (y-r0) c c' _):=Lib.hid ⟨H.out.ext,H.out.b1,H.out.b2,H.out.ry,HRQ.out,HRR.out⟩
    have HLq:=HLq1
    have HLr:=HLr1
    clear HLq1 HLr1 HMI HPL HRQ HRR
    generalize q0+1=qq at *
    generalize y-r0=rr at *
    have HT2:=Lib.hid (fun s W h1 h2=>intText s rr A4 c4 W h1 HLr.out HCR.out.1 HCR.out.2 h2)
    obtain ⟨x0,y0,y1⟩:=H.out.cells
    go_wp2_with fail
    replace H:=Lib.hid (H.out.on (Ext.refl _).drew)
    go_region_held3 (fun w'=>w'.cell? ⟨g,0,none⟩=some (.bool false)∧w'.cell? ⟨g+1,0,none⟩=some (.bool true))
     (go_keep)
     (first
      |(go_at_call 80;((with_reducible refine (intText _ qq A3 c3 _ H.out.rq HLq.out HCQ.out.1 HCQ.out.2 (HE.out.ext H.out.ext)).mono ?_);rintro e w5 ⟨rfl,hx⟩);(replace H:=Lib.hid (H.out.on hx));(obtain ⟨u0,v0,_⟩:=H.out.cells);clear hx)
      |(go_at_call 80;((with_reducible refine (HT2.out _ _ H.out.rr (HE.out.ext H.out.ext)).mono ?_);rintro e w6 ⟨rfl,hx⟩);(replace H:=Lib.hid (H.out.on hx));(obtain ⟨s0,t0,_⟩:=H.out.cells);clear hx))
    all_goals
     rw [HVQ.out,HVR.out]
     go_wp2_with fail
     go_ret3
     exact ⟨rfl,H.out.ext⟩
 ·by_cases hz:x % y=0
  ·have HVQ:Hid (txt true (x / y)=zq):=Lib.hid (HS.out (.inr hz)).1
   have HVR:Hid (txt false (x % y)=zr):=Lib.hid (HS.out (.inr hz)).2
   have hl0:(gr (x % y)).length=0:=by rw [hz,gr_zero];rfl
   clear HLq1 HLr1 HMI HPL HS HO hz
   generalize x / y=qq at *
   generalize x % y=rr at *
   have HT2:=Lib.hid (fun s W h1 h2=>intText s rr A2 c2 W h1 HLr.out HCR.out.1 HCR.out.2 h2)
   rw [hl0] at HT2
   obtain ⟨x0,y0,y1⟩:=H.out.cells
   go_wp2_with fail
   replace H:=Lib.hid (H.out.on (Ext.refl _).drew)
   go_region_held3 (fun w'=>w'.cell? ⟨g,0,none⟩=some (.bool true)∧w'.cell? ⟨g+1,0,none⟩=some (.bool false))
    (go_keep)
    (first
     |(go_at_call 80;((with_reducible refine (intText _ qq A1 c1 _ H.out.rq HLq.out HCQ.out.1 HCQ.out.2 (HE.out.ext H.out.ext)).mono ?_);rintro e w5 ⟨rfl,hx⟩);(replace H:=Lib.hid (H.out.on hx));(obtain ⟨u0,v0,_⟩:=H.out.cells);clear hx)
     |(go_at_call 80;((with_reducible refine (HT2.out _ _ H.out.rr (HE.out.ext H.out.ext)).mono ?_);rintro e w6 ⟨rfl,hx⟩);(replace H:=Lib.hid (H.out.on hx));(obtain ⟨s0,t0,_⟩:=H.out.cells);clear hx))
   all_goals
    rw [HVQ.out,HVR.out]
    go_wp2_with fail
    go_ret3
    exact ⟨rfl,H.out.ext⟩
  ·have HVQ:Hid (txt true (x / y+1)=zq):=Lib.hid (HO.out (by decide) hz).1
   have HVR:Hid (txt false (y-x % y)=zr):=Lib.hid (HO.out (by decide) hz).2
   have hl0:0<(gr (x % y)).length:=by
    rcases Nat.eq_zero_or_pos (gr (x % y)).length with e | e
    ·exact absurd (gr_inj (by rw [List.length_eq_zero_iff.1 e,gr_zero]):x % y=0) hz
    ·exact e
   clear HS HO hz HLq HLr HCQ HCR
   generalize x / y=q0 at *
   generalize x % y=r0 at *
   obtain ⟨x0,y0,y1⟩:=H.out.cells
   have hgs:=H.out.b2.lt
   go_wp2_with fail
   have H0:=H
   replace H:=Lib.hid (H.out.on (Ext.refl _).drew)
   obtain ⟨x2,y2,y3⟩:=H.out.cells
   go_region_held3 (fun w'=>w'.cell? ⟨g+1,1,none⟩=some (.slice A' (gr y).length c'))
    (go_keep)
    (first
     |(go_at_call 133;((with_reducible refine (HPL.out _ _ ((H0.out.on (Ext.new _ _)).on (Ext.refl _).drew).rq ((lit1 (by first | rfl | simp)).ext (Ext.refl _).drew)).mono ?_);rintro e w5 ⟨A3,c3,rfl,hrd3,hx,hc3,hm3⟩);(replace H:=Lib.hid (((H0.out.on (Ext.new _ _)).on (Ext.refl _).drew).on hx));(have HCQ:=Lib.hid (And.intro hc3 hm3));(have HRQ:=Lib.hid hrd3);(obtain ⟨_,_,v1⟩:=H.out.cells);(try (replace HRR:=Lib.hid (HRR.out.ext hx)));clear hx hrd3 hc3 hm3)
     |(go_at_call 133;((with_reducible refine (HPL.out _ _ (H.out.on (Ext.new _ _)).rq (lit1 (by first | rfl | simp))).mono ?_);rintro e w5 ⟨A3,c3,rfl,hrd3,hx,hc3,hm3⟩);(replace H:=Lib.hid ((H.out.on (Ext.new _ _)).on hx));(have HCQ:=Lib.hid (And.intro hc3 hm3));(have HRQ:=Lib.hid hrd3);(obtain ⟨_,_,v1⟩:=H.out.cells);(try (replace HRR:=Lib.hid (HRR.out.ext hx)));clear hx hrd3 hc3 hm3)
     |(go_at_call 133;((with_reducible refine (HPL.out _ _ H.out.rq HLIT.out).mono ?_);rintro e w5 ⟨A3,c3,rfl,hrd3,hx,hc3,hm3⟩);(replace H:=Lib.hid (H.out.on hx));(have HCQ:=Lib.hid (And.intro hc3 hm3));(have HRQ:=Lib.hid hrd3);(obtain ⟨_,_,v1⟩:=H.out.cells);(try (replace HRR:=Lib.hid (HRR.out.ext hx)));clear hx hrd3 hc3 hm3)
     |(go_at_call 134;((with_reducible refine (HMI.out _ H.out.ry H.out.rr).mono ?_);rintro e w6 ⟨A4,c4,rfl,hrd4,hx,hc4,hm4⟩);(replace H:=Lib.hid (H.out.on hx));(have HCR:=Lib.hid (And.intro hc4 hm4));(have HRR:=Lib.hid hrd4);(obtain ⟨_,_,v1⟩:=H.out.cells);(try (replace HRQ:=Lib.hid (HRQ.out.ext hx)));clear hx hrd4 hc4 hm4)
     |(go_at_call 134;((with_reducible refine (HMI.out _ ((H0.out.on (Ext.new _ _)).on (Ext.refl _).drew).ry ((H0.out.on (Ext.new _ _)).on (Ext.refl _).drew).rr).mono ?_);rintro e w6 ⟨A4,c4,rfl,hrd4,hx,hc4,hm4⟩);(have HLIT:Hid (RdU w6 _ [1]):=Lib.hid (((lit1 rfl).ext (Ext.refl _).drew).ext hx));(replace H:=Lib.hid (((H0.out.on (Ext.new _ _)).on (Ext.refl _).drew).on hx));(have HCR:=Lib.hid (And.intro hc4 hm4));(have HRR:=Lib.hid hrd4);(obtain ⟨_,_,v1⟩:=H.out.cells);clear hx hrd4 hc4 hm4))
   all_goals
    replace H:Hid (DvAt w g true false A A' A3 A4 x y (q0+1) (y-r0) c c' _):=Lib.hid ⟨H.out.ext,H.out.b1,H.out.b2,H.out.ry,HRQ.out,HRR.out⟩
    have HLq:=HLq1
    have HLr:=HLr1
    clear HLq1 HLr1 HMI HPL HRQ HRR
    generalize q0+1=qq at *
    generalize y-r0=rr at *
    have HT2:=Lib.hid (fun s W h1 h2=>intText s rr A4 c4 W h1 HLr.out HCR.out.1 HCR.out.2 h2)
    obtain ⟨x0,y0,y1⟩:=H.out.cells
    go_wp2_with fail
    replace H:=Lib.hid (H.out.on (Ext.refl _).drew)
    go_region_held3 (fun w'=>w'.cell? ⟨g,0,none⟩=some (.bool true)∧w'.cell? ⟨g+1,0,none⟩=some (.bool false))
     (go_keep)
     (first
      |(go_at_call 80;((with_reducible refine (intText _ qq A3 c3 _ H.out.rq HLq.out HCQ.out.1 HCQ.out.2 (HE.out.ext H.out.ext)).mono ?_);rintro e w5 ⟨rfl,hx⟩);(replace H:=Lib.hid (H.out.on hx));(obtain ⟨u0,v0,_⟩:=H.out.cells);clear hx)
      |(go_at_call 80;((with_reducible refine (HT2.out _ _ H.out.rr (HE.out.ext H.out.ext)).mono ?_);rintro e w6 ⟨rfl,hx⟩);(replace H:=Lib.hid (H.out.on hx));(obtain ⟨s0,t0,_⟩:=H.out.cells);clear hx))
    all_goals
     rw [HVQ.out,HVR.out]
     go_wp2_with fail
     go_ret3
     exact ⟨rfl,H.out.ext⟩
 ·have HVQ:Hid (txt false (x / y)=zq):=Lib.hid (HS.out (.inl rfl)).1
  have HVR:Hid (txt true (x % y)=zr):=Lib.hid (HS.out (.inl rfl)).2
  clear HLq1 HLr1 HMI HPL HS HO
  generalize x / y=qq at *
  generalize x % y=rr at *
  have HT2:=Lib.hid (fun s W h1 h2=>intText s rr A2 c2 W h1 HLr.out HCR.out.1 HCR.out.2 h2)
  obtain ⟨x0,y0,y1⟩:=H.out.cells
  go_wp2_with fail
  replace H:=Lib.hid (H.out.on (Ext.refl _).drew)
  go_region_held3 (fun w'=>w'.cell? ⟨g,0,none⟩=some (.bool true)∧w'.cell? ⟨g+1,0,none⟩=some (.bool true))
   (go_keep)
   (first
    |(go_at_call 80;((with_reducible refine (intText _ qq A1 c1 _ H.out.rq HLq.out HCQ.out.1 HCQ.out.2 (HE.out.ext H.out.ext)).mono ?_);rintro e w5 ⟨rfl,hx⟩);(replace H:=Lib.hid (H.out.on hx));(obtain ⟨u0,v0,_⟩:=H.out.cells);clear hx)
    |(go_at_call 80;((with_reducible refine (HT2.out _ _ H.out.rr (HE.out.ext H.out.ext)).mono ?_);rintro e w6 ⟨rfl,hx⟩);(replace H:=Lib.hid (H.out.on hx));(obtain ⟨s0,t0,_⟩:=H.out.cells);clear hx))
  all_goals
   rw [HVQ.out,HVR.out]
   go_wp2_with fail
   go_ret3
   exact ⟨rfl,H.out.ext⟩
end
section
open Go.RowKit
structure Fr where
 num:Bs
 den:Bs
def redN (n d:Int):Int:=(if d<0 then -n else n) / (Int.gcd n d:Nat)
def redD (n d:Int):Int:=(d.natAbs / Int.gcd n d:Nat)
def frq (n d:Int):Fr:=⟨ofI (redN n d),if redD n d=1 then [] else ofI (redD n d)⟩
theorem gcd_pos {n d:Int} (hd:d≠0):0<Int.gcd n d:=Int.gcd_pos_of_ne_zero_right _ hd
theorem redN_exact {n d:Int} (_hd:d≠0):redN n d*(Int.gcd n d:Nat)=if d<0 then -n else n:=by
 unfold redN
 apply Int.ediv_mul_cancel
 split
 ·exact Int.dvd_neg.2 (Int.gcd_dvd_left n d)
 ·exact Int.gcd_dvd_left n d
theorem redD_exact {n d:Int} (_hd:d≠0):redD n d*(Int.gcd n d:Nat)=d.natAbs:=by
 unfold redD
 rw [← Int.natCast_mul]
 congr 1
 apply Nat.div_mul_cancel
 exact Nat.gcd_dvd_right n.natAbs d.natAbs
def frN (f:Fr):Int:=valI f.num
def frD (f:Fr):Int:=if valI f.den=0 then 1 else valI f.den
theorem frD_ne (f:Fr):frD f≠0:=by unfold frD;split;decide;assumption
end
section
open Go.RowKit
def ofQ (q:Rat):Fr:=⟨ofI q.num,if q.den=1 then [] else ofI q.den⟩
def frQ (f:Fr):Rat:=Rat.divInt (frN f) (frD f)
theorem redN_num {n d:Int} (hd:d≠0):redN n d=(Rat.divInt n d).num:=by
 unfold redN
 rw [Rat.num_divInt,Int.gcd_comm d n]
 congr 1
 rcases Int.lt_or_gt_of_ne hd with h | h
 ·rw [if_pos h,Int.sign_eq_neg_one_of_neg h];omega
 ·rw [if_neg (by omega),Int.sign_eq_one_of_pos h];omega
theorem redD_den {n d:Int} (hd:d≠0):redD n d=(Rat.divInt n d).den:=by
 unfold redD
 rw [Rat.den_divInt,if_neg hd,Int.gcd_comm d n]
theorem frq_ofQ {n d:Int} (hd:d≠0):frq n d=ofQ (Rat.divInt n d):=by
 unfold frq ofQ
 rw [redN_num hd,redD_den hd]
 congr 1
 by_cases h:(Rat.divInt n d).den=1
 ·rw [if_pos (by omega),if_pos h]
 ·rw [if_neg (by omega),if_neg h]
theorem frN_ofQ (q:Rat):frN (ofQ q)=q.num:=valI_ofI _
theorem frD_ofQ (q:Rat):frD (ofQ q)=q.den:=by
 have hp:=q.den_pos
 unfold frD ofQ
 by_cases h:q.den=1
 ·simp only [if_pos h];rw [h];decide
 ·simp only [if_neg h];rw [valI_ofI,if_neg (by omega)]
theorem frQ_ofQ (q:Rat):frQ (ofQ q)=q:=by
 unfold frQ
 rw [frN_ofQ,frD_ofQ]
 exact Rat.num_divInt_den q
theorem ofQ_int (z:Int):ofQ z=⟨ofI z,[]⟩:=by
 unfold ofQ;simp
theorem ofQ_zero:ofQ 0=⟨[],[]⟩:=by
 have:ofQ ((0:Int):Rat)=⟨[],[]⟩:=by rw [ofQ_int];rw [show ofI 0=[] by unfold ofI;simp [dig10_zero]]
 exact this
def QB (L:Nat) (q:Rat):Prop:=q.num.natAbs<10 ^ L∧q.den<10 ^ L
theorem QB.mono {L M:Nat} {q:Rat} (h:QB L q) (hm:L≤M):QB M q:=by
 have:10 ^ L≤10 ^ M:=Nat.pow_le_pow_right (by decide) hm
 exact ⟨by have:=h.1;omega,by have:=h.2;omega⟩
theorem qb_divInt {L:Nat} {n d:Int} (hL:0<L) (hn:n.natAbs<10 ^ L) (hd:d.natAbs<10 ^ L):QB L (Rat.divInt n d):=by
 have h1:1<10 ^ L:=Nat.one_lt_pow (by omega) (by decide)
 constructor
 ·rw [Rat.num_divInt]
  refine Nat.lt_of_le_of_lt ?_ hn
  refine Nat.le_trans (Int.natAbs_ediv_le_natAbs _ _) ?_
  rw [Int.natAbs_mul]
  have:d.sign.natAbs≤1:=by
   rcases Int.lt_trichotomy d 0 with h | h | h
   ·rw [Int.sign_eq_neg_one_of_neg h];decide
   ·rw [h];decide
   ·rw [Int.sign_eq_one_of_pos h];decide
  exact Nat.le_trans (Nat.mul_le_mul_right _ this) (Nat.le_of_eq (Nat.one_mul _))
 ·rw [Rat.den_divInt]
  split
  ·exact h1
  ·exact Nat.lt_of_le_of_lt (Nat.div_le_self _ _) hd
theorem QB.neg {L:Nat} {q:Rat} (h:QB L q):QB L (-q):=⟨by rw [Rat.neg_num,Int.natAbs_neg];exact h.1,h.2⟩
theorem mul_lt10 {a b L M:Nat} (ha:a<10 ^ L) (hb:b<10 ^ M):a*b<10 ^ (L+M):=by
 rw [Nat.pow_add]
 rcases Nat.eq_zero_or_pos b with h | h
 ·subst h;rw [Nat.mul_zero];exact Nat.mul_pos (Nat.pow_pos (by decide)) (Nat.pow_pos (by decide))
 ·exact Nat.lt_of_lt_of_le (Nat.mul_lt_mul_of_pos_right ha h) (Nat.mul_le_mul_left _ (by omega))
theorem QB.pos {L:Nat} {q:Rat} (h:QB L q):0<L:=by
 rcases Nat.eq_zero_or_pos L with h0 | h0
 ·subst h0;have:=h.2;have:=q.den_pos;omega
 ·exact h0
theorem add_lt10 {a b L:Nat} (ha:a<10 ^ L) (hb:b<10 ^ L):a+b<10 ^ (L+1):=by rw [Nat.pow_succ];omega
theorem QB.mul {L M:Nat} {p q:Rat} (h:QB L p) (k:QB M q):QB (L+M) (p*q):=by
 rw [Rat.mul_def',← Rat.divInt_ofNat]
 refine qb_divInt (by have:=h.pos;omega) ?_ ?_
 ·rw [Int.natAbs_mul];exact mul_lt10 h.1 k.1
 ·rw [Int.natAbs_natCast];exact mul_lt10 h.2 k.2
theorem QB.add {L M:Nat} {p q:Rat} (h:QB L p) (k:QB M q):QB (L+M+1) (p+q):=by
 rw [Rat.add_def',← Rat.divInt_ofNat]
 refine qb_divInt (by omega) ?_ ?_
 ·refine Nat.lt_of_le_of_lt (Int.natAbs_add_le _ _) ?_
  rw [Int.natAbs_mul,Int.natAbs_mul,Int.natAbs_natCast,Int.natAbs_natCast]
  refine add_lt10 (mul_lt10 h.1 k.2) ?_
  rw [Nat.add_comm L M];exact mul_lt10 k.1 h.2
 ·rw [Int.natAbs_natCast]
  have:=mul_lt10 h.2 k.2
  rw [Nat.pow_succ];omega
theorem QB.sub {L M:Nat} {p q:Rat} (h:QB L p) (k:QB M q):QB (L+M+1) (p-q):=by
 rw [Rat.sub_eq_add_neg];exact h.add k.neg
theorem qb_int {L:Nat} {z:Int} (hL:0<L) (h:z.natAbs<10 ^ L):QB L (z:Rat):=⟨by simpa using h,by simp;exact Nat.one_lt_pow (by omega) (by decide)⟩
theorem ofI_lt10 {z:Int} {L:Nat} (h:z.natAbs<10 ^ L):(ofI z).length≤L+1:=by
 have:=dig10_len h
 unfold ofI;split
 ·rw [List.length_cons];omega
 ·omega
theorem QB.num_len {L:Nat} {q:Rat} (h:QB L q):(ofQ q).num.length≤L+1:=ofI_lt10 h.1
theorem QB.den_len {L:Nat} {q:Rat} (h:QB L q):(ofQ q).den.length≤L+1:=by
 unfold ofQ;simp only
 split
 ·simp
 ·exact ofI_lt10 (by rw [Int.natAbs_natCast];exact h.2)
theorem valI_lt10 {l:Bs} {L:Nat} (h:l.length≤L):(valI l).natAbs<10 ^ L:=by
 have h1:=natOf_lt (mag_all l)
 have h2:10 ^ (mag l).length≤10 ^ L:=Nat.pow_le_pow_right (by decide) (Nat.le_trans (mag_le l) h)
 unfold valI;split <;> omega
theorem frQ_qb {f:Fr} {L:Nat} (h1:f.num.length≤L) (h2:f.den.length≤L) (h0:0<L):QB L (frQ f):=by
 refine qb_divInt h0 (valI_lt10 h1) ?_
 unfold frD;split
 ·exact Nat.one_lt_pow (by omega) (by decide)
 ·exact valI_lt10 h2
theorem divInt_one (z:Int):Rat.divInt z 1=(z:Rat):=by
 rw [Rat.divInt_eq_div];simp only [Rat.intCast_one];grind
theorem num_neg (q:Rat):q.num<0↔q<0:=by
 have:=Rat.num_nonneg (q:=q)
 grind
def cmpQ (p q:Rat):Int:=if p<q then -1 else if p=q then 0 else 1
theorem cmpQ_num (p q:Rat):cmpI (p-q).num 0=cmpQ p q:=by
 unfold cmpI cmpQ
 have h1:=num_neg (p-q)
 have h2:(p-q).num=0↔p-q=0:=Rat.num_eq_zero
 have h3:p-q<0↔p<q:=by grind
 have h4:p-q=0↔p=q:=by grind
 by_cases a:p<q
 ·rw [if_pos (h1.2 (h3.2 a)),if_pos a]
 ·rw [if_neg (fun h=>a (h3.1 (h1.1 h))),if_neg a]
  by_cases b:p=q
  ·rw [if_pos (h2.2 (h4.2 b)),if_pos b]
  ·rw [if_neg (fun h=>b (h4.1 (h2.1 h))),if_neg b]
theorem cmpQ_neg {p q:Rat}:cmpQ p q<0↔p<q:=by unfold cmpQ;split <;> (try split) <;> simp_all
theorem cmpQ_pos {p q:Rat}:0<cmpQ p q↔q<p:=by
 unfold cmpQ;split
 ·simp;grind
 ·split
  ·simp;grind
  ·simp;grind
theorem cmpQ_zero {p q:Rat}:cmpQ p q=0↔p=q:=by
 unfold cmpQ;split
 ·simp;grind
 ·split <;> simp_all
theorem mul_len {x y:Bs} {L M:Nat} (hx:x.length≤L) (hy:y.length≤M):(ofI (valI x*valI y)).length≤L+M+1:=ofI_lt10 (by rw [Int.natAbs_mul];exact mul_lt10 (valI_lt10 hx) (valI_lt10 hy))
theorem add_len {x y:Bs} {L:Nat} (hx:x.length≤L) (hy:y.length≤L):(ofI (valI x+valI y)).length≤L+2:=ofI_lt10 (Nat.lt_of_le_of_lt (Int.natAbs_add_le _ _) (add_lt10 (valI_lt10 hx) (valI_lt10 hy)))
theorem sub_len {x y:Bs} {L:Nat} (hx:x.length≤L) (hy:y.length≤L):(ofI (valI x-valI y)).length≤L+2:=ofI_lt10 (Nat.lt_of_le_of_lt (Int.natAbs_sub_le _ _) (add_lt10 (valI_lt10 hx) (valI_lt10 hy)))
theorem neg_len {x:Bs} {L:Nat} (hx:x.length≤L):(ofI (-(valI x))).length≤L+1:=ofI_lt10 (by rw [Int.natAbs_neg];exact valI_lt10 hx)
end
section
open Go.RowKit
def cfR (r:List Int) (i k:Fin r.length):Int:=if cmpI r[k] r[i]≠0 then cmpI r[k] r[i] else cmpI (i.val:Int) (k.val:Int)
def ltR (r:List Int) (i k:Fin r.length):Bool:=decide (cfR r i k<0)
theorem cmpI_neg {x y:Int}:cmpI x y<0↔x<y:=by unfold cmpI;split <;> (try split) <;> omega
theorem cmpI_zero {x y:Int}:cmpI x y=0↔x=y:=by unfold cmpI;split <;> (try split) <;> omega
theorem cmpI_pos {x y:Int}:0<cmpI x y↔y<x:=by unfold cmpI;split <;> (try split) <;> omega
theorem ltR_iff {r:List Int} {i k:Fin r.length}:ltR r i k=true↔r[k]<r[i]∨(r[k]=r[i]∧i.val<k.val):=by
 unfold ltR cfR
 rw [decide_eq_true_iff]
 by_cases h:r[k]=r[i]
 ·rw [if_neg (by rw [Ne,cmpI_zero];omega),cmpI_neg];omega
 ·rw [if_pos (by rw [Ne,cmpI_zero];omega),cmpI_neg];omega
def ordR (r:List Int):List (Fin r.length):=(List.finRange r.length).mergeSort (fun x y=>!ltR r y x)
theorem ordR_perm (r:List Int):(ordR r).Perm (List.finRange r.length):=List.mergeSort_perm _ _
theorem ordR_len (r:List Int):(ordR r).length=r.length:=by rw [ordR,List.length_mergeSort,List.length_finRange]
theorem ordR_nodup (r:List Int):(ordR r).Nodup:=(ordR_perm r).nodup_iff.2 (List.nodup_finRange _)
def bumpAll (p:List Int) (is:List Nat):List Int:=is.foldl (fun l i=>l.modify i (·+1)) p
theorem bumpAll_len (p:List Int) (is:List Nat):(bumpAll p is).length=p.length:=by
 unfold bumpAll
 induction is generalizing p with
 |nil=>rfl
 |cons i r ih=>rw [List.foldl_cons,ih,List.length_modify]
theorem bumpAll_get (p:List Int) (is:List Nat) (hn:is.Nodup) (k:Nat) (hk:k<p.length):(bumpAll p is)[k]? = some (p[k]+if k ∈ is then 1 else 0):=by
 unfold bumpAll
 induction is generalizing p with
 |nil=>simp [hk]
 |cons i r ih =>
  rw [List.nodup_cons] at hn
  rw [List.foldl_cons,ih _ hn.2 (by rw [List.length_modify];exact hk),List.getElem_modify]
  congr 1
  by_cases e:i=k
  ·subst e
   rw [if_pos rfl,if_neg hn.1,if_pos (by simp)];omega
  ·rw [if_neg e]
   by_cases hr:k ∈ r
   ·rw [if_pos hr,if_pos (by simp [hr])]
   ·rw [if_neg hr,if_neg (by simp [hr];omega)]
def prtL (T:Int) (ws:List Int):List Int:=ws.map (fun x=>T*x / ws.sum)
def rstL (T:Int) (ws:List Int):List Int:=ws.map (fun x=>T*x % ws.sum)
def missN (T:Int) (ws:List Int):Int:=T-(prtL T ws).sum
def topL (T:Int) (ws:List Int):List Nat:=((ordR (rstL T ws)).take (missN T ws).toNat).map (·.val)
def splitP (T:Int) (ws:List Int):List Int:=bumpAll (prtL T ws) (topL T ws)
def splitV (T:Int) (ws:List Int):List Int:=if T<0 then (splitP (-T) ws).map (-·) else splitP T ws
theorem prtL_len (T:Int) (ws:List Int):(prtL T ws).length=ws.length:=List.length_map ..
theorem rstL_len (T:Int) (ws:List Int):(rstL T ws).length=ws.length:=List.length_map ..
theorem splitP_len (T:Int) (ws:List Int):(splitP T ws).length=ws.length:=by rw [splitP,bumpAll_len,prtL_len]
theorem splitV_len (T:Int) (ws:List Int):(splitV T ws).length=ws.length:=by
 unfold splitV;split
 ·rw [List.length_map,splitP_len]
 ·exact splitP_len _ _
theorem sum_divmod (T S:Int) (l:List Int):S*(l.map (fun x=>T*x / S)).sum+(l.map (fun x=>T*x % S)).sum=T*l.sum:=by
 induction l with
 |nil=>simp
 |cons a r ih =>
  simp only [List.map_cons,List.sum_cons]
  have:=Int.mul_ediv_add_emod (T*a) S
  rw [Int.mul_add,Int.mul_add];omega
theorem miss_eq {T:Int} {ws:List Int}:ws.sum*missN T ws=(rstL T ws).sum:=by
 have:=sum_divmod T ws.sum ws
 have e:(prtL T ws).sum=(ws.map (fun x=>T*x / ws.sum)).sum:=rfl
 have e2:(rstL T ws).sum=(ws.map (fun x=>T*x % ws.sum)).sum:=rfl
 unfold missN
 rw [Int.mul_sub,e,e2,Int.mul_comm ws.sum T];omega
theorem sum_bounds {S:Int} (l:List Int) (h:∀ x ∈ l,0≤x∧x<S):0≤l.sum∧l.sum≤l.length*(S-1):=by
 induction l with
 |nil=>simp
 |cons a r ih =>
  have h1:=h a (by simp)
  have h2:=ih (fun x hx=>h x (by simp [hx]))
  simp only [List.sum_cons,List.length_cons]
  rw [Int.natCast_add,Int.add_mul];omega
theorem rstL_bounds {T:Int} {ws:List Int} (hS:0<ws.sum):∀ x ∈ rstL T ws,0≤x∧x<ws.sum:=by
 intro x hx
 obtain ⟨a,_,rfl⟩:=List.mem_map.1 hx
 exact ⟨Int.emod_nonneg _ (by omega),Int.emod_lt_of_pos _ hS⟩
theorem miss_bounds {T:Int} {ws:List Int} (hS:0<ws.sum):0≤missN T ws∧missN T ws≤ws.length:=by
 have h1:=sum_bounds _ (rstL_bounds (T:=T) hS)
 rw [← miss_eq,rstL_len] at h1
 constructor
 ·have:=Int.le_of_mul_le_mul_left (a:=ws.sum) (b:=0) (c:=missN T ws) (by rw [Int.mul_zero];exact h1.1) hS
  exact this
 ·have h2:ws.sum*missN T ws≤ws.sum*ws.length:=by
   refine Int.le_trans h1.2 ?_
   rw [Int.mul_sub,Int.mul_one,Int.mul_comm];omega
  exact Int.le_of_mul_le_mul_left h2 hS
theorem topL_len {T:Int} {ws:List Int} (hS:0<ws.sum):((topL T ws).length:Int)=missN T ws:=by
 have:=miss_bounds (T:=T) hS
 rw [topL,List.length_map,List.length_take,ordR_len,rstL_len];omega
theorem topL_lt {T:Int} {ws:List Int}:∀ i ∈ topL T ws,i<ws.length:=by
 intro i hi
 obtain ⟨k,_,rfl⟩:=List.mem_map.1 hi
 exact Nat.lt_of_lt_of_eq k.isLt (rstL_len T ws)
theorem topL_nodup {T:Int} {ws:List Int}:(topL T ws).Nodup:=by
 unfold topL
 refine List.pairwise_map.2 (List.Pairwise.imp ?_ ((ordR_nodup _).sublist (List.take_sublist _ _)))
 intro a b hab he;exact hab (Fin.ext he)
end
section
open Go.RowKit
attribute [local go_sem] size_bs toList_bs
abbrev Pure (f:FuncId) (args:Array Value) (v:Value):Prop:=∀ W,Env W→Calls Tryz.prog f args W fun e w'=>e = .returned v∧Ext W w'
theorem addP (a b:Bs) (ha:a.length≤100000) (hb:b.length≤100000):Pure 21 #[.string (bs a),.string (bs b)] (.string (bs (ofI (valI a+valI b)))):=fun W h=>intAddS a b W ha hb h
theorem subP (a b:Bs) (ha:a.length≤100000) (hb:b.length≤100000):Pure 27 #[.string (bs a),.string (bs b)] (.string (bs (ofI (valI a-valI b)))):=fun W h=>intSub a b W ha hb h
theorem mulP (a b:Bs) (ha:a.length≤100000) (hb:b.length≤100000):Pure 160 #[.string (bs a),.string (bs b)] (.string (bs (ofI (valI a*valI b)))):=fun W h=>intMul a b W ha hb h
theorem negP (a:Bs) (ha:a.length≤100000):Pure 222 #[.string (bs a)] (.string (bs (ofI (-(valI a))))):=fun W h=>intNeg a W ha h
theorem cmpP (a b:Bs) (ha:a.length≤100000) (hb:b.length≤100000):Pure 20 #[.string (bs a),.string (bs b)] (.int .i64 (cmpI (valI a) (valI b))):=fun W _=>intCmp a b W ha hb
theorem valI_nil:valI []=0:=by decide
theorem cmp0P (a:Bs) (ha:a.length≤100000):Pure 20 #[.string (bs a),.string ⟨#[]⟩] (.int .i64 (cmpI (valI a) 0)):=by
 have:=cmpP a [] ha (by simp)
 rw [valI_nil] at this;exact this
theorem natOf_abs (l:Bs):natOf (mag l)=(valI l).natAbs:=by unfold valI;split <;> omega
theorem divP (a b:Bs) (ha:a.length≤100000) (hb:b.length≤100000) (h:valI b≠0):Pure 144 #[.string (bs a),.string (bs b)] (.tuple #[.string (bs (ofI (divF (valI a) (valI b)))),.string (bs (ofI (modF (valI a) (valI b)))),.int .i64 0]):=fun W hE=>intDiv_some a b W ha hb (by rw [natOf_abs];omega) hE
theorem checkP (a:Bs) (ha:a.length≤100000):Pure 72 #[.string (bs a)] (.int .i64 (checkI a)):=fun W _=>intCheck a W (by omega)
theorem divF_pos {x y:Int} (h:0<y):divF x y=x / y:=by unfold divF;rw [if_neg (by omega)]
theorem modF_pos {x y:Int} (h:0<y):modF x y=x % y:=by unfold modF;rw [divF_pos h,Int.emod_def]
theorem ofI_nil {z:Int}:ofI z=[]↔z=0:=by
 constructor
 ·intro h;rw [← valI_ofI z,h,valI_nil]
 ·rintro rfl;unfold ofI;simp [dig10_zero]
theorem ofI_inj {a b:Int} (h:ofI a=ofI b):a=b:=by rw [← valI_ofI a,h,valI_ofI]
theorem ofI_one:ofI 1=[49]:=by decide +kernel
theorem valI_one:valI [49]=1:=by decide +kernel
theorem checkI_ok {l:Bs}:checkI l=0↔ofI (valI l)=l:=by
 unfold checkI;rw [canon_ofI];split
 ·simp [*]
 ·simp [*]
end
section
open Go Go.RowKit Go.Shelf
section
variable {F:Fence} {n m:Nat} {P:Program}
def roundEnds (l:Nat) (rec:Loop) (R:Ending→World→Prop):Exit→Act→World→Prop
 |.normal,_,W=>W.heap[l]? = some (.loop { rec with state := .busy })∧R (.returned (.bool true)) (W.putObj l (.loop { rec with state := .ready,pending:=none }))
 |.ret,_,W=>W.heap[l]? = some (.loop { rec with state := .busy })∧R (.returned (.bool false)) (W.putObj l (.loop { rec with state := .done,pending:=some .ret }))
 |.exit _,_,_=>False
 |.goto _,_,_=>False
 |.panic _,_,_=>False
 |.outgrown,_,_=>False
theorem yield_round {l:Nat} {rec:Loop} {args:Array Value} {W:World} {R:Ending→World→Prop} (hl:W.heap[l]? = some (.loop rec)) (hs:rec.state = .ready) (hps:args.size=rec.params.size) (hfn:F.fn rec.fn)
  (h:rec.assign.wpIn (F.inRound l) m P (Exit.then (fun a1 Wa=>Wa.heap[l]? = some (.loop rec)∧rec.body.wpIn (F.inRound l) m P (roundEnds l rec R) a1 (Wa.putObj l (.loop { rec with state := .busy }))) (fun _ _ _=>False))
   { tmps:=(rec.params.zip args).foldl (fun tmps (t,a)=>tmps.setIfInBounds t a) rec.tmps,defers:=[] } W) :
  YieldAt F m P l args W R:=by
 refine ⟨_,_,_,_,run_yield hl hps,roundIn_of_wpIn hfn (wpIn_mono h ?_)⟩
 intro e a1 Wa hp
 cases e with
 |normal =>
  obtain ⟨hla,hb⟩:=hp
  refine ⟨_,run_beginRound hla hs,wpIn_mono hb ?_⟩
  intro e a2 W2 hq
  cases e with
  |normal =>
   obtain ⟨h2,hR⟩:=hq
   exact ⟨_,_,run_endRound none h2,hR⟩
  |ret =>
   obtain ⟨h2,hR⟩:=hq
   exact ⟨_,_,run_endRound (some .ret) h2,hR⟩
  |exit id=>exact hq.elim
  |goto t=>exact hq.elim
  |panic c=>exact hq.elim
  |outgrown=>exact hq.elim
 |ret=>exact hp.elim
 |exit id=>exact hp.elim
 |goto t=>exact hp.elim
 |panic c=>exact hp.elim
 |outgrown=>exact hp.elim
theorem yield_round' {l:Nat} {rec:Loop} {args:Array Value} {W:World} {R:Ending→World→Prop} (hl:W.heap[l]? = some (.loop rec)) (hs:rec.state = .ready) (hps:args.size=rec.params.size) (hfn:F.fn rec.fn)
  {assign body:Code} {tmps tmps0:Array Value} {ps:Array Tmp} (ha:rec.assign=assign) (hb:rec.body=body) (hp:rec.params=ps) (ht0:rec.tmps=tmps0) (ht:(ps.zip args).foldl (fun tmps (t,a)=>tmps.setIfInBounds t a) tmps0=tmps) {rb:Loop} (hrb:{ rec with state := .busy }=rb)
  (h:assign.wpIn (F.inRound l) m P (Exit.then (fun a1 Wa=>Wa.heap[l]? = some (.loop rec)∧body.wpIn (F.inRound l) m P (roundEnds l rec R) a1 (Wa.putObj l (.loop rb))) (fun _ _ _=>False)) { tmps,defers:=[] } W) :
  YieldAt F m P l args W R:=by
 subst ha;subst hb;subst hp;subst ht0;subst ht;subst hrb
 exact yield_round hl hs hps hfn h
def recOf (fn:FuncId) (a:Act) (ps:Array Tmp) (assign body:Code) (D:Nat):Loop:={ state := .ready,pending:=none,fn,tmps:=a.tmps,params:=ps,assign,body,defers:=D }
theorem range_outer {g:Operand} {ps:Array Tmp} {assign body:Code} {Q:Exit→Act→World→Prop} {a:Act} {w:World} (hro:F.round=none) (h1:1≤n) {gf:Nat} {lb:Array Value}
  (hg:a.eval g = .func (.func gf) #[] lb) (hFg:F.fn gf) (eg:∀ args w,(callFunc gf args).run P w = .ok (.enter gf args) w)
  (h:∀ fn,F.fn fn→CallsIn F (n-1) P gf (#[.func (.yield (w.heap.size+1)) #[] #[]]++lb) ((w.alloc (.deferred (some []))).alloc (.loop (recOf fn a ps assign body w.heap.size)))
   (fun e W=>(∃ v,e = .returned v) ∧
    ((W.heap[w.heap.size+1]? = some (.loop (recOf fn a ps assign body w.heap.size))∧Q .normal { a with defers:={ target := .collected w.heap.size,args:=#[] } :: a.defers } (W.putObj (w.heap.size+1) (.loop { recOf fn a ps assign body w.heap.size with state := .exhausted }))) ∨
     (W.heap[w.heap.size+1]? = some (.loop { recOf fn a ps assign body w.heap.size with state := .done,pending:=some .ret })∧Code.ret.wpIn F n P Q { a with defers:={ target := .collected w.heap.size,args:=#[] } :: a.defers } (W.putObj (w.heap.size+1) (.loop { recOf fn a ps assign body w.heap.size with state := .exhausted,pending:=some .ret })))))) :
  (Code.rangeFunc g ps assign body).wpIn F n P Q a w:=by
 refine wpIn_rangeFunc ?_
 intro fn hfn
 rw [hro]
 obtain ⟨W1,hW1⟩:∃ W1,(w.alloc (.deferred (some []))).alloc (.loop (recOf fn a ps assign body w.heap.size))=W1:=⟨_,rfl⟩
 refine ⟨w.heap.size+1,[{ target := .collected w.heap.size,args:=#[] }],W1,{ target := .fn (.func gf) lb,args:=#[.func (.yield (w.heap.size+1)) #[] #[]] },W1,gf,
  #[.func (.yield (w.heap.size+1)) #[] #[]]++lb,W1,?_,?_,?_,?_,fun _=>h1,?_⟩
 ·rw [← hW1];exact run_enterLoop_outer _ _ _ _ _
 ·simp only [resolve,hg]
  simp [go_sem]
 ·intro f' hf';simp [Target.leads] at hf';subst hf';exact hFg
 ·simp [invoke,go_sem,eg]
 ·rw [← hW1]
  refine (h fn hfn).mono ?_
  rintro e W ⟨⟨v,rfl⟩,(⟨hl,hq⟩ | ⟨hl,hq⟩)⟩
  ·exact ⟨none,_,run_endLoop hl (by simp [recOf]),hq⟩
  ·exact ⟨some .ret,_,run_endLoop hl (by simp),hq⟩
theorem range_outer' {g:Operand} {ps:Array Tmp} {assign body:Code} {Q:Exit→Act→World→Prop} {a:Act} {w:World} (hro:F.round=none) (h1:1≤n) {gf:Nat} {lb:Array Value} (D:Nat) (hD:w.heap.size=D)
  (hg:a.eval g = .func (.func gf) #[] lb) (hFg:F.fn gf) (eg:∀ args w,(callFunc gf args).run P w = .ok (.enter gf args) w)
  (h:∀ fn rec W1,rec=recOf fn a ps assign body D→W1=(w.alloc (.deferred (some []))).alloc (.loop rec)→F.fn fn→CallsIn F (n-1) P gf (#[.func (.yield (D+1)) #[] #[]]++lb) W1
   (fun e W=>(∃ v,e = .returned v) ∧
    ((W.heap[D+1]? = some (.loop rec)∧Q .normal { a with defers:={ target := .collected D,args:=#[] } :: a.defers } (W.putObj (D+1) (.loop { rec with state := .exhausted }))) ∨
     (W.heap[D+1]? = some (.loop { rec with state := .done,pending:=some .ret })∧Code.ret.wpIn F n P Q { a with defers:={ target := .collected D,args:=#[] } :: a.defers } (W.putObj (D+1) (.loop { rec with state := .exhausted,pending:=some .ret })))))) :
  (Code.rangeFunc g ps assign body).wpIn F n P Q a w:=by
 subst hD
 exact range_outer hro h1 hg hFg eg (fun fn hfn=>h fn _ _ rfl rfl hfn)
end
end
section
open Go.RowKit
theorem Ext.putObj {a b:World} (h:Ext a b) {r:Nat} (hr:a.heap.size≤r) (o:Obj):Ext a (b.putObj r o) :=
 ⟨h.os,h.tape,h.output,by have:=h.size;simpa using this,fun i hi=>(World.putObj_heap_other (by omega)).trans (h.block i hi)⟩
theorem Blk.put {w:World} {g:Nat} {t:TypeId} {cs:Array Value} {l:Nat} (h:Blk w g t cs) (o:Obj) (hne:g≠l):Blk (w.putObj l o) g t cs:=(World.putObj_heap_other (by omega)).trans h
theorem Blk.newAt (w:World) (t:TypeId) (cs:Array Value) (g:Nat) (hg:w.heap.size=g):Blk (w.alloc (.cells cs t)) g t cs:=by subst hg;exact Blk.new w t cs
theorem newAt (w:World) (o:Obj) (g:Nat) (hg:w.heap.size=g):(w.alloc o).heap[g]? = some o:=by subst hg;exact heap_alloc_new w o
theorem oldAt {w:World} {o o':Obj} {g:Nat} (h:w.heap[g]? = some o):(w.alloc o').heap[g]? = some o:=(Below.heap_alloc w o' g (Array.getElem?_eq_some_iff.1 h).1).trans h
theorem dfar {W:World} {d g i:Nat} {o:Obj} {u:Value} (h:W.heap[d]? = some o) (hne:d≠g):(W.setCell ⟨g,i,none⟩ u).heap[d]? = some o:=(Below.heap_setCell W ⟨g,i,none⟩ u d hne).trans h
theorem drew_heap {W:World} {d:Nat} {o:Obj} (h:W.heap[d]? = some o):W.drew.heap[d]? = some o:=h
theorem ext_heap {W W':World} {d:Nat} {o:Obj} (h:W.heap[d]? = some o) (hx:Ext W W'):W'.heap[d]? = some o:=(hx.block d (Array.getElem?_eq_some_iff.1 h).1).trans h
theorem put_heap {W:World} {d l:Nat} {o o':Obj} (h:W.heap[d]? = some o) (hne:d≠l):(W.putObj l o').heap[d]? = some o:=(World.putObj_heap_other (by omega)).trans h
theorem zip1 (p:Tmp) (x:Value) (T:Array Value):((#[p]:Array Tmp).zip #[x]).foldl (fun tmps (t,a)=>tmps.setIfInBounds t a) T=T.setIfInBounds p x:=by simp [Array.zip]
theorem zip2 (p q:Tmp) (x y:Value) (T:Array Value):((#[p,q]:Array Tmp).zip #[x,y]).foldl (fun tmps (t,a)=>tmps.setIfInBounds t a) T=(T.setIfInBounds p x).setIfInBounds q y:=by simp [Array.zip]
theorem Reads.put {w:World} {size n:Nat} {A:Option Addr} {xs:List Value} (h:Reads w size A n xs) {l:Nat} {o:Obj} (hl:w.heap[l]? = some o) (ho:∀ cs t z,o ≠ .cells cs t z) (h0:0<xs.length) (o':Obj):Reads (w.putObj l o') size A n xs:=by
 refine ⟨h.1,fun hn=>?_⟩
 obtain ⟨b,off,rfl,hb,hc⟩:=h.2 hn
 have hne:b≠l:=by
  rintro rfl
  have h1:=hc 0 (xs[0]'h0) (List.getElem?_eq_getElem h0)
  unfold World.cell? at h1
  simp only [hl] at h1
  cases o <;> simp_all
 refine ⟨b,off,rfl,by simpa using hb,fun j u hu=>?_⟩
 rw [← hc j u hu]
 unfold World.cell?
 rw [World.putObj_heap_other (by simpa using hne)]
end
end Go.Proofs.YthgpheopnhajaaaGreatDoor
