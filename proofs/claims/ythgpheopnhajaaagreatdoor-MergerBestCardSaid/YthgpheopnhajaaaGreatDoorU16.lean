/- The seat's texts, part U16. -/
import Derived.Test.YthgpheopnhajaaaGreatDoorU11
import Derived.Test.YthgpheopnhajaaaGreatDoorU13
import Derived.Test.YthgpheopnhajaaaGreatDoorU15
import Derived.Deep.CutRange
import Derived.BigQuiet
set_option maxRecDepth 100000
set_option maxHeartbeats 8000000
namespace Go.Proofs.YthgpheopnhajaaaGreatDoor
section
open Go.RowKit
attribute [local go_sem] size_bs toList_bs
structure NumF (f:Fr) (e:Int):Prop where
 c:checkF f≠0→e=1
 d:checkF f=0→40<digN f.num∨40<digN f.den→e=4
 s:checkF f=0→¬ 40<digN f.num→¬ 40<digN f.den→cmpQ (frQ f) 0<0→e=2
 k:checkF f=0→¬ 40<digN f.num→¬ 40<digN f.den→¬ cmpQ (frQ f) 0<0→e=0
theorem numF (f:Fr):NumF f (numE f):=by
 have key:(numA f≠0→numE f=numA f)∧(numA f=0→cmpQ (frQ f) 0<0→numE f=2)∧(numA f=0→¬ cmpQ (frQ f) 0<0→numE f=0):=by
  refine ⟨fun h=>?_,fun h k=>?_,fun h k=>?_⟩
  ·unfold numE;rw [if_pos h]
  ·unfold numE;rw [if_neg (by simpa using h),if_pos (cmpQ_neg.1 k)]
  ·unfold numE;rw [if_neg (by simpa using h),if_neg (fun h=>k (cmpQ_neg.2 h))]
 obtain ⟨k1,k2,k3⟩:=key
 have a1:checkF f≠0→numA f=1:=fun h=>by unfold numA;rw [if_pos h]
 have a2:checkF f=0→40<digN f.num∨40<digN f.den→numA f=4:=fun h k=>by unfold numA;rw [if_neg (by simpa using h),if_pos k]
 have a3:checkF f=0→¬ 40<digN f.num→¬ 40<digN f.den→numA f=0:=fun h k k2=>by unfold numA;rw [if_neg (by simpa using h),if_neg (by omega)]
 exact ⟨fun h=>by rw [k1 (by rw [a1 h];decide),a1 h],fun h k=>by rw [k1 (by rw [a2 h k];decide),a2 h k],fun h k l m=>k2 (a3 h k l) m,fun h k l m=>k3 (a3 h k l) m⟩
structure NumR (n d:Bs) (E:Int):Prop where
 ck:Pure 48 #[fv ⟨n,d⟩] (.int .i64 (checkF ⟨n,d⟩))
 cm:Pure 39 #[fv ⟨n,d⟩,fv ⟨[],[]⟩] (.int .i64 (cmpQ (frQ ⟨n,d⟩) 0))
 f:NumF ⟨n,d⟩ E
 ln:n.length≤9000
 ld:d.length≤9000
theorem numR (f:Fr) (h1:f.num.length≤9000) (h2:f.den.length≤9000):NumR f.num f.den (numE f):=by
 have c:=fracCmp f ⟨[],[]⟩ (by omega) (by omega) (by simp) (by simp)
 rw [frQ_nilN] at c
 exact ⟨fracCheckP f (by omega) (by omega),c,numF f,h1,h2⟩
theorem mgOptCheck (o:OptV) (hs:OptSm 9000 o):Pure 46 #[ov o] (.int .i64 (optE o)):=by
 intro w hE
 have HE:=Lib.hid hE
 obtain ⟨s0,s1,s2,s3,s4,s5,s6⟩:=hs
 have HNm:=Lib.hid (fun W=>insName o.other W (by omega))
 have N1:=Lib.hid (optT o).n
 have N2:=Lib.hid (optT o).r
 have N3:=Lib.hid (optT o).p
 have N4:=Lib.hid (optT o).v
 have N5:=Lib.hid (optT o).b
 have N6:=Lib.hid (optT o).k
 have R1:=Lib.hid (numR o.r s1 s2)
 have R2:=Lib.hid (numR o.p s3 s4)
 have R3:=Lib.hid (numR o.v s5 s6)
 have HB:=Lib.hid (Blk.new w 50 (oc o))
 have HX:Hid (Ext w (w.alloc (.cells (oc o) 50))):=Lib.hid (Ext.new _ _)
 generalize optE o=res at *
 generalize numE o.r=e1 at *
 generalize numE o.p=e2 at *
 generalize numE o.v=e3 at *
 generalize isName o.other=nm at *
 obtain ⟨ot,⟨rn,rd⟩,⟨pn,pd⟩,⟨vn,vd⟩⟩:=o
 dsimp only at HNm N1 N2 N3 N4 N5 N6 R1 R2 R3
 clear s0 s1 s2 s3 s4 s5 s6 hE
 obtain ⟨bad,hbad⟩:∃ b:Bool,b=(!ot.isEmpty && !nm):=⟨_,rfl⟩
 cases bad
 rotate_left
 ·have h1:ot≠[]:=by rintro rfl;simp at hbad
  have h2:nm=false:=by cases nm;rfl;simp at hbad
  have ee:=N1.out h1 h2
  subst ee
  subst h2
  have qe:ot.isEmpty=false:=by simpa using h1
  clear N1 N2 N3 N4 N5 N6 hbad R1 R2 R3
  go_enter Tryz.func46,Tryz.ntmps46
  obtain ⟨r0,r1,r2,r3,r4,r5,r6⟩:=optBlk HB.out (Ext.refl _)
  go_wp2_with fail
  refine (HNm.out _).mono ?_
  rintro e v0 ⟨rfl,hx1⟩
  replace HX:=Lib.hid (HX.out.trans hx1)
  clear hx1
  go_wp2_with fail
  go_ret
  exact ⟨rfl,HX.out⟩
 have hgo:ot=[]∨nm=true:=by
  by_cases h:ot=[]
  ·exact .inl h
  ·have:ot.isEmpty=false:=by simpa using h
   rw [this] at hbad;cases nm;simp at hbad;exact .inr rfl
 replace N2:=Lib.hid (N2.out hgo)
 replace N3:=Lib.hid (N3.out hgo)
 replace N4:=Lib.hid (N4.out hgo)
 replace N5:=Lib.hid (N5.out hgo)
 replace N6:=Lib.hid (N6.out hgo)
 have HG:=Lib.hid hgo
 clear N1 hbad hgo
 go_enter Tryz.func46,Tryz.ntmps46
 obtain ⟨r0,r1,r2,r3,r4,r5,r6⟩:=optBlk HB.out (Ext.refl _)
 go_upto_region 1 with fail
 go_cut [13] (fun p13 wx=>p13 = .bool false∧Ext (w.alloc (.cells (oc ⟨ot,⟨rn,rd⟩,⟨pn,pd⟩,⟨vn,vd⟩⟩) 50)) wx)
 case first =>
  clear N2 N3 N4 N5 N6 R1 R2 R3
  by_cases h0:ot=[]
  ·subst h0
   go_wp2_with fail
   go_meet
   exact ⟨rfl,Ext.refl _⟩
  ·obtain rfl:=HG.out.resolve_left h0
   have qe:ot.isEmpty=false:=by simpa using h0
   go_wp2_with fail
   refine (HNm.out _).mono ?_
   rintro e v0 ⟨rfl,hx1⟩
   have HX1:=Lib.hid hx1
   clear hx1
   go_wp2_with fail
   go_meet
   exact ⟨rfl,HX1.out⟩
 case rest =>
  obtain ⟨rfl,hx⟩:=hcut
  replace HB:=Lib.hid (HB.out.ext hx)
  replace HX:=Lib.hid (HX.out.trans hx)
  clear hx HG HNm r0 r1 r2 r3 r4 r5 r6
  obtain ⟨r0,r1,r2,r3,r4,r5,r6⟩:=optBlk HB.out (Ext.refl _)
  have HA:=Lib.hid (Blk.new wc 26 #[.string (bs rn),.string (bs rd),.string (bs pn),.string (bs pd),.string (bs vn),.string (bs vd)])
  have HY:Hid (Ext wc (wc.alloc (.cells #[.string (bs rn),.string (bs rd),.string (bs pn),.string (bs pd),.string (bs vn),.string (bs vd)] 26))):=Lib.hid (Ext.new _ _)
  go_wp2_with fail
  replace HB:=Lib.hid (HB.out.ext HY.out)
  replace HX:=Lib.hid (HX.out.trans HY.out)
  clear HY r0 r1 r2 r3 r4 r5 r6
  generalize wc.alloc (.cells #[.string (bs rn),.string (bs rd),.string (bs pn),.string (bs pd),.string (bs vn),.string (bs vd)] 26)=W5 at *
  go_loopw [22,4] (fun i _ wr=>∃ k:Nat,k≤3∧i = .int .i64 k∧Ext W5 wr∧(1≤k→e1=0)∧(2≤k→e2=0)∧(3≤k→e3=0)) (fun i _ _=>3-(intOf i).toNat)
  case atStart=>exact ⟨0,by omega,rfl,Ext.refl _,by omega,by omega,by omega⟩
  case round =>
   obtain ⟨k,hk,rfl,hx,z1,z2,z3⟩:=hrel
   replace HB:=Lib.hid (HB.out.ext hx)
   replace HX:=Lib.hid (HX.out.trans hx)
   replace HA:=Lib.hid (HA.out.ext hx)
   obtain rfl | rfl | rfl | rfl:k=0∨k=1∨k=2∨k=3:=by omega
   ·skip
    have a0:=HA.out.cell 0
    have a1:=HA.out.cell 1
    simp only [List.getElem?_toArray,List.getElem?_cons_zero,List.getElem?_cons_succ] at a0 a1
    clear z1 z2 z3
    have HV:=Lib.hid (Blk.new wr 26 #[.string (bs rn),.string (bs rd)])
    have HW:Hid (Ext wr (wr.alloc (.cells #[.string (bs rn),.string (bs rd)] 26))):=Lib.hid (Ext.new _ _)
    replace HX:=Lib.hid (HX.out.trans HW.out)
    have HL:=Lib.hid (hx.trans HW.out)
    clear hx HW
    obtain ⟨ck,cm,nf,ln,ld⟩:=R1.out
    have CK:=Lib.hid ck
    have CM:=Lib.hid cm
    have F1:=Lib.hid nf.c
    have F2:=Lib.hid nf.d
    have F3:=Lib.hid nf.s
    have F4:=Lib.hid nf.k
    have D1:=Lib.hid (fun W=>still (mgDigits rn (by omega) W))
    have D2:=Lib.hid (fun W=>still (mgDigits rd (by omega) W))
    clear ck cm nf ln ld R1 R2 R3
    dsimp only at F1 F2 F3 F4
    generalize checkF ⟨rn,rd⟩=ck at *
    generalize digN rn=d1 at *
    generalize digN rd=d2 at *
    generalize cmpQ (frQ ⟨rn,rd⟩) 0=sg at *
    go_wp2_with fail
    obtain ⟨b0,b1,_,_⟩:=frBlk HV.out (Ext.refl _)
    refine (CK.out _ (HE.out.ext HX.out)).mono ?_
    rintro e v9 ⟨rfl,hx1⟩
    replace HV:=Lib.hid (HV.out.ext hx1)
    replace HL:=Lib.hid (HL.out.trans hx1)
    replace HX:=Lib.hid (HX.out.trans hx1)
    clear hx1
    clear b0 b1
    obtain ⟨b0,b1,_,_⟩:=frBlk HV.out (Ext.refl _)
    by_cases y1:ck=0
    rotate_left
    ·have g:(ck != 0)=true:=by rw [bne_iff_ne];exact y1
     have e0:=F1.out y1
     have ee:=N2.out  (by rw [e0];decide)
     rw [e0] at ee
     subst ee
     clear N2 N3 N4 N5 N6 F1 F2 F3 F4
     go_wp2_with fail
     go_ret
     exact ⟨rfl,HX.out⟩
    subst y1
    go_wp2_with fail
    refine (D1.out _).mono ?_
    rintro e v9 ⟨rfl,hx1⟩
    replace HV:=Lib.hid (HV.out.ext hx1)
    replace HL:=Lib.hid (HL.out.trans hx1)
    replace HX:=Lib.hid (HX.out.trans hx1)
    clear hx1
    clear b0 b1
    obtain ⟨b0,b1,_,_⟩:=frBlk HV.out (Ext.refl _)
    by_cases y2:40<d1
    ·have g:decide ((40:Int)<(d1:Int))=true:=by rw [decide_eq_true_iff];omega
     have e0:=F2.out (by trivial) (.inl y2)
     have ee:=N2.out  (by rw [e0];decide)
     rw [e0] at ee
     subst ee
     clear N2 N3 N4 N5 N6 F1 F2 F3 F4
     go_wp2_with fail
     go_ret
     exact ⟨rfl,HX.out⟩
    have g2:decide ((40:Int)<(d1:Int))=false:=by rw [decide_eq_false_iff_not];omega
    go_wp2_with fail
    refine (D2.out _).mono ?_
    rintro e v9 ⟨rfl,hx1⟩
    replace HV:=Lib.hid (HV.out.ext hx1)
    replace HL:=Lib.hid (HL.out.trans hx1)
    replace HX:=Lib.hid (HX.out.trans hx1)
    clear hx1
    clear b0 b1
    obtain ⟨b0,b1,_,_⟩:=frBlk HV.out (Ext.refl _)
    by_cases y3:40<d2
    ·have g:decide ((40:Int)<(d2:Int))=true:=by rw [decide_eq_true_iff];omega
     have e0:=F2.out (by trivial) (.inr y3)
     have ee:=N2.out  (by rw [e0];decide)
     rw [e0] at ee
     subst ee
     clear N2 N3 N4 N5 N6 F1 F2 F3 F4
     go_wp2_with fail
     go_ret
     exact ⟨rfl,HX.out⟩
    have g3:decide ((40:Int)<(d2:Int))=false:=by rw [decide_eq_false_iff_not];omega
    go_wp2_with fail
    refine (CM.out _ (HE.out.ext HX.out)).mono ?_
    rintro e v9 ⟨rfl,hx1⟩
    replace HV:=Lib.hid (HV.out.ext hx1)
    replace HL:=Lib.hid (HL.out.trans hx1)
    replace HX:=Lib.hid (HX.out.trans hx1)
    clear hx1
    by_cases y4:sg<0
    ·have g:decide (sg<0)=true:=decide_eq_true y4
     have e0:=F3.out (by trivial) y2 y3 y4
     have ee:=N2.out  (by rw [e0];decide)
     rw [e0] at ee
     subst ee
     clear N2 N3 N4 N5 N6 F1 F2 F3 F4
     go_wp2_with fail
     go_ret
     exact ⟨rfl,HX.out⟩
    have g4:decide (sg<0)=false:=decide_eq_false y4
    have e0:=F4.out (by trivial) (by omega) (by omega) (by omega)
    clear N2 N3 N4 N5 N6 F1 F2 F3 F4
    go_wp2_with fail
    exact ⟨⟨1,by omega,by go_num,HL.out,fun _=>e0,by omega,by omega⟩,by simp [intOf]⟩
   ·skip
    have a0:=HA.out.cell 2
    have a1:=HA.out.cell 3
    simp only [List.getElem?_toArray,List.getElem?_cons_zero,List.getElem?_cons_succ] at a0 a1
    have Z1:=Lib.hid (z1 (by omega))
    clear z1 z2 z3
    have HV:=Lib.hid (Blk.new wr 26 #[.string (bs pn),.string (bs pd)])
    have HW:Hid (Ext wr (wr.alloc (.cells #[.string (bs pn),.string (bs pd)] 26))):=Lib.hid (Ext.new _ _)
    replace HX:=Lib.hid (HX.out.trans HW.out)
    have HL:=Lib.hid (hx.trans HW.out)
    clear hx HW
    obtain ⟨ck,cm,nf,ln,ld⟩:=R2.out
    have CK:=Lib.hid ck
    have CM:=Lib.hid cm
    have F1:=Lib.hid nf.c
    have F2:=Lib.hid nf.d
    have F3:=Lib.hid nf.s
    have F4:=Lib.hid nf.k
    have D1:=Lib.hid (fun W=>still (mgDigits pn (by omega) W))
    have D2:=Lib.hid (fun W=>still (mgDigits pd (by omega) W))
    clear ck cm nf ln ld R1 R2 R3
    dsimp only at F1 F2 F3 F4
    generalize checkF ⟨pn,pd⟩=ck at *
    generalize digN pn=d1 at *
    generalize digN pd=d2 at *
    generalize cmpQ (frQ ⟨pn,pd⟩) 0=sg at *
    go_wp2_with fail
    obtain ⟨b0,b1,_,_⟩:=frBlk HV.out (Ext.refl _)
    refine (CK.out _ (HE.out.ext HX.out)).mono ?_
    rintro e v9 ⟨rfl,hx1⟩
    replace HV:=Lib.hid (HV.out.ext hx1)
    replace HL:=Lib.hid (HL.out.trans hx1)
    replace HX:=Lib.hid (HX.out.trans hx1)
    clear hx1
    clear b0 b1
    obtain ⟨b0,b1,_,_⟩:=frBlk HV.out (Ext.refl _)
    by_cases y1:ck=0
    rotate_left
    ·have g:(ck != 0)=true:=by rw [bne_iff_ne];exact y1
     have e0:=F1.out y1
     have ee:=N3.out Z1.out (by rw [e0];decide)
     rw [e0] at ee
     subst ee
     clear N2 N3 N4 N5 N6 F1 F2 F3 F4
     go_wp2_with fail
     go_ret
     exact ⟨rfl,HX.out⟩
    subst y1
    go_wp2_with fail
    refine (D1.out _).mono ?_
    rintro e v9 ⟨rfl,hx1⟩
    replace HV:=Lib.hid (HV.out.ext hx1)
    replace HL:=Lib.hid (HL.out.trans hx1)
    replace HX:=Lib.hid (HX.out.trans hx1)
    clear hx1
    clear b0 b1
    obtain ⟨b0,b1,_,_⟩:=frBlk HV.out (Ext.refl _)
    by_cases y2:40<d1
    ·have g:decide ((40:Int)<(d1:Int))=true:=by rw [decide_eq_true_iff];omega
     have e0:=F2.out (by trivial) (.inl y2)
     have ee:=N3.out Z1.out (by rw [e0];decide)
     rw [e0] at ee
     subst ee
     clear N2 N3 N4 N5 N6 F1 F2 F3 F4
     go_wp2_with fail
     go_ret
     exact ⟨rfl,HX.out⟩
    have g2:decide ((40:Int)<(d1:Int))=false:=by rw [decide_eq_false_iff_not];omega
    go_wp2_with fail
    refine (D2.out _).mono ?_
    rintro e v9 ⟨rfl,hx1⟩
    replace HV:=Lib.hid (HV.out.ext hx1)
    replace HL:=Lib.hid (HL.out.trans hx1)
    replace HX:=Lib.hid (HX.out.trans hx1)
    clear hx1
    clear b0 b1
    obtain ⟨b0,b1,_,_⟩:=frBlk HV.out (Ext.refl _)
    by_cases y3:40<d2
    ·have g:decide ((40:Int)<(d2:Int))=true:=by rw [decide_eq_true_iff];omega
     have e0:=F2.out (by trivial) (.inr y3)
     have ee:=N3.out Z1.out (by rw [e0];decide)
     rw [e0] at ee
     subst ee
     clear N2 N3 N4 N5 N6 F1 F2 F3 F4
     go_wp2_with fail
     go_ret
     exact ⟨rfl,HX.out⟩
    have g3:decide ((40:Int)<(d2:Int))=false:=by rw [decide_eq_false_iff_not];omega
    go_wp2_with fail
    refine (CM.out _ (HE.out.ext HX.out)).mono ?_
    rintro e v9 ⟨rfl,hx1⟩
    replace HV:=Lib.hid (HV.out.ext hx1)
    replace HL:=Lib.hid (HL.out.trans hx1)
    replace HX:=Lib.hid (HX.out.trans hx1)
    clear hx1
    by_cases y4:sg<0
    ·have g:decide (sg<0)=true:=decide_eq_true y4
     have e0:=F3.out (by trivial) y2 y3 y4
     have ee:=N3.out Z1.out (by rw [e0];decide)
     rw [e0] at ee
     subst ee
     clear N2 N3 N4 N5 N6 F1 F2 F3 F4
     go_wp2_with fail
     go_ret
     exact ⟨rfl,HX.out⟩
    have g4:decide (sg<0)=false:=decide_eq_false y4
    have e0:=F4.out (by trivial) (by omega) (by omega) (by omega)
    clear N2 N3 N4 N5 N6 F1 F2 F3 F4
    go_wp2_with fail
    exact ⟨⟨2,by omega,by go_num,HL.out,fun _=>Z1.out,fun _=>e0,by omega⟩,by simp [intOf]⟩
   ·skip
    have a0:=HA.out.cell 4
    have a1:=HA.out.cell 5
    simp only [List.getElem?_toArray,List.getElem?_cons_zero,List.getElem?_cons_succ] at a0 a1
    have Z1:=Lib.hid (z1 (by omega))
    have Z2:=Lib.hid (z2 (by omega))
    clear z1 z2 z3
    have HV:=Lib.hid (Blk.new wr 26 #[.string (bs vn),.string (bs vd)])
    have HW:Hid (Ext wr (wr.alloc (.cells #[.string (bs vn),.string (bs vd)] 26))):=Lib.hid (Ext.new _ _)
    replace HX:=Lib.hid (HX.out.trans HW.out)
    have HL:=Lib.hid (hx.trans HW.out)
    clear hx HW
    obtain ⟨ck,cm,nf,ln,ld⟩:=R3.out
    have CK:=Lib.hid ck
    have CM:=Lib.hid cm
    have F1:=Lib.hid nf.c
    have F2:=Lib.hid nf.d
    have F3:=Lib.hid nf.s
    have F4:=Lib.hid nf.k
    have D1:=Lib.hid (fun W=>still (mgDigits vn (by omega) W))
    have D2:=Lib.hid (fun W=>still (mgDigits vd (by omega) W))
    clear ck cm nf ln ld R1 R2 R3
    dsimp only at F1 F2 F3 F4
    generalize checkF ⟨vn,vd⟩=ck at *
    generalize digN vn=d1 at *
    generalize digN vd=d2 at *
    generalize cmpQ (frQ ⟨vn,vd⟩) 0=sg at *
    go_wp2_with fail
    obtain ⟨b0,b1,_,_⟩:=frBlk HV.out (Ext.refl _)
    refine (CK.out _ (HE.out.ext HX.out)).mono ?_
    rintro e v9 ⟨rfl,hx1⟩
    replace HV:=Lib.hid (HV.out.ext hx1)
    replace HL:=Lib.hid (HL.out.trans hx1)
    replace HX:=Lib.hid (HX.out.trans hx1)
    clear hx1
    clear b0 b1
    obtain ⟨b0,b1,_,_⟩:=frBlk HV.out (Ext.refl _)
    by_cases y1:ck=0
    rotate_left
    ·have g:(ck != 0)=true:=by rw [bne_iff_ne];exact y1
     have e0:=F1.out y1
     have ee:=N4.out Z1.out Z2.out (by rw [e0];decide)
     rw [e0] at ee
     subst ee
     clear N2 N3 N4 N5 N6 F1 F2 F3 F4
     go_wp2_with fail
     go_ret
     exact ⟨rfl,HX.out⟩
    subst y1
    go_wp2_with fail
    refine (D1.out _).mono ?_
    rintro e v9 ⟨rfl,hx1⟩
    replace HV:=Lib.hid (HV.out.ext hx1)
    replace HL:=Lib.hid (HL.out.trans hx1)
    replace HX:=Lib.hid (HX.out.trans hx1)
    clear hx1
    clear b0 b1
    obtain ⟨b0,b1,_,_⟩:=frBlk HV.out (Ext.refl _)
    by_cases y2:40<d1
    ·have g:decide ((40:Int)<(d1:Int))=true:=by rw [decide_eq_true_iff];omega
     have e0:=F2.out (by trivial) (.inl y2)
     have ee:=N4.out Z1.out Z2.out (by rw [e0];decide)
     rw [e0] at ee
     subst ee
     clear N2 N3 N4 N5 N6 F1 F2 F3 F4
     go_wp2_with fail
     go_ret
     exact ⟨rfl,HX.out⟩
    have g2:decide ((40:Int)<(d1:Int))=false:=by rw [decide_eq_false_iff_not];omega
    go_wp2_with fail
    refine (D2.out _).mono ?_
    rintro e v9 ⟨rfl,hx1⟩
    replace HV:=Lib.hid (HV.out.ext hx1)
    replace HL:=Lib.hid (HL.out.trans hx1)
    replace HX:=Lib.hid (HX.out.trans hx1)
    clear hx1
    clear b0 b1
    obtain ⟨b0,b1,_,_⟩:=frBlk HV.out (Ext.refl _)
    by_cases y3:40<d2
    ·have g:decide ((40:Int)<(d2:Int))=true:=by rw [decide_eq_true_iff];omega
     have e0:=F2.out (by trivial) (.inr y3)
     have ee:=N4.out Z1.out Z2.out (by rw [e0];decide)
     rw [e0] at ee
     subst ee
     clear N2 N3 N4 N5 N6 F1 F2 F3 F4
     go_wp2_with fail
     go_ret
     exact ⟨rfl,HX.out⟩
    have g3:decide ((40:Int)<(d2:Int))=false:=by rw [decide_eq_false_iff_not];omega
    go_wp2_with fail
    refine (CM.out _ (HE.out.ext HX.out)).mono ?_
    rintro e v9 ⟨rfl,hx1⟩
    replace HV:=Lib.hid (HV.out.ext hx1)
    replace HL:=Lib.hid (HL.out.trans hx1)
    replace HX:=Lib.hid (HX.out.trans hx1)
    clear hx1
    by_cases y4:sg<0
    ·have g:decide (sg<0)=true:=decide_eq_true y4
     have e0:=F3.out (by trivial) y2 y3 y4
     have ee:=N4.out Z1.out Z2.out (by rw [e0];decide)
     rw [e0] at ee
     subst ee
     clear N2 N3 N4 N5 N6 F1 F2 F3 F4
     go_wp2_with fail
     go_ret
     exact ⟨rfl,HX.out⟩
    have g4:decide (sg<0)=false:=decide_eq_false y4
    have e0:=F4.out (by trivial) (by omega) (by omega) (by omega)
    clear N2 N3 N4 N5 N6 F1 F2 F3 F4
    go_wp2_with fail
    exact ⟨⟨3,by omega,by go_num,HL.out,fun _=>Z1.out,fun _=>Z2.out,fun _=>e0⟩,by simp [intOf]⟩
   ·have w1:=z1 (by omega)
    have w2:=z2 (by omega)
    have w3:=z3 (by omega)
    subst w1;subst w2;subst w3
    clear z1 z2 z3 R1 R2 R3 N2 N3 N4 hx HA
    replace N5:=Lib.hid (N5.out rfl rfl rfl)
    replace N6:=Lib.hid (N6.out rfl rfl rfl)
    obtain ⟨r0,r1,r2,r3,r4,r5,r6⟩:=optBlk HB.out (Ext.refl _)
    clear hk
    go_wp2_with fail
    by_cases h0:ot=[]
    ·subst h0
     by_cases b1:rn=[]
     rotate_left
     ·have q1:rn.isEmpty=false:=by simpa using b1
      have q:=bs_ne' b1
      have ee:=N5.out (by simp [optBad, *])
      subst ee
      clear N5 N6
      go_wp2_with fail
      go_quiet (fail)
      go_wp2_with fail
      go_ret
      exact ⟨rfl,HX.out.drewN _⟩
     subst b1
     by_cases b2:rd=[]
     rotate_left
     ·have q1:rd.isEmpty=false:=by simpa using b2
      have q:=bs_ne' b2
      have ee:=N5.out (by simp [optBad, *])
      subst ee
      clear N5 N6
      go_wp2_with fail
      go_quiet (fail)
      go_wp2_with fail
      go_ret
      exact ⟨rfl,HX.out.drewN _⟩
     subst b2
     by_cases b3:vn=[]
     rotate_left
     ·have q1:vn.isEmpty=false:=by simpa using b3
      have q:=bs_ne' b3
      have ee:=N5.out (by simp [optBad, *])
      subst ee
      clear N5 N6
      go_wp2_with fail
      go_quiet (fail)
      go_wp2_with fail
      go_ret
      exact ⟨rfl,HX.out.drewN _⟩
     subst b3
     by_cases b4:vd=[]
     rotate_left
     ·have q1:vd.isEmpty=false:=by simpa using b4
      have q:=bs_ne' b4
      have ee:=N5.out (by simp [optBad, *])
      subst ee
      clear N5 N6
      go_wp2_with fail
      go_quiet (fail)
      go_wp2_with fail
      go_ret
      exact ⟨rfl,HX.out.drewN _⟩
     subst b4
     have ee:=N6.out (by simp [optBad, *])
     subst ee
     clear N5 N6
     go_wp2_with fail
     go_quiet (fail)
     go_wp2_with fail
     go_ret
     exact ⟨rfl,HX.out.drewN _⟩
    ·have qo:=bs_ne' h0
     have qe:ot.isEmpty=false:=by simpa using h0
     by_cases b1:rn=[]
     rotate_left
     ·have q1:rn.isEmpty=false:=by simpa using b1
      have q:=bs_ne' b1
      have ee:=N6.out (by simp [optBad, *])
      subst ee
      clear N5 N6
      go_wp2_with fail
      go_quiet (fail)
      go_wp2_with fail
      go_ret
      exact ⟨rfl,HX.out.drewN _⟩
     subst b1
     by_cases b2:rd=[]
     rotate_left
     ·have q1:rd.isEmpty=false:=by simpa using b2
      have q:=bs_ne' b2
      have ee:=N6.out (by simp [optBad, *])
      subst ee
      clear N5 N6
      go_wp2_with fail
      go_quiet (fail)
      go_wp2_with fail
      go_ret
      exact ⟨rfl,HX.out.drewN _⟩
     subst b2
     have ee:=N5.out (by simp [optBad, *])
     subst ee
     clear N5 N6
     go_wp2_with fail
     go_quiet (fail)
     go_wp2_with fail
     go_ret
     exact ⟨rfl,HX.out.drewN _⟩
end
section
open Go.RowKit
attribute [local go_sem] size_bs toList_bs
theorem valI_two:valI [50]=2:=by decide +kernel
theorem decEven (a:Bs) (ha:a.length≤90000):Pure 145 #[.string (bs a)] (.bool (decide (valI a % 2=0))):=by
 intro w hE
 have HE:=Lib.hid hE
 have hd:=divP a [50] (by omega) (by simp) (by rw [valI_two];decide)
 rw [valI_two,modF_pos (by decide)] at hd
 have HD:=Lib.hid hd
 have HQ:Hid (decide (valI a % 2=0)=(ofI (valI a % 2) == [])):=Lib.hid (by
  rw [Bool.eq_iff_iff,decide_eq_true_iff,beq_iff_eq,ofI_nil])
 rw [HQ.out]
 generalize ofI (valI a % 2)=m at *
 generalize divF (valI a) 2=q at *
 clear hd hE HQ
 go_enter Tryz.func145,Tryz.ntmps145
 go_wp2_with fail
 refine (HD.out _ HE.out).mono ?_
 rintro e w1 ⟨rfl,hx1⟩
 have HX:=Lib.hid hx1
 clear hx1
 go_wp2_with fail
 go_ret
 exact ⟨by cases m <;> rfl,HX.out⟩
theorem decRound (f:Fr) (h1:f.num.length≤80000) (h2:f.den.length≤80000):Pure 83 #[fv f,.int .i64 1] (.tuple #[.string (bs (ofI (roundQ (frQ f)))),.int .i64 0]):=by
 intro w hE
 have HE:=Lib.hid hE
 have HP:=Lib.hid (fracPartsR f h1 h2)
 have hq:=frQ_qb (L:=80000) h1 h2 (by omega)
 have hn1:=ofI_lt10 hq.1
 have hd1:(ofI ((frQ f).den:Int)).length≤80000+1:=ofI_lt10 (by rw [Int.natAbs_natCast];exact hq.2)
 have hdp:=(frQ f).den_pos
 have hdv:=divP (ofI (frQ f).num) (ofI ((frQ f).den:Int)) (by omega) (by omega) (by rw [valI_ofI];omega)
 rw [valI_ofI,valI_ofI,divF_pos (by omega),modF_pos (by omega)] at hdv
 have HD:=Lib.hid hdv
 have hfl:(ofI ((frQ f).num / ((frQ f).den:Int))).length≤80001:=ofI_lt10 (Nat.lt_of_le_of_lt (Int.natAbs_ediv_le_natAbs _ _) hq.1)
 have hrl:(ofI ((frQ f).num % ((frQ f).den:Int))).length≤80001:=ofI_lt10 (by
  have a:=Int.emod_nonneg (frQ f).num (b:=((frQ f).den:Int)) (by omega)
  have b:=Int.emod_lt_of_pos (frQ f).num (b:=((frQ f).den:Int)) (by omega)
  have:=hq.2
  omega)
 have ha1:=addP (ofI ((frQ f).num / ((frQ f).den:Int))) [49] (by omega) (by simp)
 rw [valI_ofI,valI_one] at ha1
 have HA1:=Lib.hid ha1
 have ha2:=addP (ofI ((frQ f).num % ((frQ f).den:Int))) (ofI ((frQ f).num % ((frQ f).den:Int))) (by omega) (by omega)
 rw [valI_ofI] at ha2
 have HA2:=Lib.hid ha2
 have hc1:=cmp0P (ofI (frQ f).num) (by omega)
 have HC1:=Lib.hid hc1
 have h2r:(ofI ((frQ f).num % ((frQ f).den:Int)+(frQ f).num % ((frQ f).den:Int))).length≤90000:=by
  have:=add_len (x:=ofI ((frQ f).num % ((frQ f).den:Int))) (y:=ofI ((frQ f).num % ((frQ f).den:Int))) hrl hrl
  rw [valI_ofI] at this;omega
 have hc2:=cmpP (ofI ((frQ f).num % ((frQ f).den:Int)+(frQ f).num % ((frQ f).den:Int))) (ofI ((frQ f).den:Int)) (by omega) (by omega)
 rw [valI_ofI,valI_ofI] at hc2
 have HC2:=Lib.hid hc2
 have he:=decEven (ofI ((frQ f).num / ((frQ f).den:Int))) (by omega)
 rw [valI_ofI] at he
 have HEV:=Lib.hid he
 have HR:=Lib.hid (roundQ_cases (frQ f))
 clear hE hq hn1 hd1 hdv hfl hrl ha1 ha2 hc1 h2r hc2 he h1 h2
 generalize roundQ (frQ f)=z at *
 have hdp0:(0:Int)<((frQ f).den:Int):=by omega
 clear hdp
 generalize ((frQ f).den:Int)=d at *
 generalize (frQ f).num=n at *
 generalize hlo:n / d=lo at *
 have hre1:=Int.emod_nonneg n (b:=d) (by omega)
 generalize hre:n % d=re at *
 have hre2:0≤re:=hre1
 clear hlo hre hre1
 obtain ⟨fn,fd⟩:=f
 have HX0:Hid (Ext w (w.alloc (.cells #[.string (bs fn),.string (bs fd)] 26))):=Lib.hid (Ext.new _ _)
 have hre0:(!(ofI re).isEmpty)=!(decide (re=0)):=by
  by_cases h:re=0
  ·rw [h,ofI_nil.2 rfl];rfl
  ·have:ofI re≠[]:=fun h'=>h (ofI_nil.1 h')
   simp [h,this]
 have HRE:=Lib.hid hre0
 clear hre0
 have hdp:0<d:=hdp0
 go_enter Tryz.func83,Tryz.ntmps83
 go_wp2_with fail
 refine (HP.out _ (HE.out.ext HX0.out)).mono ?_
 rintro e w1 ⟨rfl,hx1⟩
 have HX:=Lib.hid (HX0.out.trans hx1)
 clear hx1
 go_wp2_with fail
 refine (HD.out _ (HE.out.ext HX.out)).mono ?_
 rintro e w2 ⟨rfl,hx1⟩
 replace HX:=Lib.hid (HX.out.trans hx1)
 clear hx1
 have hcs:0≤re:=hre2
 by_cases hr0:re=0
 ·have hrb:(!(ofI re).isEmpty)=false:=by rw [HRE.out];simp [hr0]
  have hr1:re≤0:=by omega
  clear hr0
  have hr0:=hr1
  go_wp2_with fail
  refine (HC1.out _ (HE.out.ext HX.out)).mono ?_
  rintro e w3 ⟨rfl,hx1⟩
  replace HX:=Lib.hid (HX.out.trans hx1)
  clear hx1
  go_wp2_with fail
  refine (HA2.out _ (HE.out.ext HX.out)).mono ?_
  rintro e w4 ⟨rfl,hx1⟩
  replace HX:=Lib.hid (HX.out.trans hx1)
  clear hx1
  go_wp2_with fail
  refine (HC2.out _ (HE.out.ext HX.out)).mono ?_
  rintro e w5 ⟨rfl,hx1⟩
  replace HX:=Lib.hid (HX.out.trans hx1)
  clear hx1
  have g1:decide (0<cmpI (re+re) d)=false:=by rw [decide_eq_false_iff_not,cmpI_pos];omega
  have g2:(cmpI (re+re) d == 0)=false:=by rw [beq_eq_false_iff_ne,Ne,cmpI_zero];omega
  have HZ:Hid (z=lo):=Lib.hid (HR.out.1 (by omega))
  generalize cmpI (re+re) d=hf at *
  clear hdp HRE HR hcs hr0 hr1
  go_wp2_with fail
  go_ret2
  exact ⟨by rw [HZ.out];rfl,HX.out⟩
 ·have hrb:(!(ofI re).isEmpty)=true:=by rw [HRE.out];simp [hr0]
  go_wp2_with fail
  refine (HA1.out _ (HE.out.ext HX.out)).mono ?_
  rintro e w3 ⟨rfl,hx1⟩
  replace HX:=Lib.hid (HX.out.trans hx1)
  clear hx1
  go_wp2_with fail
  refine (HC1.out _ (HE.out.ext HX.out)).mono ?_
  rintro e w4 ⟨rfl,hx1⟩
  replace HX:=Lib.hid (HX.out.trans hx1)
  clear hx1
  go_wp2_with fail
  refine (HA2.out _ (HE.out.ext HX.out)).mono ?_
  rintro e w5 ⟨rfl,hx1⟩
  replace HX:=Lib.hid (HX.out.trans hx1)
  clear hx1
  go_wp2_with fail
  refine (HC2.out _ (HE.out.ext HX.out)).mono ?_
  rintro e w7 ⟨rfl,hx1⟩
  replace HX:=Lib.hid (HX.out.trans hx1)
  clear hx1
  rcases Int.lt_trichotomy (re+re) d with hlt | hlt | hlt
  ·have g1:decide (0<cmpI (re+re) d)=false:=by rw [decide_eq_false_iff_not,cmpI_pos];omega
   have g2:(cmpI (re+re) d == 0)=false:=by rw [beq_eq_false_iff_ne,Ne,cmpI_zero];omega
   have HZ:Hid (z=lo):=Lib.hid (HR.out.1 (by omega))
   generalize cmpI (re+re) d=hf at *
   clear hdp HRE HR hcs hr0 hlt
   go_wp2_with fail
   go_ret2
   exact ⟨by rw [HZ.out];rfl,HX.out⟩
  ·by_cases hev:lo % 2=0
   ·have g1:decide (0<cmpI (re+re) d)=false:=by rw [decide_eq_false_iff_not,cmpI_pos];omega
    have g2:(cmpI (re+re) d == 0)=true:=by rw [beq_iff_eq,cmpI_zero];omega
    have g3:decide (lo % 2=0)=true:=by rw [decide_eq_true_iff];exact hev
    have HZ:Hid (z=lo):=Lib.hid (HR.out.2.1 (by omega) hev)
    rw [g3] at HEV
    generalize cmpI (re+re) d=hf at *
    clear hdp HRE HR hcs hev g3 hr0 hlt
    go_wp2_with fail
    refine (HEV.out _ (HE.out.ext HX.out)).mono ?_
    rintro e w6 ⟨rfl,hx1⟩
    replace HX:=Lib.hid (HX.out.trans hx1)
    clear hx1
    go_wp2_with fail
    go_ret2
    exact ⟨by rw [HZ.out];rfl,HX.out⟩
   ·have g1:decide (0<cmpI (re+re) d)=false:=by rw [decide_eq_false_iff_not,cmpI_pos];omega
    have g2:(cmpI (re+re) d == 0)=true:=by rw [beq_iff_eq,cmpI_zero];omega
    have g3:decide (lo % 2=0)=false:=by rw [decide_eq_false_iff_not];exact hev
    have HZ:Hid (z=lo+1):=Lib.hid (HR.out.2.2.1 (by omega) hev)
    rw [g3] at HEV
    generalize cmpI (re+re) d=hf at *
    clear hdp HRE HR hcs hev g3 hr0 hlt
    go_wp2_with fail
    refine (HEV.out _ (HE.out.ext HX.out)).mono ?_
    rintro e w6 ⟨rfl,hx1⟩
    replace HX:=Lib.hid (HX.out.trans hx1)
    clear hx1
    go_wp2_with fail
    go_ret2
    exact ⟨by rw [HZ.out];rfl,HX.out⟩
  ·have g1:decide (0<cmpI (re+re) d)=true:=by rw [decide_eq_true_iff,cmpI_pos];omega
   have HZ:Hid (z=lo+1):=Lib.hid (HR.out.2.2.2 (by omega))
   generalize cmpI (re+re) d=hf at *
   clear hdp HRE HR hcs hr0 hlt
   go_wp2_with fail
   go_ret2
   exact ⟨by rw [HZ.out];rfl,HX.out⟩
theorem allNeg (a:Bs) (ha:a.length≤90000):Pure 289 #[.string (bs a)] (.bool (decide (valI a<0))):=by
 intro w hE
 have HE:=Lib.hid hE
 have HC:=Lib.hid (cmp0P a (by omega))
 have HQ:Hid (decide (valI a<0)=decide (cmpI (valI a) 0<0)):=Lib.hid (by rw [Bool.eq_iff_iff,decide_eq_true_iff,decide_eq_true_iff,cmpI_neg])
 rw [HQ.out]
 generalize cmpI (valI a) 0=cc at *
 clear hE HQ
 go_enter Tryz.func289,Tryz.ntmps289
 go_wp2_with fail
 refine (HC.out _ HE.out).mono ?_
 rintro e w1 ⟨rfl,hx1⟩
 have HX:=Lib.hid hx1
 clear hx1
 go_wp2_with fail
 go_ret
 exact ⟨rfl,HX.out⟩
end
section
open Go.RowKit
attribute [local go_sem] size_bs toList_bs
theorem frQ_nilK:frQ ⟨[],[]⟩=0:=by
 have:=frQ_ofQ 0
 rwa [ofQ_zero] at this
theorem results_tf {fn:Func} {a b:Tmp} (h:fn.results=#[.tmp a,.cell b 26]) (tmps:Array Value) (w:World) (g:Nat) (x y z:Value) (hz:tmps.getD a undef=z) (ha:tmps.getD b undef = .pointer (some ⟨g,0,none⟩)) (hb:Blk w g 26 #[x,y]) :
  (results fn tmps).run Tryz.prog w = .ok (.tuple #[z,.agg #[x,y]]) w:=by
 obtain ⟨q0,q1,_,_⟩:=frBlk hb (Ext.refl _)
 unfold results
 rw [h]
 simp only [List.mapM_toArray,List.mapM_cons,List.mapM_nil,ha,hz]
 go_simp
theorem results_tft {fn:Func} {a b c:Tmp} (h:fn.results=#[.tmp a,.cell b 26,.tmp c]) (tmps:Array Value) (w:World) (g:Nat) (x y z u:Value) (hz:tmps.getD a undef=z) (ha:tmps.getD b undef = .pointer (some ⟨g,0,none⟩)) (hu:tmps.getD c undef=u) (hb:Blk w g 26 #[x,y]) :
  (results fn tmps).run Tryz.prog w = .ok (.tuple #[z,.agg #[x,y],u]) w:=by
 obtain ⟨q0,q1,_,_⟩:=frBlk hb (Ext.refl _)
 unfold results
 rw [h]
 simp only [List.mapM_toArray,List.mapM_cons,List.mapM_nil,ha,hz,hu]
 go_simp
def valZ (p:Fr) (q:Bs):Int:=roundQ (frQ p*((valI q:Int):Rat))
theorem val_qb {p:Fr} {q:Bs} {L:Nat} (h0:0<L) (h1:p.num.length≤L) (h2:p.den.length≤L) (hq:q.length≤L):QB (L+L) (frQ p*((valI q:Int):Rat)):=(frQ_qb h1 h2 h0).mul (qb_int h0 (valI_lt10 hq))
theorem priceVal {L:Nat} (h0:0<L) (hL:L≤9000) (p:Fr) (q:Bs) (h1:p.num.length≤L) (h2:p.den.length≤L) (hq:q.length≤L):Pure 30 #[fv p,.string (bs q)] (.string (bs (ofI (valZ p q)))):=by
 intro w hE
 have HE:=Lib.hid hE
 have qq:=qb_int h0 (valI_lt10 hq)
 have l1:=qq.num_len
 have l2:=qq.den_len
 have qv:=val_qb h0 h1 h2 hq
 have l3:=qv.num_len
 have l4:=qv.den_len
 have m:=fracMul p (ofQ ((valI q:Int):Rat)) (by omega) (by omega) (by omega) (by omega)
 rw [frQ_ofQ] at m
 have r:=decRound (ofQ (frQ p*((valI q:Int):Rat))) (by omega) (by omega)
 rw [frQ_ofQ,show roundQ (frQ p*((valI q:Int):Rat))=valZ p q from rfl] at r
 have O:=Lib.hid (fracOf q (by omega))
 have M:=Lib.hid m
 have R:=Lib.hid r
 generalize ofI (valZ p q)=z at *
 generalize ofQ (frQ p*((valI q:Int):Rat))=fp at *
 generalize ofQ ((valI q:Int):Rat)=fq at *
 obtain ⟨n1,e1⟩:=p
 clear m r qq l1 l2 l3 l4 qv hE h1 h2 hq h0 hL
 have HB:=Lib.hid (Blk.new w 26 #[.string (bs n1),.string (bs e1)])
 have HX:Hid (Ext w (w.alloc (.cells #[.string (bs n1),.string (bs e1)] 26))):=Lib.hid (Ext.new _ _)
 have HD:Hid (Ext w (w.alloc (.cells #[.string (bs n1),.string (bs e1)] 26)).drew):=Lib.hid HX.out.drew
 have HBD:=Lib.hid HB.out.drew
 go_enter Tryz.func30,Tryz.ntmps30
 go_upto_region 1 with fail
 go_cut [5] (fun p5 wx=>p5 = .string (bs z)∧Ext w wx)
 case first =>
  obtain ⟨r0,r1,_,_⟩:=frBlk HB.out (Ext.refl _)
  go_region_held3 (fun w'=>w'.cell? ⟨w.heap.size,0,none⟩=some (.string (bs n1))∧w'.cell? ⟨w.heap.size,1,none⟩=some (.string (bs e1)))
   (go_keep)
   (first
    |(go_at_call 36;((with_reducible refine (O.out _ (HE.out.ext HD.out)).mono ?_);rintro e w4 ⟨rfl,hx⟩);(replace HD:=Lib.hid (HD.out.trans hx));(replace HBD:=Lib.hid (HBD.out.ext hx));(obtain ⟨y0,y1,_,_⟩:=frBlk HBD.out (Ext.refl _));clear hx O)
    |(go_at_call 38;((with_reducible refine (M.out _ (HE.out.ext HD.out)).mono ?_);rintro e w5 ⟨rfl,hx⟩);(replace HD:=Lib.hid (HD.out.trans hx));(replace HBD:=Lib.hid (HBD.out.ext hx));(obtain ⟨z0,z1,_,_⟩:=frBlk HBD.out (Ext.refl _));clear hx M)
    |(go_at_call 83;((with_reducible refine (R.out _ (HE.out.ext HD.out)).mono ?_);rintro e w6 ⟨rfl,hx⟩);(replace HD:=Lib.hid (HD.out.trans hx));(replace HBD:=Lib.hid (HBD.out.ext hx));(obtain ⟨x0,x1,_,_⟩:=frBlk HBD.out (Ext.refl _));clear hx R))
  all_goals (go_wp2_with fail;go_meet;exact ⟨rfl,HD.out⟩)
 case rest =>
  obtain ⟨rfl,hx⟩:=hcut
  have HXE:=Lib.hid hx
  clear hx
  go_wp2_with fail
  go_ret
  exact ⟨rfl,HXE.out⟩
theorem lmSign (f:Fr) (h1:f.num.length≤19000) (h2:f.den.length≤19000):Pure 173 #[fv f] (.int .i64 (cmpQ (frQ f) 0)):=by
 intro w hE
 have HE:=Lib.hid hE
 have c:=fracCmp f ⟨[],[]⟩ (by omega) (by omega) (by simp) (by simp)
 rw [frQ_nilK] at c
 have C:=Lib.hid c
 generalize cmpQ (frQ f) 0=k at *
 obtain ⟨n1,e1⟩:=f
 clear c hE h1 h2
 have HB:=Lib.hid (Blk.new w 26 #[.string (bs n1),.string (bs e1)])
 have HX:Hid (Ext w (w.alloc (.cells #[.string (bs n1),.string (bs e1)] 26))):=Lib.hid (Ext.new _ _)
 go_enter Tryz.func173,Tryz.ntmps173
 obtain ⟨r0,r1,_,_⟩:=frBlk HB.out (Ext.refl _)
 go_wp2_with fail
 refine (C.out _ (HE.out.ext HX.out)).mono ?_
 rintro e v1 ⟨rfl,hx1⟩
 replace HX:=Lib.hid (HX.out.trans hx1)
 clear hx1
 go_wp2_with fail
 go_ret
 exact ⟨rfl,HX.out⟩
end
end Go.Proofs.YthgpheopnhajaaaGreatDoor
