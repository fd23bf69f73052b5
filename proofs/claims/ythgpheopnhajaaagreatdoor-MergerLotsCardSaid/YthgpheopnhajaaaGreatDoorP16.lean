/- The seat's texts, part P16. -/
import Derived.Test.YthgpheopnhajaaaGreatDoorP4
import Derived.Test.YthgpheopnhajaaaGreatDoorP15
import Derived.Deep.CutRange
import Derived.BigQuiet
import Derived.Maps.RangeWalk
import Derived.Maps.OwnSet
import Derived.Deep.MidRow
import Derived.Orders
set_option maxRecDepth 100000
set_option maxHeartbeats 8000000
namespace Go.Proofs.YthgpheopnhajaaaGreatDoor
section
open Go.RowKit
attribute [local go_sem] size_bs toList_bs
structure NumF (f:Fr) (e:Int):Prop where
 c:aK f≠0→e=1
 d:aK f=0→40<be f.num∨40<be f.den→e=4
 s:aK f=0→¬ 40<be f.num→¬ 40<be f.den→bN (aj f) 0<0→e=2
 k:aK f=0→¬ 40<be f.num→¬ 40<be f.den→¬ bN (aj f) 0<0→e=0
theorem zF(f:Fr):NumF f (bR f):=by
 have key:(jJ f≠0→bR f=jJ f)∧(jJ f=0→bN (aj f) 0<0→bR f=2)∧(jJ f=0→¬ bN (aj f) 0<0→bR f=0):=by
  refine⟨fun h=>?_,fun h k=>?_,fun h k=>?_⟩
  ·unfold bR;rw[if_pos h]
  ·unfold bR;rw[if_neg (by simpa using h),if_pos (om.1 k)]
  ·unfold bR;rw[if_neg (by simpa using h),if_neg (fun h=>k (om.2 h))]
 obtain⟨k1,k2,k3⟩:=key;have a1:aK f≠0→jJ f=1:=fun h=>by unfold jJ;rw[if_pos h]
 have a2:aK f=0→40<be f.num∨40<be f.den→jJ f=4:=fun h k=>by unfold jJ;rw[if_neg (by simpa using h),if_pos k]
 have a3:aK f=0→¬ 40<be f.num→¬ 40<be f.den→jJ f=0:=fun h k k2=>by unfold jJ;rw[if_neg (by simpa using h),if_neg (by omega)]
 exact⟨fun h=>by rw[k1 (by rw[a1 h];decide),a1 h],fun h k=>by rw[k1 (by rw[a2 h k];decide),a2 h k],fun h k l m=>k2 (a3 h k l) m,fun h k l m=>k3 (a3 h k l) m⟩
structure NumR (n d:Bs) (E:Int):Prop where
 ck:bc 48 #[fv ⟨n,d⟩] (.int .i64 (aK ⟨n,d⟩))
 cm:bc 39 #[fv ⟨n,d⟩,fv ⟨[],[]⟩] (.int .i64 (bN (aj ⟨n,d⟩) 0))
 f:NumF ⟨n,d⟩ E
 ln:n.length≤9000
 ld:d.length≤9000
theorem zG(f:Fr)(h1:f.num.length≤9000)(h2:f.den.length≤9000):NumR f.num f.den (bR f):=by
 have c:=lL f ⟨[],[]⟩ (by omega) (by omega) (by simp) (by simp);rw[mn]at c;exact⟨jV f (by omega) (by omega),c,zF f,h1,h2⟩
theorem vW(o:OptV)(hs:eP 9000 o):bc 46 #[ov o] (.int .i64 (dS o)):=by
 intro w hE;have HE:=qh hE;obtain⟨s0,s1,s2,s3,s4,s5,s6⟩:=hs;have HNm:=qh (fun W=>i7 o.other W (by omega));have N1:=qh (mQ o).n;have N2:=qh (mQ o).r;have N3:=qh (mQ o).p;have N4:=qh (mQ o).v;have N5:=qh (mQ o).b;have N6:=qh (mQ o).k;have R1:=qh (zG o.r s1 s2);have R2:=qh (zG o.p s3 s4);have R3:=qh (zG o.v s5 s6);have HB:=qh (Blk.new w 50 (oc o));have HX:Hid (Ext w (w.alloc (.cells (oc o) 50))):=qh (Ext.new _ _);generalize dS o=res at *;generalize bR o.r=e1 at *;generalize bR o.p=e2 at *;generalize bR o.v=e3 at *;generalize ax o.other=nm at *;obtain⟨ot,⟨rn,rd⟩,⟨pn,pd⟩,⟨vn,vd⟩⟩:=o;dsimp only at HNm N1 N2 N3 N4 N5 N6 R1 R2 R3;clear s0 s1 s2 s3 s4 s5 s6 hE;obtain⟨bad,hbad⟩:∃b:Bool,b=(!ot.isEmpty && !nm):=⟨_,rfl⟩
 cases bad;rotate_left
 ·have h1:ot≠[]:=by rintro rfl;simp at hbad
  have h2:nm=false:=by cases nm;rfl;simp at hbad
  have ee:=N1.out h1 h2;subst ee;subst h2;have qe:ot.isEmpty=false:=by simpa using h1
  clear N1 N2 N3 N4 N5 N6 hbad R1 R2 R3;go_enter Tryz.func46,Tryz.ntmps46;obtain⟨r0,r1,r2,r3,r4,r5,r6⟩:=ar HB.out (Ext.refl _);go_wp2_with fail;refine(HNm.out _).mono ?_;rintro e v0⟨rfl,hx1⟩;replace HX:=HX.qt hx1;clear hx1;go_wp2_with fail;go_ret;exact⟨rfl,HX.out⟩
 have hgo:ot=[]∨nm=true:=by
  by_cases h:ot=[]
  ·exact .inl h
  ·have:ot.isEmpty=false:=by simpa using h
   rw[this]at hbad;cases nm;simp at hbad;exact .inr rfl
 replace N2:=qh (N2.out hgo);replace N3:=qh (N3.out hgo);replace N4:=qh (N4.out hgo);replace N5:=qh (N5.out hgo);replace N6:=qh (N6.out hgo);have HG:=qh hgo;clear N1 hbad hgo;go_enter Tryz.func46,Tryz.ntmps46;obtain⟨r0,r1,r2,r3,r4,r5,r6⟩:=ar HB.out (Ext.refl _);go_upto_region 1 with fail;go_cut [13] (fun p13 wx=>p13 = .bool false∧Ext (w.alloc (.cells (oc ⟨ot,⟨rn,rd⟩,⟨pn,pd⟩,⟨vn,vd⟩⟩) 50)) wx)
 case first =>
  clear N2 N3 N4 N5 N6 R1 R2 R3;by_cases h0:ot=[]
  ·subst h0;go_wp2_with fail;go_meet
   exact⟨rfl,Ext.refl _⟩
  ·obtain rfl:=HG.out.resolve_left h0;have qe:ot.isEmpty=false:=by simpa using h0
   go_wp2_with fail;refine(HNm.out _).mono ?_;rintro e v0⟨rfl,hx1⟩;have HX1:=qh hx1;clear hx1;go_wp2_with fail;go_meet
   exact⟨rfl,HX1.out⟩
 case rest =>
  obtain⟨rfl,hx⟩:=hcut;replace HB:=qh (HB.out.ext hx);replace HX:=HX.qt hx;clear hx HG HNm r0 r1 r2 r3 r4 r5 r6;obtain⟨r0,r1,r2,r3,r4,r5,r6⟩:=ar HB.out (Ext.refl _);have HA:=qh (Blk.new wc 26 #[.string (bs rn),.string (bs rd),.string (bs pn),.string (bs pd),.string (bs vn),.string (bs vd)]);have HY:Hid (Ext wc (wc.alloc (.cells #[.string (bs rn),.string (bs rd),.string (bs pn),.string (bs pd),.string (bs vn),.string (bs vd)] 26))):=qh (Ext.new _ _);go_wp2_with fail;replace HB:=qh (HB.out.ext HY.out);replace HX:=qh (HX.out.trans HY.out);clear HY r0 r1 r2 r3 r4 r5 r6;generalize wc.alloc (.cells #[.string (bs rn),.string (bs rd),.string (bs pn),.string (bs pd),.string (bs vn),.string (bs vd)] 26)=W5 at *;go_loopw [22,4] (fun i _ wr=>∃k:Nat,k≤3∧i = .int .i64 k∧Ext W5 wr∧(1≤k→e1=0)∧(2≤k→e2=0)∧(3≤k→e3=0)) (fun i _ _=>3-(intOf i).toNat)
  case atStart=>exact⟨0,by omega,rfl,Ext.refl _,by omega,by omega,by omega⟩
  case round =>
   obtain⟨k,hk,rfl,hx,z1,z2,z3⟩:=hrel;replace HB:=qh (HB.out.ext hx);replace HX:=HX.qt hx;replace HA:=qh (HA.out.ext hx);obtain rfl|rfl|rfl|rfl:k=0∨k=1∨k=2∨k=3:=by omega
   ·skip;have a0:=HA.out.cell 0;have a1:=HA.out.cell 1;simp only[List.getElem?_toArray,List.getElem?_cons_zero,List.getElem?_cons_succ]at a0 a1;clear z1 z2 z3;have HV:=qh (Blk.new wr 26 #[.string (bs rn),.string (bs rd)]);have HW:Hid (Ext wr (wr.alloc (.cells #[.string (bs rn),.string (bs rd)] 26))):=qh (Ext.new _ _);replace HX:=qh (HX.out.trans HW.out);have HL:=qh (hx.trans HW.out);clear hx HW;obtain⟨ck,cm,nf,ln,ld⟩:=R1.out;have CK:=qh ck;have CM:=qh cm;have F1:=qh nf.c;have F2:=qh nf.d;have F3:=qh nf.s;have F4:=qh nf.k;have D1:=qh (fun W=>nr (jc rn (by omega) W));have D2:=qh (fun W=>nr (jc rd (by omega) W));clear ck cm nf ln ld R1 R2 R3;dsimp only at F1 F2 F3 F4;generalize aK ⟨rn,rd⟩=ck at *;generalize be rn=d1 at *;generalize be rd=d2 at *;generalize bN (aj ⟨rn,rd⟩) 0=sg at *;go_wp2_with fail;obtain⟨b0,b1,_,_⟩:=ah HV.out (Ext.refl _);refine(CK.out _ (HE.out.ext HX.out)).mono ?_;rintro e v9⟨rfl,hx1⟩;replace HV:=qh (HV.out.ext hx1);replace HL:=HL.qt hx1;replace HX:=HX.qt hx1;clear hx1;clear b0 b1;obtain⟨b0,b1,_,_⟩:=ah HV.out (Ext.refl _);by_cases y1:ck=0;rotate_left
    ·have g:(ck != 0)=true:=by rw[bne_iff_ne];exact y1
     have e0:=F1.out y1;have ee:=N2.out  (by rw[e0];decide);rw[e0]at ee;subst ee;clear N2 N3 N4 N5 N6 F1 F2 F3 F4;go_wp2_with fail;go_ret;exact⟨rfl,HX.out⟩
    subst y1;go_wp2_with fail;refine(D1.out _).mono ?_;rintro e v9⟨rfl,hx1⟩;replace HV:=qh (HV.out.ext hx1);replace HL:=HL.qt hx1;replace HX:=HX.qt hx1;clear hx1;clear b0 b1;obtain⟨b0,b1,_,_⟩:=ah HV.out (Ext.refl _);by_cases y2:40<d1
    ·have g:decide ((40:Int)<(d1:Int))=true:=by rw[decide_eq_true_iff];omega
     have e0:=F2.out (by trivial) (.inl y2);have ee:=N2.out  (by rw[e0];decide);rw[e0]at ee;subst ee;clear N2 N3 N4 N5 N6 F1 F2 F3 F4;go_wp2_with fail;go_ret;exact⟨rfl,HX.out⟩
    have g2:decide ((40:Int)<(d1:Int))=false:=by rw[decide_eq_false_iff_not];omega
    go_wp2_with fail;refine(D2.out _).mono ?_;rintro e v9⟨rfl,hx1⟩;replace HV:=qh (HV.out.ext hx1);replace HL:=HL.qt hx1;replace HX:=HX.qt hx1;clear hx1;clear b0 b1;obtain⟨b0,b1,_,_⟩:=ah HV.out (Ext.refl _);by_cases y3:40<d2
    ·have g:decide ((40:Int)<(d2:Int))=true:=by rw[decide_eq_true_iff];omega
     have e0:=F2.out (by trivial) (.inr y3);have ee:=N2.out  (by rw[e0];decide);rw[e0]at ee;subst ee;clear N2 N3 N4 N5 N6 F1 F2 F3 F4;go_wp2_with fail;go_ret;exact⟨rfl,HX.out⟩
    have g3:decide ((40:Int)<(d2:Int))=false:=by rw[decide_eq_false_iff_not];omega
    go_wp2_with fail;refine(CM.out _ (HE.out.ext HX.out)).mono ?_;rintro e v9⟨rfl,hx1⟩;replace HV:=qh (HV.out.ext hx1);replace HL:=HL.qt hx1;replace HX:=HX.qt hx1;clear hx1;by_cases y4:sg<0
    ·have g:decide (sg<0)=true:=decide_eq_true y4;have e0:=F3.out (by trivial) y2 y3 y4;have ee:=N2.out  (by rw[e0];decide);rw[e0]at ee;subst ee;clear N2 N3 N4 N5 N6 F1 F2 F3 F4;go_wp2_with fail;go_ret;exact⟨rfl,HX.out⟩
    have g4:decide (sg<0)=false:=decide_eq_false y4;have e0:=F4.out (by trivial) (by omega) (by omega) (by omega);clear N2 N3 N4 N5 N6 F1 F2 F3 F4;go_wp2_with fail;exact⟨⟨1,by omega,by go_num,HL.out,fun _=>e0,by omega,by omega⟩,by simp[intOf]⟩
   ·skip;have a0:=HA.out.cell 2;have a1:=HA.out.cell 3;simp only[List.getElem?_toArray,List.getElem?_cons_zero,List.getElem?_cons_succ]at a0 a1;have Z1:=qh (z1 (by omega));clear z1 z2 z3;have HV:=qh (Blk.new wr 26 #[.string (bs pn),.string (bs pd)]);have HW:Hid (Ext wr (wr.alloc (.cells #[.string (bs pn),.string (bs pd)] 26))):=qh (Ext.new _ _);replace HX:=qh (HX.out.trans HW.out);have HL:=qh (hx.trans HW.out);clear hx HW;obtain⟨ck,cm,nf,ln,ld⟩:=R2.out;have CK:=qh ck;have CM:=qh cm;have F1:=qh nf.c;have F2:=qh nf.d;have F3:=qh nf.s;have F4:=qh nf.k;have D1:=qh (fun W=>nr (jc pn (by omega) W));have D2:=qh (fun W=>nr (jc pd (by omega) W));clear ck cm nf ln ld R1 R2 R3;dsimp only at F1 F2 F3 F4;generalize aK ⟨pn,pd⟩=ck at *;generalize be pn=d1 at *;generalize be pd=d2 at *;generalize bN (aj ⟨pn,pd⟩) 0=sg at *;go_wp2_with fail;obtain⟨b0,b1,_,_⟩:=ah HV.out (Ext.refl _);refine(CK.out _ (HE.out.ext HX.out)).mono ?_;rintro e v9⟨rfl,hx1⟩;replace HV:=qh (HV.out.ext hx1);replace HL:=HL.qt hx1;replace HX:=HX.qt hx1;clear hx1;clear b0 b1;obtain⟨b0,b1,_,_⟩:=ah HV.out (Ext.refl _);by_cases y1:ck=0;rotate_left
    ·have g:(ck != 0)=true:=by rw[bne_iff_ne];exact y1
     have e0:=F1.out y1;have ee:=N3.out Z1.out (by rw[e0];decide);rw[e0]at ee;subst ee;clear N2 N3 N4 N5 N6 F1 F2 F3 F4;go_wp2_with fail;go_ret;exact⟨rfl,HX.out⟩
    subst y1;go_wp2_with fail;refine(D1.out _).mono ?_;rintro e v9⟨rfl,hx1⟩;replace HV:=qh (HV.out.ext hx1);replace HL:=HL.qt hx1;replace HX:=HX.qt hx1;clear hx1;clear b0 b1;obtain⟨b0,b1,_,_⟩:=ah HV.out (Ext.refl _);by_cases y2:40<d1
    ·have g:decide ((40:Int)<(d1:Int))=true:=by rw[decide_eq_true_iff];omega
     have e0:=F2.out (by trivial) (.inl y2);have ee:=N3.out Z1.out (by rw[e0];decide);rw[e0]at ee;subst ee;clear N2 N3 N4 N5 N6 F1 F2 F3 F4;go_wp2_with fail;go_ret;exact⟨rfl,HX.out⟩
    have g2:decide ((40:Int)<(d1:Int))=false:=by rw[decide_eq_false_iff_not];omega
    go_wp2_with fail;refine(D2.out _).mono ?_;rintro e v9⟨rfl,hx1⟩;replace HV:=qh (HV.out.ext hx1);replace HL:=HL.qt hx1;replace HX:=HX.qt hx1;clear hx1;clear b0 b1;obtain⟨b0,b1,_,_⟩:=ah HV.out (Ext.refl _);by_cases y3:40<d2
    ·have g:decide ((40:Int)<(d2:Int))=true:=by rw[decide_eq_true_iff];omega
     have e0:=F2.out (by trivial) (.inr y3);have ee:=N3.out Z1.out (by rw[e0];decide);rw[e0]at ee;subst ee;clear N2 N3 N4 N5 N6 F1 F2 F3 F4;go_wp2_with fail;go_ret;exact⟨rfl,HX.out⟩
    have g3:decide ((40:Int)<(d2:Int))=false:=by rw[decide_eq_false_iff_not];omega
    go_wp2_with fail;refine(CM.out _ (HE.out.ext HX.out)).mono ?_;rintro e v9⟨rfl,hx1⟩;replace HV:=qh (HV.out.ext hx1);replace HL:=HL.qt hx1;replace HX:=HX.qt hx1;clear hx1;by_cases y4:sg<0
    ·have g:decide (sg<0)=true:=decide_eq_true y4;have e0:=F3.out (by trivial) y2 y3 y4;have ee:=N3.out Z1.out (by rw[e0];decide);rw[e0]at ee;subst ee;clear N2 N3 N4 N5 N6 F1 F2 F3 F4;go_wp2_with fail;go_ret;exact⟨rfl,HX.out⟩
    have g4:decide (sg<0)=false:=decide_eq_false y4;have e0:=F4.out (by trivial) (by omega) (by omega) (by omega);clear N2 N3 N4 N5 N6 F1 F2 F3 F4;go_wp2_with fail;exact⟨⟨2,by omega,by go_num,HL.out,fun _=>Z1.out,fun _=>e0,by omega⟩,by simp[intOf]⟩
   ·skip;have a0:=HA.out.cell 4;have a1:=HA.out.cell 5;simp only[List.getElem?_toArray,List.getElem?_cons_zero,List.getElem?_cons_succ]at a0 a1;have Z1:=qh (z1 (by omega));have Z2:=qh (z2 (by omega));clear z1 z2 z3;have HV:=qh (Blk.new wr 26 #[.string (bs vn),.string (bs vd)]);have HW:Hid (Ext wr (wr.alloc (.cells #[.string (bs vn),.string (bs vd)] 26))):=qh (Ext.new _ _);replace HX:=qh (HX.out.trans HW.out);have HL:=qh (hx.trans HW.out);clear hx HW;obtain⟨ck,cm,nf,ln,ld⟩:=R3.out;have CK:=qh ck;have CM:=qh cm;have F1:=qh nf.c;have F2:=qh nf.d;have F3:=qh nf.s;have F4:=qh nf.k;have D1:=qh (fun W=>nr (jc vn (by omega) W));have D2:=qh (fun W=>nr (jc vd (by omega) W));clear ck cm nf ln ld R1 R2 R3;dsimp only at F1 F2 F3 F4;generalize aK ⟨vn,vd⟩=ck at *;generalize be vn=d1 at *;generalize be vd=d2 at *;generalize bN (aj ⟨vn,vd⟩) 0=sg at *;go_wp2_with fail;obtain⟨b0,b1,_,_⟩:=ah HV.out (Ext.refl _);refine(CK.out _ (HE.out.ext HX.out)).mono ?_;rintro e v9⟨rfl,hx1⟩;replace HV:=qh (HV.out.ext hx1);replace HL:=HL.qt hx1;replace HX:=HX.qt hx1;clear hx1;clear b0 b1;obtain⟨b0,b1,_,_⟩:=ah HV.out (Ext.refl _);by_cases y1:ck=0;rotate_left
    ·have g:(ck != 0)=true:=by rw[bne_iff_ne];exact y1
     have e0:=F1.out y1;have ee:=N4.out Z1.out Z2.out (by rw[e0];decide);rw[e0]at ee;subst ee;clear N2 N3 N4 N5 N6 F1 F2 F3 F4;go_wp2_with fail;go_ret;exact⟨rfl,HX.out⟩
    subst y1;go_wp2_with fail;refine(D1.out _).mono ?_;rintro e v9⟨rfl,hx1⟩;replace HV:=qh (HV.out.ext hx1);replace HL:=HL.qt hx1;replace HX:=HX.qt hx1;clear hx1;clear b0 b1;obtain⟨b0,b1,_,_⟩:=ah HV.out (Ext.refl _);by_cases y2:40<d1
    ·have g:decide ((40:Int)<(d1:Int))=true:=by rw[decide_eq_true_iff];omega
     have e0:=F2.out (by trivial) (.inl y2);have ee:=N4.out Z1.out Z2.out (by rw[e0];decide);rw[e0]at ee;subst ee;clear N2 N3 N4 N5 N6 F1 F2 F3 F4;go_wp2_with fail;go_ret;exact⟨rfl,HX.out⟩
    have g2:decide ((40:Int)<(d1:Int))=false:=by rw[decide_eq_false_iff_not];omega
    go_wp2_with fail;refine(D2.out _).mono ?_;rintro e v9⟨rfl,hx1⟩;replace HV:=qh (HV.out.ext hx1);replace HL:=HL.qt hx1;replace HX:=HX.qt hx1;clear hx1;clear b0 b1;obtain⟨b0,b1,_,_⟩:=ah HV.out (Ext.refl _);by_cases y3:40<d2
    ·have g:decide ((40:Int)<(d2:Int))=true:=by rw[decide_eq_true_iff];omega
     have e0:=F2.out (by trivial) (.inr y3);have ee:=N4.out Z1.out Z2.out (by rw[e0];decide);rw[e0]at ee;subst ee;clear N2 N3 N4 N5 N6 F1 F2 F3 F4;go_wp2_with fail;go_ret;exact⟨rfl,HX.out⟩
    have g3:decide ((40:Int)<(d2:Int))=false:=by rw[decide_eq_false_iff_not];omega
    go_wp2_with fail;refine(CM.out _ (HE.out.ext HX.out)).mono ?_;rintro e v9⟨rfl,hx1⟩;replace HV:=qh (HV.out.ext hx1);replace HL:=HL.qt hx1;replace HX:=HX.qt hx1;clear hx1;by_cases y4:sg<0
    ·have g:decide (sg<0)=true:=decide_eq_true y4;have e0:=F3.out (by trivial) y2 y3 y4;have ee:=N4.out Z1.out Z2.out (by rw[e0];decide);rw[e0]at ee;subst ee;clear N2 N3 N4 N5 N6 F1 F2 F3 F4;go_wp2_with fail;go_ret;exact⟨rfl,HX.out⟩
    have g4:decide (sg<0)=false:=decide_eq_false y4;have e0:=F4.out (by trivial) (by omega) (by omega) (by omega);clear N2 N3 N4 N5 N6 F1 F2 F3 F4;go_wp2_with fail;exact⟨⟨3,by omega,by go_num,HL.out,fun _=>Z1.out,fun _=>Z2.out,fun _=>e0⟩,by simp[intOf]⟩
   ·have w1:=z1 (by omega);have w2:=z2 (by omega);have w3:=z3 (by omega);subst w1;subst w2;subst w3;clear z1 z2 z3 R1 R2 R3 N2 N3 N4 hx HA;replace N5:=qh (N5.out rfl rfl rfl);replace N6:=qh (N6.out rfl rfl rfl);obtain⟨r0,r1,r2,r3,r4,r5,r6⟩:=ar HB.out (Ext.refl _);clear hk;go_wp2_with fail;by_cases h0:ot=[]
    ·subst h0;by_cases b1:rn=[];rotate_left
     ·have q1:rn.isEmpty=false:=by simpa using b1
      have q:=aQ b1;have ee:=N5.out (by simp[bP, *]);subst ee;clear N5 N6;go_wp2_with fail;go_quiet (fail);go_wp2_with fail;go_ret;exact⟨rfl,HX.out.drewN _⟩
     subst b1;by_cases b2:rd=[];rotate_left
     ·have q1:rd.isEmpty=false:=by simpa using b2
      have q:=aQ b2;have ee:=N5.out (by simp[bP, *]);subst ee;clear N5 N6;go_wp2_with fail;go_quiet (fail);go_wp2_with fail;go_ret;exact⟨rfl,HX.out.drewN _⟩
     subst b2;by_cases b3:vn=[];rotate_left
     ·have q1:vn.isEmpty=false:=by simpa using b3
      have q:=aQ b3;have ee:=N5.out (by simp[bP, *]);subst ee;clear N5 N6;go_wp2_with fail;go_quiet (fail);go_wp2_with fail;go_ret;exact⟨rfl,HX.out.drewN _⟩
     subst b3;by_cases b4:vd=[];rotate_left
     ·have q1:vd.isEmpty=false:=by simpa using b4
      have q:=aQ b4;have ee:=N5.out (by simp[bP, *]);subst ee;clear N5 N6;go_wp2_with fail;go_quiet (fail);go_wp2_with fail;go_ret;exact⟨rfl,HX.out.drewN _⟩
     subst b4;have ee:=N6.out (by simp[bP, *]);subst ee;clear N5 N6;go_wp2_with fail;go_quiet (fail);go_wp2_with fail;go_ret;exact⟨rfl,HX.out.drewN _⟩
    ·have qo:=aQ h0;have qe:ot.isEmpty=false:=by simpa using h0
     by_cases b1:rn=[];rotate_left
     ·have q1:rn.isEmpty=false:=by simpa using b1
      have q:=aQ b1;have ee:=N6.out (by simp[bP, *]);subst ee;clear N5 N6;go_wp2_with fail;go_quiet (fail);go_wp2_with fail;go_ret;exact⟨rfl,HX.out.drewN _⟩
     subst b1;by_cases b2:rd=[];rotate_left
     ·have q1:rd.isEmpty=false:=by simpa using b2
      have q:=aQ b2;have ee:=N6.out (by simp[bP, *]);subst ee;clear N5 N6;go_wp2_with fail;go_quiet (fail);go_wp2_with fail;go_ret;exact⟨rfl,HX.out.drewN _⟩
     subst b2;have ee:=N5.out (by simp[bP, *]);subst ee;clear N5 N6;go_wp2_with fail;go_quiet (fail);go_wp2_with fail;go_ret;exact⟨rfl,HX.out.drewN _⟩
end
section
open Go.RowKit
attribute [local go_sem] size_bs toList_bs
theorem DJ(l:Bs)(w:World) :
  Calls Tryz.prog 277 #[.string (bs l),.string ⟨#[45]⟩] w fun e w'=>e = .returned (.string (bs (cM l)))∧w=w':=by
 refine(Tryz.strings_TrimPrefix (bs l) ⟨#[45]⟩ w).mono ?_;rintro e w'⟨rfl,rfl⟩;refine⟨?_,rfl⟩;rw[data_bs]
 have h2:Lib.trimPrefix l [45]=cM l:=by
  unfold Lib.trimPrefix Lib.hasPrefix cM gd
  cases l with
  |nil=>rfl
  |cons c r =>
   have hb:(45 == c)=(c == 45):=BEq.comm;show(if(45 == c && true)=true then(c :: r).drop 1 else c :: r)=if(c == 45)=true then r else c :: r;rw[Bool.and_true,hb];rfl
 exact congrArg (fun l=>Ending.returned (Value.string (bs l))) h2
theorem mo(l:Bs)(_hl:l.length≤1000000)(w:World):Calls Tryz.prog 217 #[.string (bs l)] w fun e w'=>e = .returned (.int .i64 (be l:Nat))∧Ext w w':=by
 have HT:=qh (DJ l w);have hd:be l=(cM l).length:=rfl;rw[hd];generalize cM l=s at *;clear _hl hd;go_enter Tryz.func217,Tryz.ntmps217;go_wp2_with fail;refine HT.out.mono ?_;rintro e v0⟨rfl,rfl⟩;go_wp2_with fail;go_ret;exact⟨rfl,Ext.refl _⟩
abbrev jK(g1 g2:Nat):Value := .func (.func 216) #[] #[.pointer (some ⟨g1,0,none⟩),.pointer (some ⟨g2,0,none⟩)]
def ce(f:Fr)(pos:Bool):Int :=
 if aK f≠0 then 1 else if 40<be f.num∨40<be f.den then 4 else if bN (aj f) 0<0∨(pos=true∧bN (aj f) 0=0) then 2 else 0
structure LimF (f:Fr) (pos:Bool) (e:Int):Prop where
 c:aK f≠0→e=1
 d:aK f=0→40<be f.num∨40<be f.den→e=4
 s:aK f=0→¬ 40<be f.num→¬ 40<be f.den→bN (aj f) 0<0∨(pos=true∧bN (aj f) 0=0)→e=2
 k:aK f=0→¬ 40<be f.num→¬ 40<be f.den→¬ (bN (aj f) 0<0∨(pos=true∧bN (aj f) 0=0))→e=0
theorem DK(f:Fr)(pos:Bool):LimF f pos (ce f pos):=by
 refine⟨fun a=>?_,fun a b=>?_,fun a b c d=>?_,fun a b c d=>?_⟩
 ·unfold ce;rw[if_pos a]
 ·unfold ce;rw[if_neg (by simpa using a),if_pos b]
 ·unfold ce;rw[if_neg (by simpa using a),if_neg (by omega),if_pos d]
 ·unfold ce;rw[if_neg (by simpa using a),if_neg (by omega),if_neg d]
theorem vX(f:Fr)(h1:f.num.length≤9000)(h2:f.den.length≤9000)(pos:Bool)(g1 g2:Nat)(w:World)(hE:Env w)(b1:Blk w g1 4 #[.bool pos])(b2:Blk w g2 4 #[.bool false]) :
  Calls Tryz.prog 216 #[fv f,.pointer (some ⟨g1,0,none⟩),.pointer (some ⟨g2,0,none⟩)] w fun e w'=>e = .returned (.int .i64 (ce f pos))∧Ext w w':=by
 have HE:=qh hE;have CK:=qh (jV f (by omega) (by omega));have cm:=lL f ⟨[],[]⟩ (by omega) (by omega) (by simp) (by simp);rw[mn]at cm;have CM:=qh cm;have lf:=DK f pos;have F1:=qh lf.c;have F2:=qh lf.d;have F3:=qh lf.s;have F4:=qh lf.k;have D1:=qh (fun W=>mo f.num (by omega) W);have D2:=qh (fun W=>mo f.den (by omega) W);clear cm lf h1 h2 hE;generalize ce f pos=res at *;obtain⟨n,d⟩:=f;dsimp only at F1 F2 F3 F4 D1 D2;generalize aK ⟨n,d⟩=ck at *;generalize be n=d1 at *;generalize be d=d2 at *;generalize bN (aj ⟨n,d⟩) 0=sg at *;have HV:=qh (Blk.new w 26 #[.string (bs n),.string (bs d)]);have HX:Hid (Ext w (w.alloc (.cells #[.string (bs n),.string (bs d)] 26))):=qh (Ext.new _ _);have B1:=qh (b1.ext HX.out);have B2:=qh (b2.ext HX.out);clear b1 b2;go_enter Tryz.func216,Tryz.ntmps216;obtain⟨u0,u1,_,_⟩:=ah HV.out (Ext.refl _);go_wp2_with fail;refine(CM.out _ (HE.out.ext HX.out)).mono ?_;rintro e v1⟨rfl,hx1⟩;replace HV:=qh (HV.out.ext hx1);replace B1:=qh (B1.out.ext hx1);replace B2:=qh (B2.out.ext hx1);replace HX:=HX.qt hx1;clear hx1;clear u0 u1;obtain⟨u0,u1,_,_⟩:=ah HV.out (Ext.refl _);go_wp2_with fail;refine(CK.out _ (HE.out.ext HX.out)).mono ?_;rintro e v2⟨rfl,hx1⟩;replace HV:=qh (HV.out.ext hx1);replace B1:=qh (B1.out.ext hx1);replace B2:=qh (B2.out.ext hx1);replace HX:=HX.qt hx1;clear hx1;clear u0 u1;obtain⟨u0,u1,_,_⟩:=ah HV.out (Ext.refl _);by_cases y1:ck=0;rotate_left
 ·have g:(ck != 0)=true:=by rw[bne_iff_ne];exact y1
  have e0:=F1.out y1;subst e0;clear F1 F2 F3 F4;go_wp2_with fail;go_ret;exact⟨rfl,HX.out⟩
 subst y1;go_wp2_with fail;refine(D1.out _).mono ?_;rintro e v4⟨rfl,hx1⟩;replace HV:=qh (HV.out.ext hx1);replace B1:=qh (B1.out.ext hx1);replace B2:=qh (B2.out.ext hx1);replace HX:=HX.qt hx1;clear hx1;clear u0 u1;obtain⟨u0,u1,_,_⟩:=ah HV.out (Ext.refl _);by_cases y2:40<d1
 ·have g:decide ((40:Int)<(d1:Int))=true:=by rw[decide_eq_true_iff];omega
  have e0:=F2.out (by trivial) (.inl y2);subst e0;clear F1 F2 F3 F4;go_wp2_with fail;go_ret;exact⟨rfl,HX.out⟩
 have g2:decide ((40:Int)<(d1:Int))=false:=by rw[decide_eq_false_iff_not];omega
 go_wp2_with fail;refine(D2.out _).mono ?_;rintro e v6⟨rfl,hx1⟩;replace HV:=qh (HV.out.ext hx1);replace B1:=qh (B1.out.ext hx1);replace B2:=qh (B2.out.ext hx1);replace HX:=HX.qt hx1;clear hx1;clear u0 u1;obtain⟨u0,u1,_,_⟩:=ah HV.out (Ext.refl _);by_cases y3:40<d2
 ·have g:decide ((40:Int)<(d2:Int))=true:=by rw[decide_eq_true_iff];omega
  have e0:=F2.out (by trivial) (.inr y3);subst e0;clear F1 F2 F3 F4;go_wp2_with fail;go_ret;exact⟨rfl,HX.out⟩
 have g3:decide ((40:Int)<(d2:Int))=false:=by rw[decide_eq_false_iff_not];omega
 have q1:=B1.out.cell 0;have q2:=B2.out.cell 0;simp only[List.getElem?_toArray,List.getElem?_cons_zero]at q1 q2;by_cases y4:sg<0
 ·have g4:decide (sg<0)=true:=decide_eq_true y4;have e0:=F3.out (by trivial) y2 y3 (.inl y4);subst e0;clear F1 F2 F3 F4;go_wp2_with fail;go_quiet (fail);go_wp2_with fail;go_ret;exact⟨rfl,HX.out.drewN _⟩
 have g4:decide (sg<0)=false:=decide_eq_false y4
 cases pos
 ·have e0:=F4.out (by trivial) y2 y3 (by simp;omega);subst e0;clear F1 F2 F3 F4;go_wp2_with fail;go_quiet (fail);go_wp2_with fail;go_ret;exact⟨rfl,HX.out.drewN _⟩
 by_cases y5:sg=0
 ·have g5:(sg == 0)=true:=by rw[beq_iff_eq];exact y5
  have e0:=F3.out (by trivial) y2 y3 (.inr ⟨rfl,y5⟩);subst e0;clear F1 F2 F3 F4 y4 y5;go_wp2_with fail;go_quiet (fail);go_wp2_with fail;go_ret;exact⟨rfl,HX.out.drewN _⟩
 ·have g5:(sg == 0)=false:=by rw[beq_eq_false_iff_ne];exact y5
  have e0:=F4.out (by trivial) y2 y3 (by simp;omega);subst e0;clear F1 F2 F3 F4 y4 y5;go_wp2_with fail;go_quiet (fail);go_wp2_with fail;go_ret;exact⟨rfl,HX.out.drewN _⟩
theorem d6(p q:Bool)(w:World) :
  Calls Tryz.prog 150 #[.bool p,.bool q] w fun e w'=>e = .returned (jK w.heap.size (w.heap.size+1))∧Blk w' w.heap.size 4 #[.bool p]∧Blk w' (w.heap.size+1) 4 #[.bool q]∧Ext w w':=by
 have e1:(w.alloc (.cells #[.bool p] 4)).heap.size=w.heap.size+1:=Array.size_push ..;go_enter Tryz.func150,Tryz.ntmps150;go_wp2_with fail;go_ret;exact⟨rfl,(Blk.new _ _ _).alloc _,Blk.newAt _ _ _ _ e1,(Ext.new _ _).alloc _⟩
end
section
open Go.RowKit
open Go.Maps (Keyed)
attribute [local go_sem] size_bs toList_bs
theorem eR{H:Type}{P:Program}(w:World){ops:Array Oper}{rest:List Oper}{o:Oper}{a:Act}{Q:Exit→Act→World→Prop}
  (hg:o.guard=none) (m x v:Operand) (t:TypeId) (hop:o.op=Op.insert t m x v)
  (k e:TypeId) (K:Keyed P k) (ht:P.underlying t=some (.map k e)) (R:Value→Option (DataW H × List MemPlace)) (b n:Nat) (D:DataW H)
  (hm:a.eval m = .map (some b)) (hown:w.ownsMap P k R b n D) (hn:n<maxLen) (key val:Value) (kl:Lit) (hx:a.eval x=key) (hv:a.eval v=val) (hkey:keyOf P k key=some kl)
  (d:DataW H) (ps:List MemPlace) (hval:R val=some (d,ps))
  (hK:∀w',w'.ownsMap P k R b (n+1) (D.put kl d)→w.grownBy w' (some b)→wpList P ops Q rest (a.put o.dst undef) w') :
  wpList P ops Q (o :: rest) a w:=by
 refine wpList_plain hg fun K' hK'=>?_
 obtain⟨w',hrun,r1,r2⟩:=hown.update K ht hn hkey hval;unfold Oper.wp;simp[execOp,hop,hm,hx,hv,hrun,Result.andThen];exact hK' _ _ (hK w' r1 r2)
theorem gI:Keyed Tryz.prog 3:=Go.Maps.int_keyed Tryz.underlying3
def RK(v:Value):Option (DataW Value × List MemPlace):=some (.held v,[])
abbrev bW(W:World)(b n:Nat)(D:DataW Value):Prop:=W.ownsMap Tryz.prog 3 RK b n D
theorem bW.ext{W W':World}{b n:Nat}{D:DataW Value}(h:bW W b n D)(hx:Ext W W'):bW W' b n D :=
 h.kept (row:=none) ⟨hx.os,hx.tape,hx.output,hx.size,fun i hi _=>hx.block i hi⟩ (by simp)
theorem bW.only{W W':World}{b n g:Nat}{D:DataW Value}(h:bW W b n D)(ho:Only g W W')(hne:b≠g):bW W' b n D:=h.kept ho (by simpa using hne)
def aL(word:Bs)(cl:Int)(bits:List Bool)(num:Value)(code:Bool):List Value := .string (bs word) :: .int .i64 cl :: (bits.map Value.bool++[num,.bool code])
abbrev kv(word:Bs)(cl:Int)(bits:List Bool)(num:Value)(code:Bool):Value := .agg (aL word cl bits num code).toArray
theorem pZ(word:Bs)(cl:Int)(bits:List Bool)(num:Value)(code:Bool)(i:Nat)(u:Bool)(h:i<bits.length) :
  (aL word cl bits num code).toArray.setIfInBounds (2+i) (.bool u)=(aL word cl (bits.set i u) num code).toArray:=by
 unfold aL;rw[Nat.add_comm 2 i,List.setIfInBounds_toArray,List.set_cons_succ,List.set_cons_succ,List.set_append_left _ _ (by simpa using h),List.map_set]
theorem ph(word:Bs)(cl:Int)(bits:List Bool)(num:Value)(code:Bool)(i:Nat)(h:i<bits.length) :
  (aL word cl bits num code).toArray[2+i]? = some (.bool (bits[i]'h)):=by
 unfold aL;rw[Nat.add_comm 2 i,List.getElem?_toArray,List.getElem?_cons_succ,List.getElem?_cons_succ,List.getElem?_append_left (by simpa using h),List.getElem?_map,List.getElem?_eq_getElem h];rfl
theorem zH(word:Bs)(cl:Int)(bits:List Bool)(num:Value)(code:Bool)(h:bits.length=13):(aL word cl bits num code).toArray[16]? = some (.bool code):=by
 unfold aL;rw[List.getElem?_toArray,List.getElem?_cons_succ,List.getElem?_cons_succ,List.getElem?_append_right (by simp[h])];simp[h]
theorem vY{l:List Bool}(h:l.length=13):∃b0 b1 b2 b3 b4 b5 b6 b7 b8 b9 b10 b11 b12,l=[b0,b1,b2,b3,b4,b5,b6,b7,b8,b9,b10,b11,b12]:=by
 match l,h with
 |[b0,b1,b2,b3,b4,b5,b6,b7,b8,b9,b10,b11,b12],_=>exact⟨b0,b1,b2,b3,b4,b5,b6,b7,b8,b9,b10,b11,b12,rfl⟩
def bf(ms:List Nat)(b:List Bool):List Bool:=ms.foldl (fun b i=>b.set i true) b
theorem jW(ms:List Nat):∀b,(bf ms b).length=b.length:=by
 induction ms with
 |nil=>intro b;rfl
 |cons i r ih=>intro b;show(bf r (b.set i true)).length=_;rw[ih,List.length_set]
theorem nO{ms:List Nat}{k:Nat}(h:k<ms.length)(b:List Bool):bf (ms.take (k+1)) b=(bf (ms.take k) b).set (ms[k]'h) true:=by
 unfold bf;rw[List.take_add_one,List.getElem?_eq_getElem h,List.foldl_append];rfl
def bQ:List Bool:=[false,false,false,false,false,false,false,false,false,false,false,false,false]
theorem qa{w:World}{g:Nat}{word:Bs}{cl:Int}{num:Value}{code b0 b1 b2 b3 b4 b5 b6 b7 b8 b9 b10 b11 b12:Bool}(h:Blk w g 144 (aL word cl [b0,b1,b2,b3,b4,b5,b6,b7,b8,b9,b10,b11,b12] num code).toArray) :
  w.cell? ⟨g,0,none⟩=some (.string (bs word))∧w.cell? ⟨g,1,none⟩=some (.int .i64 cl)∧w.cell? ⟨g,2,none⟩=some (.bool b0)∧w.cell? ⟨g,3,none⟩=some (.bool b1)∧w.cell? ⟨g,4,none⟩=some (.bool b2)∧w.cell? ⟨g,5,none⟩=some (.bool b3)∧w.cell? ⟨g,6,none⟩=some (.bool b4)∧w.cell? ⟨g,7,none⟩=some (.bool b5)∧w.cell? ⟨g,8,none⟩=some (.bool b6)∧w.cell? ⟨g,9,none⟩=some (.bool b7)∧w.cell? ⟨g,10,none⟩=some (.bool b8)∧w.cell? ⟨g,11,none⟩=some (.bool b9)∧w.cell? ⟨g,12,none⟩=some (.bool b10)∧w.cell? ⟨g,13,none⟩=some (.bool b11)∧w.cell? ⟨g,14,none⟩=some (.bool b12)∧w.cell? ⟨g,15,none⟩=some num∧w.cell? ⟨g,16,none⟩=some (.bool code):=by
 refine⟨h.cell 0,h.cell 1,h.cell 2,h.cell 3,h.cell 4,h.cell 5,h.cell 6,h.cell 7,h.cell 8,h.cell 9,h.cell 10,h.cell 11,h.cell 12,h.cell 13,h.cell 14,h.cell 15,h.cell 16⟩
theorem fU{w:World}{g:Nat}{xs ys:List Value}(h:Blk w g 144 xs.toArray)(hl:xs.length=ys.length):Blk (w.setCells g 0 ys) g 144 ys.toArray:=by
 have:=Blk.sets ys 0 w xs h (by omega);unfold aW at this
 rw[List.take_zero,List.nil_append,List.drop_of_length_le (by omega),List.append_nil]at this
 exact this
theorem iE{fn:Func}{a:Tmp}(h:fn.results=#[.cell a 144])(tmps:Array Value)(w:World)(g:Nat){word:Bs}{cl:Int}{num:Value}{code:Bool}{bits:List Bool}(hl:bits.length=13)(ha:tmps.getD a undef = .pointer (some ⟨g,0,none⟩))(hb:Blk w g 144 (aL word cl bits num code).toArray) :
  (results fn tmps).run Tryz.prog w = .ok (kv word cl bits num code) w:=by
 obtain⟨b0,b1,b2,b3,b4,b5,b6,b7,b8,b9,b10,b11,b12,rfl⟩:=vY hl;obtain⟨q0,q1,q2,q3,q4,q5,q6,q7,q8,q9,q10,q11,q12,q13,q14,q15,q16⟩:=qa hb;unfold results;rw[h];simp only[List.mapM_toArray,List.mapM_cons,List.mapM_nil,ha];go_simp;rfl
end
section
open Go.RowKit
attribute [local go_sem] size_bs toList_bs
theorem kc(word:Bs)(cl:Int)(bits:List Bool)(num:Value)(code:Bool)(hn:num.oneCell'=true):(aL word cl bits num code).toArray.all (·.oneCell')=true:=by
 unfold aL;simp[Value.oneCell'];exact hn
theorem gu(word:Bs)(cl:Int)(bits:List Bool)(num:Value)(code:Bool)(h:bits.length=13):(aL word cl bits num code).length=17:=by
 unfold aL;simp[h]
theorem jX{w:World}{g:Nat}{xs:List Value}(h:Blk w g 144 xs.toArray):w.rangeAt g 0 xs:=fun j v hv=>by rw[Nat.zero_add,h.cell j,List.getElem?_toArray];exact hv
theorem ff{w:World}{g n:Nat}{xs:List Value}(h:Blk w g 144 xs.toArray)(hx:n=xs.length):w.there g 0 n:=fun j hj=>by
 have hj2:j<xs.length:=by omega
 rw[Nat.zero_add,h.cell j,h.frozen j,List.getElem?_toArray,List.getElem?_eq_getElem hj2];exact⟨rfl,rfl⟩
theorem zI(word:Bs)(cl:Int)(ms:List Nat)(A:Option Addr)(c:Nat)(w:World)(hM:RdI w A ms)(hb:∀x ∈ ms,x<13)(hn:ms.length≤1000) :
  Calls Tryz.prog 151 #[.string (bs word),.int .i64 cl,.map none,.slice A ms.length c] w fun e w'=>e = .returned (kv word cl (bf ms bQ) (.map none) false)∧Ext w w':=by
 have HM:=qh hM;have HB:=qh hb;obtain⟨bits,hbits⟩:∃b,b=bQ:=⟨_,rfl⟩;have HL:Hid (bits.length=13):=qh (by rw[hbits];rfl);have G8:=qh ((Blk.new w 144 (aL [] 0 bQ (.map none) false).toArray).alloc (.cells (aL word cl bits (.map none) false).toArray 144));have G9:=qh (Blk.newAt (w.alloc (.cells (aL [] 0 bQ (.map none) false).toArray 144)) 144 (aL word cl bits (.map none) false).toArray (w.heap.size+1) (by simp));have HX:Hid (Ext w ((w.alloc (.cells (aL [] 0 bQ (.map none) false).toArray 144)).alloc (.cells (aL word cl bits (.map none) false).toArray 144))):=qh ((Ext.new _ _).alloc _);have hrg:∀wx:World,(Instr.range 142 (.map none)).run Tryz.prog wx=_:=fun wx=>run_range_nilMap wx 142 3 204 Tryz.underlying142
 have hnx:∀(wx:World) ty,(Instr.next (.pointer (some ⟨wx.heap.size,0,none⟩)) false ty).run Tryz.prog (wx.alloc (.mapIter none 0 #[] 0))=_:=fun wx ty=>run_next_nilMap wx ty 0 0 #[]
 rw[hbits]at G8 G9 HX;clear hM hb;go_enter Tryz.func151,Tryz.ntmps151;go_upto_region 2 with fail;dsimp only[aL,bQ,List.map_cons,List.map_nil,List.cons_append,List.nil_append]at G8 G9 HX
 generalize hW2:(w.alloc (.cells #[Value.string { data:=#[] },Value.int IntKind.i64 0,Value.bool false,Value.bool false,Value.bool false,Value.bool false,Value.bool false,Value.bool false,Value.bool false,Value.bool false,Value.bool false,Value.bool false,Value.bool false,Value.bool false,Value.bool false,Value.map none,Value.bool false] 144)).alloc
      (Obj.cells #[Value.string (bs word),Value.int IntKind.i64 cl,Value.bool false,Value.bool false,Value.bool false,Value.bool false,Value.bool false,Value.bool false,Value.bool false,Value.bool false,Value.bool false,Value.bool false,Value.bool false,Value.bool false,Value.bool false,Value.map none,Value.bool false] 144)=W2
 replace HX:Hid (Ext w W2):=by rw[←hW2];exact HX
 replace G8:Hid (Blk W2 w.heap.size 144 (aL [] 0 bQ (.map none) false).toArray):=by rw[←hW2];exact G8
 replace G9:Hid (Blk W2 (w.heap.size+1) 144 (aL word cl bits (.map none) false).toArray):=by rw[←hW2,hbits];exact G9
 have hrg2:=hrg W2;have hnx2:=hnx W2;clear hW2 hrg hnx;go_wp2_with fail;refine wp_loop_rounds 1 ?_;rw[rounds_succ];go_wp2_with fail;replace HX:=qh (HX.out.alloc (.mapIter none 0 #[] 0));replace G8:=qh (G8.out.alloc (.mapIter none 0 #[] 0));replace G9:=qh (G9.out.alloc (.mapIter none 0 #[] 0));clear hrg2 hnx2;go_loopw [28,12] (fun i _ wr=>∃k:Nat,k≤ms.length∧i = .int .i64 k∧Ext w wr∧Blk wr w.heap.size 144 (aL [] 0 bQ (.map none) false).toArray∧Blk wr (w.heap.size+1) 144 (aL word cl (bf (ms.take k) bits) (.map none) false).toArray) (fun i _ _=>ms.length-(intOf i).toNat)
 case atStart=>exact⟨0,by omega,rfl,HX.out,G8.out,G9.out⟩
 case round =>
  clear HX G8 G9;obtain⟨k,hk,rfl,hx,h8,h9⟩:=hrel;have HX:=qh hx;have G8:=qh h8;have G9:=qh h9;clear hx h8 h9;by_cases hlt:k<ms.length
  ·obtain⟨b,o,rfl,hb,c0⟩:=(HM.out.ext HX.out).at_ hlt;have hx13:=HB.out _ (List.getElem_mem hlt);have hlen:(bf (ms.take k) bits).length=13:=by rw[jW];exact HL.out
   have hs:bf (ms.take (k+1)) bits=(bf (ms.take k) bits).set (ms[k]'hlt) true:=nO hlt bits;have N9:=G9.out.set_ (2+ms[k]'hlt) (.bool true);rw[pZ _ _ _ _ _ _ _ (by omega),←hs]at N9;have q0:=G9.out.cell (2+ms[k]'hlt);rw[ph _ _ _ _ _ _ (by omega)]at q0;have f:=fun k=>G9.out.frozen k
   obtain⟨bb,q⟩:∃bb,wr.cell? ⟨w.heap.size+1,2+ms[k]'hlt,none⟩=some (.bool bb):=⟨_,q0⟩;clear q0;have N9h:=qh N9;clear N9 hs;generalize ms[k]'hlt=x at *;have hki:(k:Int)<(ms.length:Int):=by omega
   have hx1:(x:Int)<13:=by omega
   have N8:=qh (G8.out.far (p:=⟨w.heap.size+1,2+x,none⟩) (by simp) (.bool true));have NX:=qh (HX.out.setCell (p:=⟨w.heap.size+1,2+x,none⟩) (by simp) (.bool true));clear hlen;go_wp2_with fail;exact⟨⟨k+1,by omega,by go_num,NX.out,N8.out,N9h.out⟩,by simp[intOf];omega⟩
  ·obtain rfl:k=ms.length:=by omega
   have hlen:(bf (ms.take ms.length) bits).length=13:=by rw[jW];exact HL.out
   rw[List.take_length]at G9 hlen;have hrg:=jX G9.out;have hth:wr.there w.heap.size 0 (aL word cl (bf ms bits) (.map none) false).toArray.size:=ff G8.out (by rw[List.size_toArray,gu _ _ _ _ _ hlen];rfl);have hs1:(Tryz.prog.info? 144).map (·.size)=some (aL word cl (bf ms bits) (.map none) false).length:=by rw[gu _ _ _ _ _ hlen];kernel_rfl
   have hs2:(Tryz.prog.info? 144).map (·.size)=some (aL word cl (bf ms bits) (.map none) false).toArray.size:=hs1;have hoc:=kc word cl (bf ms bits) (.map none) false rfl;have O8:=qh (fU G8.out (ys:=aL word cl (bf ms bits) (.map none) false) (by unfold aL;simp[hlen,bQ]));have HS:=qh (cV (aL word cl (bf ms bits) (.map none) false) 0 wr () HX.out (Nat.le_refl _));have HR:=qh hlen;clear hlen hk hlt HB HM G8 G9;go_wp2_with (first|refine wpList_load_mid rfl 144 _ rfl (w.heap.size+1) 0 rfl _ _ hrg Tryz.underlying144 rfl hs1 ?_|refine wpList_store_mid rfl 144 _ _ rfl w.heap.size 0 _ rfl rfl hth hs2 hoc ?_|fail);refine bodyPost_ret (iE rfl _ _ w.heap.size HR.out rfl O8.out) rfl ?_;exact⟨by rw[hbits],HS.out⟩
end
section
open Go.RowKit
open Go.Maps (Keyed)
attribute [local go_sem] size_bs toList_bs
def rN(D:DataW Value):Prop:=∀x:Int,Maps.has D (.int .i64 x)=true→0≤x∧x<13
theorem xC:rN (.map []):=fun x h=>by simp[Maps.has]at h
theorem xD{D:DataW Value}(h:rN D)(k:Int)(h0:0≤k∧k<13)(d:DataW Value):rN (D.put (.int .i64 k) d):=fun x hx=>by
 by_cases e:x=k
 ·subst e;exact h0
 ·rw[Maps.has_put_other (by simpa using e)]at hx;exact h x hx
theorem E8(k:Int)(h:0≤k∧k<100):(Lit.int .i64 k).wf=true:=WalkArith.wf_i64 (by omega)
theorem mp(k:Int)(h:0≤k∧k<100):keyOf Tryz.prog 3 (.int .i64 k)=some (.int .i64 k):=Go.Maps.keyOf_int_mk Tryz.underlying3 (E8 k h)
theorem DL{w:World}(cs:List Value)(ms:List Nat)(h:cs=icells ms):RdI (w.alloc (.cells cs.toArray 3)) (some ⟨w.heap.size,0,none⟩) ms:=by
 subst h;exact Reads.lit (by simp[icells])
abbrev fw:Value := .func (.func 151) #[] #[]
abbrev FT:TypeId:=207
abbrev MT:TypeId:=142
abbrev pi:TypeId:=204
end
section
open Go.RowKit
section
variable {P:Program} {ops:Array Oper} {Q:Exit→Act→World→Prop} {md:Region.Mode}
theorem kT{Inv:Nat→Array Bool→Act→World→Prop}(hend:∀f listed a w,Inv f listed a w→Region.ready md ops listed=[]→Q .normal a w)
  (hz:∀listed a w,Inv 0 listed a w→Region.ready md ops listed=[])
  (hstep:∀f listed a w i,Inv (f+1) listed a w→i ∈ Region.ready md ops listed→wpOp P ops Q i (Inv f (listed.setIfInBounds i true)) a w) :
  ∀f listed a w,Inv f listed a w→wpAny P md ops Q f listed a w
 |0,listed,a,w,h=>⟨hz listed a w h,hend 0 listed a w h (hz listed a w h)⟩
 |f+1,listed,a,w,h=>⟨hend (f+1) listed a w h,fun i hi=>wpOp_mono (fun a' w' h'=>kT hend hz hstep f _ a' w' h') (hstep f listed a w i h hi)⟩
theorem cX{listed:Array Bool}{i:Nat}(hi:i ∈ Region.ready md ops listed):i<ops.size:=by
 unfold Region.ready at hi;rw[List.mem_filter,List.mem_range]at hi;exact hi.1
theorem cN{listed:Array Bool}{i:Nat}(hi:i ∈ Region.ready md ops listed):listed.getD i true=false:=by
 unfold Region.ready at hi;rw[List.mem_filter,Bool.and_eq_true]at hi;simpa using hi.2.1
theorem bq{listed:Array Bool}{i p:Nat}(hi:i ∈ Region.ready md ops listed){o:Oper}(ho:ops[i]? = some o)(hp:(o.after.toList.any fun e=>e.on == p && Region.binds md e)=true):listed.getD p false=true:=by
 unfold Region.ready at hi;rw[List.mem_filter,Bool.and_eq_true,ho]at hi;have h:=hi.2.2;simp only[Option.map_some,Option.getD_some]at h;rw[List.any_eq_true]at hp;obtain⟨e,he,hp⟩:=hp;rw[Array.all_eq_true_iff_forall_mem]at h;have:=h e (Array.mem_toList_iff.1 he);simp only[Bool.and_eq_true,beq_iff_eq]at hp;rw[hp.2]at this
 simp only[Bool.not_true,Bool.false_or]at this
 rw[hp.1]at this
 exact this
theorem kU{listed:Array Bool}(h:listed.toList.count false=0)(_hs:listed.size=ops.size):Region.ready md ops listed=[]:=by
 unfold Region.ready;rw[List.filter_eq_nil_iff];intro i hi hc;rw[Bool.and_eq_true]at hc;have h1:listed.getD i true=false:=by simpa using hc.1
 rw[List.count_eq_zero]at h;apply h;unfold Array.getD at h1;split at h1
 ·rename_i hlt
  have:listed[i]=false:=h1;rw[←this];exact Array.mem_toList_iff.2 (Array.getElem_mem hlt)
 ·cases h1
theorem count_set{listed:Array Bool}{i:Nat}(hi:listed.getD i true=false):(listed.setIfInBounds i true).toList.count false+1=listed.toList.count false:=by
 unfold Array.getD at hi;split at hi
 ·rename_i hlt
  have e:listed.toList[i]'(by simpa using hlt)=false:=by rw[Array.getElem_toList];exact hi
  rw[Array.toList_setIfInBounds,List.count_set (by simpa using hlt),e]
  have h0:0<listed.toList.count false:=by
   rw[List.count_pos_iff,←e];exact List.getElem_mem _
  have h1:((true:Bool) == false)=false:=rfl;simp only[beq_self_eq_true,h1,if_true,Bool.false_eq_true,if_false];omega
 ·cases hi
theorem bG{listed:Array Bool}{i j:Nat}(h:(listed.setIfInBounds i true).getD j false=true):j=i∨listed.getD j false=true:=by
 by_cases e:j=i
 ·exact .inl e
 ·right
  unfold Array.getD at h ⊢;split at h
  ·rename_i hlt
   rw[Array.size_setIfInBounds]at hlt;rw[dif_pos hlt];have h2:(listed.setIfInBounds i true)[j]'(by rw[Array.size_setIfInBounds];exact hlt)=true:=h;rw[Array.getElem_setIfInBounds_ne _ (by omega)]at h2;exact h2
  ·cases h
theorem kV{listed:Array Bool}(hacc:((List.range ops.size).all fun i=>match ops[i]? with|some o=>o.after.toList.all (fun e=>decide (e.on<i))|none=>true)=true)(h:Region.ready md ops listed=[])(hs:listed.size=ops.size) :
  ∀i,i<ops.size→listed.getD i false=true:=by
 intro i;induction i using Nat.strongRecOn with
 |ind i ih =>
  intro hi
  cases hl:listed.getD i false
  ·exfalso
   have hl2:listed.getD i true=false:=by
    have hlt:i<listed.size:=by omega
    rw[Array.getD_eq_getD_getElem?,Array.getElem?_eq_getElem hlt]at hl ⊢;exact hl
   rw[List.all_eq_true]at hacc;have h1:=hacc i (List.mem_range.2 hi)
   have:i ∈ Region.ready md ops listed:=by
    unfold Region.ready;rw[List.mem_filter,Bool.and_eq_true];refine⟨List.mem_range.2 hi,by rw[hl2];rfl,?_⟩;rw[Array.getElem?_eq_getElem hi]at h1 ⊢;simp only[Option.map_some,Option.getD_some];rw[Array.all_eq_true_iff_forall_mem];intro e he;rw[List.all_eq_true]at h1;have h2:=of_decide_eq_true (h1 e (Array.mem_toList_iff.2 he));rw[ih e.on h2 (by omega),Bool.or_true]
   rw[h]at this
   cases this
  ·rfl
end
end
end Go.Proofs.YthgpheopnhajaaaGreatDoor
