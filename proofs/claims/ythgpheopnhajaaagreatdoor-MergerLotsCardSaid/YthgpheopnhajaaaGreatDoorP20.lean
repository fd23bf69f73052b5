/- The seat's texts, part P20. -/
import Derived.Test.YthgpheopnhajaaaGreatDoorP16
import Derived.Test.YthgpheopnhajaaaGreatDoorP17
import Derived.Test.YthgpheopnhajaaaGreatDoorP18
import Derived.Test.YthgpheopnhajaaaGreatDoorP19
import Derived.Deep.RegionHeld3
import Derived.BigQuiet
import Derived.Deep.MidRow
set_option maxRecDepth 100000
set_option maxHeartbeats 8000000
namespace Go.Proofs.YthgpheopnhajaaaGreatDoor
section
open Go.RowKit
attribute [local go_sem] size_bs toList_bs
def dj(f:Fr)(p q:Bool):Int :=
 if aK f≠0 then 1 else if 40<be f.num∨40<be f.den then 4 else if bN (aj f) 0<0∨(p=true∧bN (aj f) 0=0)∨(q=true∧0<bN (aj f) 1) then 2 else 0
theorem pm(f:Fr)(p:Bool):dj f p false=ce f p:=by
 unfold dj ce;simp
structure LimP (f:Fr) (e:Int):Prop where
 c:aK f≠0→e=1
 d:aK f=0→40<be f.num∨40<be f.den→e=4
 s:aK f=0→¬ 40<be f.num→¬ 40<be f.den→bN (aj f) 0<0→e=2
 t:aK f=0→¬ 40<be f.num→¬ 40<be f.den→0<bN (aj f) 1→e=2
 k:aK f=0→¬ 40<be f.num→¬ 40<be f.den→¬ bN (aj f) 0<0→¬ 0<bN (aj f) 1→e=0
theorem Ih(f:Fr):LimP f (dj f false true):=by
 refine⟨fun a=>?_,fun a b=>?_,fun a b c d=>?_,fun a b c d=>?_,fun a b c d e=>?_⟩
 ·unfold dj;rw[if_pos a]
 ·unfold dj;rw[if_neg (by simpa using a),if_pos b]
 ·unfold dj;rw[if_neg (by simpa using a),if_neg (by omega),if_pos (.inl d)]
 ·unfold dj;rw[if_neg (by simpa using a),if_neg (by omega),if_pos (.inr (.inr ⟨rfl,d⟩))]
 ·unfold dj;rw[if_neg (by simpa using a),if_neg (by omega),if_neg (by simp;exact⟨by omega,by omega⟩)]
theorem wh(p q:Rat):bN p q = -1∨bN p q=0∨bN p q=1:=by
 unfold bN;split
 ·exact .inl rfl
 ·split
  ·exact .inr (.inl rfl)
  ·exact .inr (.inr rfl)
theorem DR(f:Fr)(h1:f.num.length≤9000)(h2:f.den.length≤9000)(g1 g2:Nat)(w:World)(hE:Env w)(b1:Blk w g1 4 #[.bool false])(b2:Blk w g2 4 #[.bool true]) :
  Calls Tryz.prog 216 #[fv f,.pointer (some ⟨g1,0,none⟩),.pointer (some ⟨g2,0,none⟩)] w fun e w'=>e = .returned (.int .i64 (dj f false true))∧Ext w w':=by
 have HE:=qh hE;have CK:=qh (jV f (by omega) (by omega));have cm:=lL f ⟨[],[]⟩ (by omega) (by omega) (by simp) (by simp);rw[mn]at cm;have CM:=qh cm;have on:=o8 [49] (by simp);rw[i6]at on;have ol:(bz ((1:Int):Rat)).num.length≤20000∧(bz ((1:Int):Rat)).den.length≤20000:=by decide +kernel
 have cm1:=lL f (bz ((1:Int):Rat)) (by omega) (by omega) ol.1 ol.2;have e1:aj (bz ((1:Int):Rat))=1:=by rw[fE];rfl
 rw[e1]at cm1;have CM1:=qh cm1;have ON:=qh on;have lf:=Ih f;have F1:=qh lf.c;have F2:=qh lf.d;have F3:=qh lf.s;have F5:=qh lf.t;have F4:=qh lf.k;have D1:=qh (fun W=>mo f.num (by omega) W);have D2:=qh (fun W=>mo f.den (by omega) W);clear cm lf h1 h2 hE cm1 on ol e1;generalize dj f false true=res at *;generalize bz ((1:Int):Rat)=one at *;obtain⟨n,d⟩:=f;obtain⟨on,od⟩:=one;dsimp only at F1 F2 F3 F4 F5 D1 D2;generalize aK ⟨n,d⟩=ck at *;generalize be n=d1 at *;generalize be d=d2 at *;have hsg:=qh (wh (aj ⟨n,d⟩) 0);generalize bN (aj ⟨n,d⟩) 0=sg at *;generalize bN (aj ⟨n,d⟩) 1=s1 at *;have HV:=qh (Blk.new w 26 #[.string (bs n),.string (bs d)]);have HX:Hid (Ext w (w.alloc (.cells #[.string (bs n),.string (bs d)] 26))):=qh (Ext.new _ _);have B1:=qh (b1.ext HX.out);have B2:=qh (b2.ext HX.out);clear b1 b2;go_enter Tryz.func216,Tryz.ntmps216;obtain⟨u0,u1,_,_⟩:=ah HV.out (Ext.refl _);go_wp2_with fail;refine(CM.out _ (HE.out.ext HX.out)).mono ?_;rintro e v1⟨rfl,hx1⟩;replace HV:=qh (HV.out.ext hx1);replace B1:=qh (B1.out.ext hx1);replace B2:=qh (B2.out.ext hx1);replace HX:=HX.qt hx1;clear hx1;clear u0 u1;obtain⟨u0,u1,_,_⟩:=ah HV.out (Ext.refl _);go_wp2_with fail;refine(CK.out _ (HE.out.ext HX.out)).mono ?_;rintro e v2⟨rfl,hx1⟩;replace HV:=qh (HV.out.ext hx1);replace B1:=qh (B1.out.ext hx1);replace B2:=qh (B2.out.ext hx1);replace HX:=HX.qt hx1;clear hx1;clear u0 u1;obtain⟨u0,u1,_,_⟩:=ah HV.out (Ext.refl _);by_cases y1:ck=0;rotate_left
 ·have g:(ck != 0)=true:=by rw[bne_iff_ne];exact y1
  have e0:=F1.out y1;subst e0;clear F1 F2 F3 F4 F5;go_wp2_with fail;go_ret;exact⟨rfl,HX.out⟩
 subst y1;go_wp2_with fail;refine(D1.out _).mono ?_;rintro e v4⟨rfl,hx1⟩;replace HV:=qh (HV.out.ext hx1);replace B1:=qh (B1.out.ext hx1);replace B2:=qh (B2.out.ext hx1);replace HX:=HX.qt hx1;clear hx1;clear u0 u1;obtain⟨u0,u1,_,_⟩:=ah HV.out (Ext.refl _);by_cases y2:40<d1
 ·have g:decide ((40:Int)<(d1:Int))=true:=by rw[decide_eq_true_iff];omega
  have e0:=F2.out (by trivial) (.inl y2);subst e0;clear F1 F2 F3 F4 F5;go_wp2_with fail;go_ret;exact⟨rfl,HX.out⟩
 have gg2:decide ((40:Int)<(d1:Int))=false:=by rw[decide_eq_false_iff_not];omega
 go_wp2_with fail;refine(D2.out _).mono ?_;rintro e W6⟨rfl,hx1⟩;replace HV:=qh (HV.out.ext hx1);replace B1:=qh (B1.out.ext hx1);replace B2:=qh (B2.out.ext hx1);replace HX:=HX.qt hx1;clear hx1;clear u0 u1;obtain⟨u0,u1,_,_⟩:=ah HV.out (Ext.refl _);by_cases y3:40<d2
 ·have g:decide ((40:Int)<(d2:Int))=true:=by rw[decide_eq_true_iff];omega
  have e0:=F2.out (by trivial) (.inr y3);subst e0;clear F1 F2 F3 F4 F5;go_wp2_with fail;go_ret;exact⟨rfl,HX.out⟩
 have g3:decide ((40:Int)<(d2:Int))=false:=by rw[decide_eq_false_iff_not];omega
 have q1:=B1.out.cell 0;have q2:=B2.out.cell 0;simp only[List.getElem?_toArray,List.getElem?_cons_zero]at q1 q2;by_cases y4:sg<0
 ·have g4:decide (sg<0)=true:=decide_eq_true y4;have e0:=F3.out (by trivial) y2 y3 y4;subst e0;clear F1 F2 F3 F4 F5;go_wp2_with fail;go_quiet (fail);go_wp2_with fail;go_ret;exact⟨rfl,HX.out.drewN _⟩
 have g4:decide (sg<0)=false:=decide_eq_false y4;have HR:Hid ((0<s1→res=2)∧(¬ 0<s1→res=0)):=qh ⟨F5.out (by trivial) y2 y3,fun h=>F4.out (by trivial) y2 y3 (by omega) (by omega)⟩;clear F1 F2 F3 F4 F5 CM CK D1 D2;go_upto_region 6 with fail;obtain rfl|rfl:sg=0∨sg=1:=by have:=hsg.out;omega
 ·skip;refine wp_region_held_drew (S:=fun w'=>w'.cell? ⟨w.heap.size,0,none⟩=some (.string (bs n))∧w'.cell? ⟨w.heap.size,1,none⟩=some (.string (bs d))∧w'.cell? ⟨g1,0,none⟩=some (.bool false)∧w'.cell? ⟨g2,0,none⟩=some (.bool true)) (by kernel_rfl) ⟨u0,u1,q1,q2⟩ (fun hHeld=>?_);have HD:Hid (Ext W6 W6.drew):=qh (Ext.refl W6).drew;refine tk 0 (.int .i64 0) rfl (by kernel_rfl) (fun _ _ _ h=>h) (Or.inl ⟨by kernel_rfl,?_⟩) (by assumption) ?_
  ·intro w hSw;(try dsimp only at hSw)
   obtain⟨s0,s1,s2,s3⟩:=hSw;go_simp
  (try simp only[p4])
  refine tk 1 (.bool false) rfl (by kernel_rfl) (fun _ _ _ h=>h) (Or.inl ⟨by kernel_rfl,?_⟩) (by assumption) ?_
  ·intro w hSw;(try dsimp only at hSw)
   obtain⟨s0,s1,s2,s3⟩:=hSw;go_simp
  (try simp only[p4])
  refine tk 2 (.bool false) rfl (by kernel_rfl) (fun _ _ _ h=>h) (Or.inl ⟨by kernel_rfl,?_⟩) (by assumption) ?_
  ·intro w hSw;(try dsimp only at hSw)
   obtain⟨s0,s1,s2,s3⟩:=hSw;go_simp
  (try simp only[p4])
  refine tk 3 (.bool false) rfl (by kernel_rfl) (fun _ _ _ h=>h) (Or.inl ⟨by kernel_rfl,?_⟩) (by assumption) ?_
  ·intro w hSw;(try dsimp only at hSw)
   obtain⟨s0,s1,s2,s3⟩:=hSw;go_simp
  (try simp only[p4])
  refine tk 4 (.bool false) rfl (by kernel_rfl) (fun _ _ _ h=>h) (Or.inl ⟨by kernel_rfl,?_⟩) (by assumption) ?_
  ·intro w hSw;(try dsimp only at hSw)
   obtain⟨s0,s1,s2,s3⟩:=hSw;go_simp
  (try simp only[p4])
  refine tk 5 (undef) rfl (by kernel_rfl) (fun _ _ _ h=>h) (Or.inr ⟨by kernel_rfl,rfl⟩) (by assumption) ?_;(try simp only[p4])
  refine tk 6 (undef) rfl (by kernel_rfl) (fun _ _ _ h=>h) (Or.inr ⟨by kernel_rfl,rfl⟩) (by assumption) ?_;(try simp only[p4])
  refine tk 7 (.bool false) rfl (by kernel_rfl) (fun _ _ _ h=>h) (Or.inl ⟨by kernel_rfl,?_⟩) (by assumption) ?_
  ·intro w hSw;(try dsimp only at hSw)
   obtain⟨s0,s1,s2,s3⟩:=hSw;go_simp
  (try simp only[p4])
  refine tk 8 (.bool false) rfl (by kernel_rfl) (fun _ _ _ h=>h) (Or.inl ⟨by kernel_rfl,?_⟩) (by assumption) ?_
  ·intro w hSw;(try dsimp only at hSw)
   obtain⟨s0,s1,s2,s3⟩:=hSw;go_simp
  (try simp only[p4])
  refine tk 9 (.bool false) rfl (by kernel_rfl) (fun _ _ _ h=>h) (Or.inl ⟨by kernel_rfl,?_⟩) (by assumption) ?_
  ·intro w hSw;(try dsimp only at hSw)
   obtain⟨s0,s1,s2,s3⟩:=hSw;go_simp
  (try simp only[p4])
  refine tk 10 (.bool true) rfl (by kernel_rfl) (fun _ _ _ h=>h) (Or.inl ⟨by kernel_rfl,?_⟩) (by assumption) ?_
  ·intro w hSw;(try dsimp only at hSw)
   obtain⟨s0,s1,s2,s3⟩:=hSw;go_simp
  (try simp only[p4])
  refine tk 11 (.bool true) rfl (by kernel_rfl) (fun _ _ _ h=>h) (Or.inl ⟨by kernel_rfl,?_⟩) (by assumption) ?_
  ·intro w hSw;(try dsimp only at hSw)
   obtain⟨s0,s1,s2,s3⟩:=hSw;go_simp
  (try simp only[p4])
  refine tk 12 (.agg #[.string (bs n),.string (bs d)]) rfl (by kernel_rfl) (fun _ _ _ h=>h) (Or.inl ⟨by kernel_rfl,?_⟩) (by assumption) ?_
  ·intro w hSw;(try dsimp only at hSw)
   obtain⟨s0,s1,s2,s3⟩:=hSw;go_simp
  (try simp only[p4])
  refine wpAnyH_ready (rs:=[13]) (by kernel_rfl) (by simp) ?_;refine AllReadyH.cons rfl (fun K hK=>?_) (AllReadyH.nil);go_simp;refine(ON.out _ (HE.out.ext (HX.out.trans HD.out))).mono ?_;rintro e w5⟨rfl,hx5⟩;replace HD:=HD.qt hx5;clear hx5;refine hK.out _ _ (by obtain⟨u0,u1,_,_⟩:=ah HV.out HD.out;have q1:=(B1.out.ext HD.out).cell 0;have q2:=(B2.out.ext HD.out).cell 0;simp only[List.getElem?_toArray,List.getElem?_cons_zero]at q1 q2;exact⟨u0,u1,q1,q2⟩) (fun hHeld=>?_);clear hK K;(try simp only[p4])
  refine wpAnyH_ready (rs:=[14]) (by kernel_rfl) (by simp) ?_;refine AllReadyH.cons rfl (fun K hK=>?_) (AllReadyH.nil);go_simp;refine(CM1.out _ (HE.out.ext (HX.out.trans HD.out))).mono ?_;rintro e w7⟨rfl,hx7⟩;replace HD:=HD.qt hx7;clear hx7;refine hK.out _ _ (by obtain⟨u0,u1,_,_⟩:=ah HV.out HD.out;have q1:=(B1.out.ext HD.out).cell 0;have q2:=(B2.out.ext HD.out).cell 0;simp only[List.getElem?_toArray,List.getElem?_cons_zero]at q1 q2;exact⟨u0,u1,q1,q2⟩) (fun hHeld=>?_);clear hK K;(try simp only[p4])
  refine tk 15 (.bool (decide (0<s1))) rfl (by kernel_rfl) (fun _ _ _ h=>h) (Or.inl ⟨by kernel_rfl,?_⟩) (by assumption) ?_
  ·intro w hSw;(try dsimp only at hSw)
   obtain⟨s0,s1,s2,s3⟩:=hSw;go_simp
  (try simp only[p4])
  refine tk 16 (.bool (decide (0<s1))) rfl (by kernel_rfl) (fun _ _ _ h=>h) (Or.inl ⟨by kernel_rfl,?_⟩) (by assumption) ?_
  ·intro w hSw;(try dsimp only at hSw)
   obtain⟨s0,s1,s2,s3⟩:=hSw;go_simp
  (try simp only[p4])
  refine tk 17 (.bool (decide (0<s1))) rfl (by kernel_rfl) (fun _ _ _ h=>h) (Or.inl ⟨by kernel_rfl,?_⟩) (by assumption) ?_
  ·intro w hSw;(try dsimp only at hSw)
   obtain⟨s0,s1,s2,s3⟩:=hSw;go_simp
  (try simp only[p4])
  refine tk 18 (.bool (decide (0<s1))) rfl (by kernel_rfl) (fun _ _ _ h=>h) (Or.inl ⟨by kernel_rfl,?_⟩) (by assumption) ?_
  ·intro w hSw;(try dsimp only at hSw)
   obtain⟨s0,s1,s2,s3⟩:=hSw;go_simp
  (try simp only[p4])
  refine wpAnyH_done (by kernel_rfl) ?_ _;replace HX:=qh (HX.out.trans HD.out);by_cases y5:0<s1
  ·have g5:decide (0<s1)=true:=decide_eq_true y5;have e0:=HR.out.1 y5;subst e0;go_wp2_with fail;go_ret;exact⟨rfl,HX.out⟩
  ·have g5:decide (0<s1)=false:=decide_eq_false y5;have e0:=HR.out.2 (by omega);subst e0;go_wp2_with fail;go_ret;exact⟨rfl,HX.out⟩
 ·skip;refine wp_region_held_drew (S:=fun w'=>w'.cell? ⟨w.heap.size,0,none⟩=some (.string (bs n))∧w'.cell? ⟨w.heap.size,1,none⟩=some (.string (bs d))∧w'.cell? ⟨g1,0,none⟩=some (.bool false)∧w'.cell? ⟨g2,0,none⟩=some (.bool true)) (by kernel_rfl) ⟨u0,u1,q1,q2⟩ (fun hHeld=>?_);have HD:Hid (Ext W6 W6.drew):=qh (Ext.refl W6).drew;refine tk 0 (.int .i64 1) rfl (by kernel_rfl) (fun _ _ _ h=>h) (Or.inl ⟨by kernel_rfl,?_⟩) (by assumption) ?_
  ·intro w hSw;(try dsimp only at hSw)
   obtain⟨s0,s1,s2,s3⟩:=hSw;go_simp
  (try simp only[p4])
  refine tk 1 (.bool false) rfl (by kernel_rfl) (fun _ _ _ h=>h) (Or.inl ⟨by kernel_rfl,?_⟩) (by assumption) ?_
  ·intro w hSw;(try dsimp only at hSw)
   obtain⟨s0,s1,s2,s3⟩:=hSw;go_simp
  (try simp only[p4])
  refine tk 2 (.bool false) rfl (by kernel_rfl) (fun _ _ _ h=>h) (Or.inl ⟨by kernel_rfl,?_⟩) (by assumption) ?_
  ·intro w hSw;(try dsimp only at hSw)
   obtain⟨s0,s1,s2,s3⟩:=hSw;go_simp
  (try simp only[p4])
  refine tk 3 (.bool false) rfl (by kernel_rfl) (fun _ _ _ h=>h) (Or.inl ⟨by kernel_rfl,?_⟩) (by assumption) ?_
  ·intro w hSw;(try dsimp only at hSw)
   obtain⟨s0,s1,s2,s3⟩:=hSw;go_simp
  (try simp only[p4])
  refine tk 4 (.bool false) rfl (by kernel_rfl) (fun _ _ _ h=>h) (Or.inl ⟨by kernel_rfl,?_⟩) (by assumption) ?_
  ·intro w hSw;(try dsimp only at hSw)
   obtain⟨s0,s1,s2,s3⟩:=hSw;go_simp
  (try simp only[p4])
  refine tk 5 (undef) rfl (by kernel_rfl) (fun _ _ _ h=>h) (Or.inr ⟨by kernel_rfl,rfl⟩) (by assumption) ?_;(try simp only[p4])
  refine tk 6 (undef) rfl (by kernel_rfl) (fun _ _ _ h=>h) (Or.inr ⟨by kernel_rfl,rfl⟩) (by assumption) ?_;(try simp only[p4])
  refine tk 7 (.bool false) rfl (by kernel_rfl) (fun _ _ _ h=>h) (Or.inl ⟨by kernel_rfl,?_⟩) (by assumption) ?_
  ·intro w hSw;(try dsimp only at hSw)
   obtain⟨s0,s1,s2,s3⟩:=hSw;go_simp
  (try simp only[p4])
  refine tk 8 (.bool false) rfl (by kernel_rfl) (fun _ _ _ h=>h) (Or.inl ⟨by kernel_rfl,?_⟩) (by assumption) ?_
  ·intro w hSw;(try dsimp only at hSw)
   obtain⟨s0,s1,s2,s3⟩:=hSw;go_simp
  (try simp only[p4])
  refine tk 9 (.bool false) rfl (by kernel_rfl) (fun _ _ _ h=>h) (Or.inl ⟨by kernel_rfl,?_⟩) (by assumption) ?_
  ·intro w hSw;(try dsimp only at hSw)
   obtain⟨s0,s1,s2,s3⟩:=hSw;go_simp
  (try simp only[p4])
  refine tk 10 (.bool true) rfl (by kernel_rfl) (fun _ _ _ h=>h) (Or.inl ⟨by kernel_rfl,?_⟩) (by assumption) ?_
  ·intro w hSw;(try dsimp only at hSw)
   obtain⟨s0,s1,s2,s3⟩:=hSw;go_simp
  (try simp only[p4])
  refine tk 11 (.bool true) rfl (by kernel_rfl) (fun _ _ _ h=>h) (Or.inl ⟨by kernel_rfl,?_⟩) (by assumption) ?_
  ·intro w hSw;(try dsimp only at hSw)
   obtain⟨s0,s1,s2,s3⟩:=hSw;go_simp
  (try simp only[p4])
  refine tk 12 (.agg #[.string (bs n),.string (bs d)]) rfl (by kernel_rfl) (fun _ _ _ h=>h) (Or.inl ⟨by kernel_rfl,?_⟩) (by assumption) ?_
  ·intro w hSw;(try dsimp only at hSw)
   obtain⟨s0,s1,s2,s3⟩:=hSw;go_simp
  (try simp only[p4])
  refine wpAnyH_ready (rs:=[13]) (by kernel_rfl) (by simp) ?_;refine AllReadyH.cons rfl (fun K hK=>?_) (AllReadyH.nil);go_simp;refine(ON.out _ (HE.out.ext (HX.out.trans HD.out))).mono ?_;rintro e w5⟨rfl,hx5⟩;replace HD:=HD.qt hx5;clear hx5;refine hK.out _ _ (by obtain⟨u0,u1,_,_⟩:=ah HV.out HD.out;have q1:=(B1.out.ext HD.out).cell 0;have q2:=(B2.out.ext HD.out).cell 0;simp only[List.getElem?_toArray,List.getElem?_cons_zero]at q1 q2;exact⟨u0,u1,q1,q2⟩) (fun hHeld=>?_);clear hK K;(try simp only[p4])
  refine wpAnyH_ready (rs:=[14]) (by kernel_rfl) (by simp) ?_;refine AllReadyH.cons rfl (fun K hK=>?_) (AllReadyH.nil);go_simp;refine(CM1.out _ (HE.out.ext (HX.out.trans HD.out))).mono ?_;rintro e w7⟨rfl,hx7⟩;replace HD:=HD.qt hx7;clear hx7;refine hK.out _ _ (by obtain⟨u0,u1,_,_⟩:=ah HV.out HD.out;have q1:=(B1.out.ext HD.out).cell 0;have q2:=(B2.out.ext HD.out).cell 0;simp only[List.getElem?_toArray,List.getElem?_cons_zero]at q1 q2;exact⟨u0,u1,q1,q2⟩) (fun hHeld=>?_);clear hK K;(try simp only[p4])
  refine tk 15 (.bool (decide (0<s1))) rfl (by kernel_rfl) (fun _ _ _ h=>h) (Or.inl ⟨by kernel_rfl,?_⟩) (by assumption) ?_
  ·intro w hSw;(try dsimp only at hSw)
   obtain⟨s0,s1,s2,s3⟩:=hSw;go_simp
  (try simp only[p4])
  refine tk 16 (.bool (decide (0<s1))) rfl (by kernel_rfl) (fun _ _ _ h=>h) (Or.inl ⟨by kernel_rfl,?_⟩) (by assumption) ?_
  ·intro w hSw;(try dsimp only at hSw)
   obtain⟨s0,s1,s2,s3⟩:=hSw;go_simp
  (try simp only[p4])
  refine tk 17 (.bool (decide (0<s1))) rfl (by kernel_rfl) (fun _ _ _ h=>h) (Or.inl ⟨by kernel_rfl,?_⟩) (by assumption) ?_
  ·intro w hSw;(try dsimp only at hSw)
   obtain⟨s0,s1,s2,s3⟩:=hSw;go_simp
  (try simp only[p4])
  refine tk 18 (.bool (decide (0<s1))) rfl (by kernel_rfl) (fun _ _ _ h=>h) (Or.inl ⟨by kernel_rfl,?_⟩) (by assumption) ?_
  ·intro w hSw;(try dsimp only at hSw)
   obtain⟨s0,s1,s2,s3⟩:=hSw;go_simp
  (try simp only[p4])
  refine wpAnyH_done (by kernel_rfl) ?_ _;replace HX:=qh (HX.out.trans HD.out);by_cases y5:0<s1
  ·have g5:decide (0<s1)=true:=decide_eq_true y5;have e0:=HR.out.1 y5;subst e0;go_wp2_with fail;go_ret;exact⟨rfl,HX.out⟩
  ·have g5:decide (0<s1)=false:=decide_eq_false y5;have e0:=HR.out.2 (by omega);subst e0;go_wp2_with fail;go_ret;exact⟨rfl,HX.out⟩
end
section
open Go.RowKit Go.Shelf
attribute [local go_sem] size_bs toList_bs
theorem aA{w:World}{g:Nat}{cs:Array Value}(h:Blk w g 30 cs):w.rangeAt g 0 cs.toList:=fun j v hv=>by rw[Nat.zero_add,h.cell j,←Array.getElem?_toList];exact hv
end
section
open Go.RowKit Go.Shelf
attribute [local go_sem] size_bs toList_bs
def qZ(f:FactV)(K:Int)(z1 z2:Value):Prop:=∀w:World,(Instr.index 251 (.agg #[Value.string ⟨#[]⟩,Value.string ⟨#[]⟩,Value.string ⟨#[]⟩,Value.string ⟨#[]⟩,Value.string ⟨#[]⟩,Value.string ⟨#[]⟩,Value.string ⟨#[]⟩,Value.string ⟨#[]⟩,Value.string (bs f.qty),Value.string ⟨#[]⟩,Value.string (bs f.amt),Value.string ⟨#[]⟩,Value.string (bs f.fee),Value.string ⟨#[]⟩,Value.string (bs f.price.num),Value.string (bs f.price.den),Value.string (bs f.ratio.num),Value.string (bs f.ratio.den),Value.string (bs f.share.num),Value.string (bs f.share.den),Value.string ⟨#[]⟩,Value.string ⟨#[]⟩,Value.string ⟨#[]⟩,Value.string ⟨#[]⟩,Value.string ⟨#[]⟩,Value.string ⟨#[]⟩]) (.int .i64 K)).run Tryz.prog w = .ok (.agg #[z1,z2]) w
theorem IL(f:FactV)(w:World):(Instr.build 251 #[(4,Value.agg #[Value.string (bs f.qty),Value.string ⟨#[]⟩]),(5,Value.agg #[Value.string (bs f.amt),Value.string ⟨#[]⟩]),(6,Value.agg #[Value.string (bs f.fee),Value.string ⟨#[]⟩]),(7,Value.agg #[Value.string (bs f.price.num),Value.string (bs f.price.den)]),(8,Value.agg #[Value.string (bs f.ratio.num),Value.string (bs f.ratio.den)]),(9,Value.agg #[Value.string (bs f.share.num),Value.string (bs f.share.den)])]).run Tryz.prog w = .ok (Value.agg #[Value.string ⟨#[]⟩,Value.string ⟨#[]⟩,Value.string ⟨#[]⟩,Value.string ⟨#[]⟩,Value.string ⟨#[]⟩,Value.string ⟨#[]⟩,Value.string ⟨#[]⟩,Value.string ⟨#[]⟩,Value.string (bs f.qty),Value.string ⟨#[]⟩,Value.string (bs f.amt),Value.string ⟨#[]⟩,Value.string (bs f.fee),Value.string ⟨#[]⟩,Value.string (bs f.price.num),Value.string (bs f.price.den),Value.string (bs f.ratio.num),Value.string (bs f.ratio.den),Value.string (bs f.share.num),Value.string (bs f.share.den),Value.string ⟨#[]⟩,Value.string ⟨#[]⟩,Value.string ⟨#[]⟩,Value.string ⟨#[]⟩,Value.string ⟨#[]⟩,Value.string ⟨#[]⟩]) w:=by
 kernel_rfl
theorem Bp(f:FactV):qZ f 4 (Value.string (bs f.qty)) (Value.string ⟨#[]⟩):=fun w=>by kernel_rfl
theorem Bq(f:FactV):qZ f 5 (Value.string (bs f.amt)) (Value.string ⟨#[]⟩):=fun w=>by kernel_rfl
theorem Br(f:FactV):qZ f 6 (Value.string (bs f.fee)) (Value.string ⟨#[]⟩):=fun w=>by kernel_rfl
theorem Bu(f:FactV):qZ f 7 (Value.string (bs f.price.num)) (Value.string (bs f.price.den)):=fun w=>by kernel_rfl
theorem Bv(f:FactV):qZ f 8 (Value.string (bs f.ratio.num)) (Value.string (bs f.ratio.den)):=fun w=>by kernel_rfl
theorem Bw(f:FactV):qZ f 9 (Value.string (bs f.share.num)) (Value.string (bs f.share.den)):=fun w=>by kernel_rfl
section
variable (f:FactV) (P O:Value)
theorem je(K:Int)(s1 s2:ByteArray)(hix:qZ f K (.string s1) (.string s2))(w:World):Calls Tryz.prog 158 #[aB f P O,.int .i64 K] w fun e w'=>e = .returned (.agg #[.string s1,.string s2])∧Ext w w':=by
 have HB:=qh ((Blk.new w 30 (af f P O)).alloc (.cells #[.string ⟨#[]⟩,.string ⟨#[]⟩] 26));have HP:=qh (Blk.newAt (w.alloc (.cells (af f P O) 30)) 26 #[.string ⟨#[]⟩,.string ⟨#[]⟩] (w.heap.size+1) (by simp));have HX:Hid (Ext w ((w.alloc (.cells (af f P O) 30)).alloc (.cells #[.string ⟨#[]⟩,.string ⟨#[]⟩] 26))):=qh ((Ext.new _ _).alloc _);have HIX:=qh hix;clear hix;go_enter Tryz.func158,Tryz.ntmps158;go_upto_region 1 with fail;generalize (w.alloc (.cells (af f P O) 30)).alloc (.cells #[.string ⟨#[]⟩,.string ⟨#[]⟩] 26)=W at *;refine wp_region_any (by kernel_rfl) ?_;replace HB:=qh HB.out.drew;replace HP:=qh HP.out.drew;replace HX:=qh HX.out.drew;change wpAny _ _ _ _ _ _ _ W.drew;generalize W.drew=Wd at *;generalize hX7:w.heap.size=X7 at *
 have l9:∀W,Ext Wd W→(Instr.loadAt 24 (.pointer (some ⟨X7,9,none⟩))).run Tryz.prog W = .ok (Value.string (bs f.qty)) W:=fun W hx=>by
  obtain⟨x0,x1,x2,x3,x4,x5,x6,x7,x8,x9,x10,x11,x12,x13,x14,x15,x16,x17,x18,x19,x20⟩:=ae HB.out hx;go_simp
 have l10:∀W,Ext Wd W→(Instr.loadAt 24 (.pointer (some ⟨X7,10,none⟩))).run Tryz.prog W = .ok (Value.string (bs f.amt)) W:=fun W hx=>by
  obtain⟨x0,x1,x2,x3,x4,x5,x6,x7,x8,x9,x10,x11,x12,x13,x14,x15,x16,x17,x18,x19,x20⟩:=ae HB.out hx;go_simp
 have l11:∀W,Ext Wd W→(Instr.loadAt 24 (.pointer (some ⟨X7,11,none⟩))).run Tryz.prog W = .ok (Value.string (bs f.fee)) W:=fun W hx=>by
  obtain⟨x0,x1,x2,x3,x4,x5,x6,x7,x8,x9,x10,x11,x12,x13,x14,x15,x16,x17,x18,x19,x20⟩:=ae HB.out hx;go_simp
 have l12:∀W,Ext Wd W→(Instr.loadAt 26 (.pointer (some ⟨X7,12,none⟩))).run Tryz.prog W = .ok (Value.agg #[Value.string (bs f.price.num),Value.string (bs f.price.den)]) W:=fun W hx=>by
  obtain⟨x0,x1,x2,x3,x4,x5,x6,x7,x8,x9,x10,x11,x12,x13,x14,x15,x16,x17,x18,x19,x20⟩:=ae HB.out hx;go_simp
 have l14:∀W,Ext Wd W→(Instr.loadAt 26 (.pointer (some ⟨X7,14,none⟩))).run Tryz.prog W = .ok (Value.agg #[Value.string (bs f.ratio.num),Value.string (bs f.ratio.den)]) W:=fun W hx=>by
  obtain⟨x0,x1,x2,x3,x4,x5,x6,x7,x8,x9,x10,x11,x12,x13,x14,x15,x16,x17,x18,x19,x20⟩:=ae HB.out hx;go_simp
 have l16:∀W,Ext Wd W→(Instr.loadAt 26 (.pointer (some ⟨X7,16,none⟩))).run Tryz.prog W = .ok (Value.agg #[Value.string (bs f.share.num),Value.string (bs f.share.den)]) W:=fun W hx=>by
  obtain⟨x0,x1,x2,x3,x4,x5,x6,x7,x8,x9,x10,x11,x12,x13,x14,x15,x16,x17,x18,x19,x20⟩:=ae HB.out hx;go_simp
 have f9:∀W:World,(Instr.fieldAt 30 (.pointer (some ⟨X7,0,none⟩)) 9).run Tryz.prog W = .ok (.pointer (some ⟨X7,9,none⟩)) W:=fun W=>by go_simp
 have f10:∀W:World,(Instr.fieldAt 30 (.pointer (some ⟨X7,0,none⟩)) 10).run Tryz.prog W = .ok (.pointer (some ⟨X7,10,none⟩)) W:=fun W=>by go_simp
 have f11:∀W:World,(Instr.fieldAt 30 (.pointer (some ⟨X7,0,none⟩)) 11).run Tryz.prog W = .ok (.pointer (some ⟨X7,11,none⟩)) W:=fun W=>by go_simp
 have f12:∀W:World,(Instr.fieldAt 30 (.pointer (some ⟨X7,0,none⟩)) 12).run Tryz.prog W = .ok (.pointer (some ⟨X7,12,none⟩)) W:=fun W=>by go_simp
 have f13:∀W:World,(Instr.fieldAt 30 (.pointer (some ⟨X7,0,none⟩)) 13).run Tryz.prog W = .ok (.pointer (some ⟨X7,14,none⟩)) W:=fun W=>by go_simp
 have f14:∀W:World,(Instr.fieldAt 30 (.pointer (some ⟨X7,0,none⟩)) 14).run Tryz.prog W = .ok (.pointer (some ⟨X7,16,none⟩)) W:=fun W=>by go_simp
 have st:∀W,Ext Wd W→(Instr.storeAt 26 (.pointer (some ⟨X7+1,0,none⟩)) (Value.agg #[Value.string s1,Value.string s2])).run Tryz.prog W = .ok () ((W.setCell ⟨X7+1,0,none⟩ (.string s1)).setCell ⟨X7+1,1,none⟩ (.string s2)):=fun W hx=>by
  obtain⟨p0,p1,q0,q1⟩:=ah HP.out hx;go_simp
 refine kT (Inv:=GrInv _ _ (fun s=>(#[Value.pointer (some ⟨X7,9,none⟩),Value.string (bs f.qty),Value.agg #[Value.string (bs f.qty),Value.string ⟨#[]⟩],Value.pointer (some ⟨X7,10,none⟩),Value.string (bs f.amt),Value.agg #[Value.string (bs f.amt),Value.string ⟨#[]⟩],Value.pointer (some ⟨X7,11,none⟩),Value.string (bs f.fee),Value.agg #[Value.string (bs f.fee),Value.string ⟨#[]⟩],Value.pointer (some ⟨X7,12,none⟩),Value.agg #[Value.string (bs f.price.num),Value.string (bs f.price.den)],Value.pointer (some ⟨X7,14,none⟩),Value.agg #[Value.string (bs f.ratio.num),Value.string (bs f.ratio.den)],Value.pointer (some ⟨X7,16,none⟩),Value.agg #[Value.string (bs f.share.num),Value.string (bs f.share.den)],Value.agg #[Value.string ⟨#[]⟩,Value.string ⟨#[]⟩,Value.string ⟨#[]⟩,Value.string ⟨#[]⟩,Value.string ⟨#[]⟩,Value.string ⟨#[]⟩,Value.string ⟨#[]⟩,Value.string ⟨#[]⟩,Value.string (bs f.qty),Value.string ⟨#[]⟩,Value.string (bs f.amt),Value.string ⟨#[]⟩,Value.string (bs f.fee),Value.string ⟨#[]⟩,Value.string (bs f.price.num),Value.string (bs f.price.den),Value.string (bs f.ratio.num),Value.string (bs f.ratio.den),Value.string (bs f.share.num),Value.string (bs f.share.den),Value.string ⟨#[]⟩,Value.string ⟨#[]⟩,Value.string ⟨#[]⟩,Value.string ⟨#[]⟩,Value.string ⟨#[]⟩,Value.string ⟨#[]⟩],Value.int .i64 K,Value.agg #[Value.string s1,Value.string s2]]:Array Value).getD (s-5) undef) 5 18 (fun W=>Ext Wd W) (fun W=>∃W0,Ext Wd W0∧Ext ((W0.setCell ⟨X7+1,0,none⟩ (.string s1)).setCell ⟨X7+1,1,none⟩ (.string s2)) W)) ?hend ?hz ?hstep _ _ _ _ (GrInv.start _ (Ext.refl _))
 case hz=>exact fun listed a w' h=>kU (by have:=h.cnt;omega) h.size
 case hend =>
  intro fu listed a w' h hr;obtain⟨ha,hj⟩:=h.fin (by decide) hr (by kernel_rfl);have ha2:a=({ tmps:=#[aB f P O,Value.int .i64 K,Value.pointer (some ⟨X7,0,none⟩),undef,Value.pointer (some ⟨X7+1,0,none⟩),Value.pointer (some ⟨X7,9,none⟩),Value.string (bs f.qty),Value.agg #[Value.string (bs f.qty),Value.string ⟨#[]⟩],Value.pointer (some ⟨X7,10,none⟩),Value.string (bs f.amt),Value.agg #[Value.string (bs f.amt),Value.string ⟨#[]⟩],Value.pointer (some ⟨X7,11,none⟩),Value.string (bs f.fee),Value.agg #[Value.string (bs f.fee),Value.string ⟨#[]⟩],Value.pointer (some ⟨X7,12,none⟩),Value.agg #[Value.string (bs f.price.num),Value.string (bs f.price.den)],Value.pointer (some ⟨X7,14,none⟩),Value.agg #[Value.string (bs f.ratio.num),Value.string (bs f.ratio.den)],Value.pointer (some ⟨X7,16,none⟩),Value.agg #[Value.string (bs f.share.num),Value.string (bs f.share.den)],Value.agg #[Value.string ⟨#[]⟩,Value.string ⟨#[]⟩,Value.string ⟨#[]⟩,Value.string ⟨#[]⟩,Value.string ⟨#[]⟩,Value.string ⟨#[]⟩,Value.string ⟨#[]⟩,Value.string ⟨#[]⟩,Value.string (bs f.qty),Value.string ⟨#[]⟩,Value.string (bs f.amt),Value.string ⟨#[]⟩,Value.string (bs f.fee),Value.string ⟨#[]⟩,Value.string (bs f.price.num),Value.string (bs f.price.den),Value.string (bs f.ratio.num),Value.string (bs f.ratio.den),Value.string (bs f.share.num),Value.string (bs f.share.den),Value.string ⟨#[]⟩,Value.string ⟨#[]⟩,Value.string ⟨#[]⟩,Value.string ⟨#[]⟩,Value.string ⟨#[]⟩,Value.string ⟨#[]⟩],Value.int .i64 K,Value.agg #[Value.string s1,Value.string s2]],defers:=[] }:Act):=ha.trans (by kernel_rfl);clear ha;subst ha2;obtain⟨W0,hx,hx2⟩:=hj;clear h hr;go_wp2_with fail;have HPD:=HP.out.ext hx;have HXD:=HX.out.trans hx;subst hX7;refine bodyPost_ret (dQ rfl _ _ (w.heap.size+1) (.string s1) (.string s2) rfl (((HPD.set_ 0 (.string s1)).set_ 1 (.string s2)).ext hx2)) rfl ?_;exact⟨rfl,(HXD.setCell (p:=⟨w.heap.size+1,0,none⟩) (by show w.heap.size≤w.heap.size+1;omega) _).setCell (p:=⟨w.heap.size+1,1,none⟩) (by show w.heap.size≤w.heap.size+1;omega) _ |>.trans hx2⟩
 case hstep =>
  intro fu listed a w' i h hi
  have hW:i<18→Ext Wd w':=fun hi15=>h.before hi hi15 (by decide) (by
   intro L hcl h18;have a17:L 17:=hcl 18 _ ⟨17,.data⟩ rfl h18 (by simp) rfl;have a15:L 15:=hcl 17 _ ⟨15,.data⟩ rfl a17 (by simp) rfl;have a16:L 16:=hcl 17 _ ⟨16,.data⟩ rfl a17 (by simp) rfl;have a2:L 2:=hcl 15 _ ⟨2,.data⟩ rfl a15 (by simp) rfl;have a5:L 5:=hcl 15 _ ⟨5,.data⟩ rfl a15 (by simp) rfl;have a8:L 8:=hcl 15 _ ⟨8,.data⟩ rfl a15 (by simp) rfl;have a10:L 10:=hcl 15 _ ⟨10,.data⟩ rfl a15 (by simp) rfl;have a12:L 12:=hcl 15 _ ⟨12,.data⟩ rfl a15 (by simp) rfl;have a14:L 14:=hcl 15 _ ⟨14,.data⟩ rfl a15 (by simp) rfl;have a1:L 1:=hcl 2 _ ⟨1,.data⟩ rfl a2 (by simp) rfl;have a0:L 0:=hcl 1 _ ⟨0,.data⟩ rfl a1 (by simp) rfl;have a4:L 4:=hcl 5 _ ⟨4,.data⟩ rfl a5 (by simp) rfl;have a3:L 3:=hcl 4 _ ⟨3,.data⟩ rfl a4 (by simp) rfl;have a7:L 7:=hcl 8 _ ⟨7,.data⟩ rfl a8 (by simp) rfl;have a6:L 6:=hcl 7 _ ⟨6,.data⟩ rfl a7 (by simp) rfl;have a9:L 9:=hcl 10 _ ⟨9,.data⟩ rfl a10 (by simp) rfl;have a11:L 11:=hcl 12 _ ⟨11,.data⟩ rfl a12 (by simp) rfl;have a13:L 13:=hcl 14 _ ⟨13,.data⟩ rfl a14 (by simp) rfl;intro i hi;obtain rfl|rfl|rfl|rfl|rfl|rfl|rfl|rfl|rfl|rfl|rfl|rfl|rfl|rfl|rfl|rfl|rfl|rfl:i=0∨i=1∨i=2∨i=3∨i=4∨i=5∨i=6∨i=7∨i=8∨i=9∨i=10∨i=11∨i=12∨i=13∨i=14∨i=15∨i=16∨i=17:=by omega
   ·exact a0
   ·exact a1
   ·exact a2
   ·exact a3
   ·exact a4
   ·exact a5
   ·exact a6
   ·exact a7
   ·exact a8
   ·exact a9
   ·exact a10
   ·exact a11
   ·exact a12
   ·exact a13
   ·exact a14
   ·exact a15
   ·exact a16
   ·exact a17
   )
  have hlt:i<19:=cX hi;have hbz:∀s,s<5→a.tmps.getD s undef=_:=fun s hs=>h.base' (s:=s) (by show s<23;omega) (.inl hs)
  obtain rfl|rfl|rfl|rfl|rfl|rfl|rfl|rfl|rfl|rfl|rfl|rfl|rfl|rfl|rfl|rfl|rfl|rfl|rfl:i=0∨i=1∨i=2∨i=3∨i=4∨i=5∨i=6∨i=7∨i=8∨i=9∨i=10∨i=11∨i=12∨i=13∨i=14∨i=15∨i=16∨i=17∨i=18:=by omega
  ·have hx:=hW (by omega);have e2:a.tmps.getD 2 undef=Value.pointer (some ⟨X7,0,none⟩):=hbz 2 (by omega);refine aV rfl rfl _ ?_ (h.step hi rfl rfl _ (.inl ⟨by decide,id,id⟩));simp[execOp,av,e2,f9]
  ·have hx:=hW (by omega);have e5:a.tmps.getD 5 undef=Value.pointer (some ⟨X7,9,none⟩):=h.need hi rfl 0 (by show 0<19;decide) (by show 5<23;decide) rfl;refine aV rfl rfl _ ?_ (h.step hi rfl rfl _ (.inl ⟨by decide,id,id⟩));simp[execOp,av,e5,l9 _ hx]
  ·have hx:=hW (by omega);have e6:a.tmps.getD 6 undef=Value.string (bs f.qty):=h.need hi rfl 1 (by show 1<19;decide) (by show 6<23;decide) rfl;refine iH rfl rfl (fn:=221) (args:=#[Value.string (bs f.qty)]) ?_ (nt f.qty w') ?_
   ·simp[execOp,av,resolve,invoke,e6,Deferred.ofValue];rfl
   ·rintro e w2⟨rfl,hx2⟩;exact⟨_,rfl,h.step hi rfl rfl _ (.inl ⟨by decide,fun hh=>hh.trans hx2,fun⟨W0,h1,h2⟩=>⟨W0,h1,h2.trans hx2⟩⟩)⟩
  ·have hx:=hW (by omega);have e2:a.tmps.getD 2 undef=Value.pointer (some ⟨X7,0,none⟩):=hbz 2 (by omega);refine aV rfl rfl _ ?_ (h.step hi rfl rfl _ (.inl ⟨by decide,id,id⟩));simp[execOp,av,e2,f10]
  ·have hx:=hW (by omega);have e8:a.tmps.getD 8 undef=Value.pointer (some ⟨X7,10,none⟩):=h.need hi rfl 3 (by show 3<19;decide) (by show 8<23;decide) rfl;refine aV rfl rfl _ ?_ (h.step hi rfl rfl _ (.inl ⟨by decide,id,id⟩));simp[execOp,av,e8,l10 _ hx]
  ·have hx:=hW (by omega);have e9:a.tmps.getD 9 undef=Value.string (bs f.amt):=h.need hi rfl 4 (by show 4<19;decide) (by show 9<23;decide) rfl;refine iH rfl rfl (fn:=221) (args:=#[Value.string (bs f.amt)]) ?_ (nt f.amt w') ?_
   ·simp[execOp,av,resolve,invoke,e9,Deferred.ofValue];rfl
   ·rintro e w2⟨rfl,hx2⟩;exact⟨_,rfl,h.step hi rfl rfl _ (.inl ⟨by decide,fun hh=>hh.trans hx2,fun⟨W0,h1,h2⟩=>⟨W0,h1,h2.trans hx2⟩⟩)⟩
  ·have hx:=hW (by omega);have e2:a.tmps.getD 2 undef=Value.pointer (some ⟨X7,0,none⟩):=hbz 2 (by omega);refine aV rfl rfl _ ?_ (h.step hi rfl rfl _ (.inl ⟨by decide,id,id⟩));simp[execOp,av,e2,f11]
  ·have hx:=hW (by omega);have e11:a.tmps.getD 11 undef=Value.pointer (some ⟨X7,11,none⟩):=h.need hi rfl 6 (by show 6<19;decide) (by show 11<23;decide) rfl;refine aV rfl rfl _ ?_ (h.step hi rfl rfl _ (.inl ⟨by decide,id,id⟩));simp[execOp,av,e11,l11 _ hx]
  ·have hx:=hW (by omega);have e12:a.tmps.getD 12 undef=Value.string (bs f.fee):=h.need hi rfl 7 (by show 7<19;decide) (by show 12<23;decide) rfl;refine iH rfl rfl (fn:=221) (args:=#[Value.string (bs f.fee)]) ?_ (nt f.fee w') ?_
   ·simp[execOp,av,resolve,invoke,e12,Deferred.ofValue];rfl
   ·rintro e w2⟨rfl,hx2⟩;exact⟨_,rfl,h.step hi rfl rfl _ (.inl ⟨by decide,fun hh=>hh.trans hx2,fun⟨W0,h1,h2⟩=>⟨W0,h1,h2.trans hx2⟩⟩)⟩
  ·have hx:=hW (by omega);have e2:a.tmps.getD 2 undef=Value.pointer (some ⟨X7,0,none⟩):=hbz 2 (by omega);refine aV rfl rfl _ ?_ (h.step hi rfl rfl _ (.inl ⟨by decide,id,id⟩));simp[execOp,av,e2,f12]
  ·have hx:=hW (by omega);have e14:a.tmps.getD 14 undef=Value.pointer (some ⟨X7,12,none⟩):=h.need hi rfl 9 (by show 9<19;decide) (by show 14<23;decide) rfl;refine aV rfl rfl _ ?_ (h.step hi rfl rfl _ (.inl ⟨by decide,id,id⟩));simp[execOp,av,e14,l12 _ hx]
  ·have hx:=hW (by omega);have e2:a.tmps.getD 2 undef=Value.pointer (some ⟨X7,0,none⟩):=hbz 2 (by omega);refine aV rfl rfl _ ?_ (h.step hi rfl rfl _ (.inl ⟨by decide,id,id⟩));simp[execOp,av,e2,f13]
  ·have hx:=hW (by omega);have e16:a.tmps.getD 16 undef=Value.pointer (some ⟨X7,14,none⟩):=h.need hi rfl 11 (by show 11<19;decide) (by show 16<23;decide) rfl;refine aV rfl rfl _ ?_ (h.step hi rfl rfl _ (.inl ⟨by decide,id,id⟩));simp[execOp,av,e16,l14 _ hx]
  ·have hx:=hW (by omega);have e2:a.tmps.getD 2 undef=Value.pointer (some ⟨X7,0,none⟩):=hbz 2 (by omega);refine aV rfl rfl _ ?_ (h.step hi rfl rfl _ (.inl ⟨by decide,id,id⟩));simp[execOp,av,e2,f14]
  ·have hx:=hW (by omega);have e18:a.tmps.getD 18 undef=Value.pointer (some ⟨X7,16,none⟩):=h.need hi rfl 13 (by show 13<19;decide) (by show 18<23;decide) rfl;refine aV rfl rfl _ ?_ (h.step hi rfl rfl _ (.inl ⟨by decide,id,id⟩));simp[execOp,av,e18,l16 _ hx]
  ·have hx:=hW (by omega);have e7:a.tmps.getD 7 undef=Value.agg #[Value.string (bs f.qty),Value.string ⟨#[]⟩]:=h.need hi rfl 2 (by show 2<19;decide) (by show 7<23;decide) rfl;have e10:a.tmps.getD 10 undef=Value.agg #[Value.string (bs f.amt),Value.string ⟨#[]⟩]:=h.need hi rfl 5 (by show 5<19;decide) (by show 10<23;decide) rfl;have e13:a.tmps.getD 13 undef=Value.agg #[Value.string (bs f.fee),Value.string ⟨#[]⟩]:=h.need hi rfl 8 (by show 8<19;decide) (by show 13<23;decide) rfl;have e15:a.tmps.getD 15 undef=Value.agg #[Value.string (bs f.price.num),Value.string (bs f.price.den)]:=h.need hi rfl 10 (by show 10<19;decide) (by show 15<23;decide) rfl;have e17:a.tmps.getD 17 undef=Value.agg #[Value.string (bs f.ratio.num),Value.string (bs f.ratio.den)]:=h.need hi rfl 12 (by show 12<19;decide) (by show 17<23;decide) rfl;have e19:a.tmps.getD 19 undef=Value.agg #[Value.string (bs f.share.num),Value.string (bs f.share.den)]:=h.need hi rfl 14 (by show 14<19;decide) (by show 19<23;decide) rfl;refine aV rfl rfl _ ?_ (h.step hi rfl rfl _ (.inl ⟨by decide,id,id⟩));simp[execOp,av,e7,e10,e13,e15,e17,e19,IL f w']
  ·have hx:=hW (by omega);have e1:a.tmps.getD 1 undef=Value.int .i64 K:=hbz 1 (by omega);refine aV rfl rfl _ ?_ (h.step hi rfl rfl _ (.inl ⟨by decide,id,id⟩));simp[execOp,av,e1]
  ·have hx:=hW (by omega);have e20:a.tmps.getD 20 undef=Value.agg #[Value.string ⟨#[]⟩,Value.string ⟨#[]⟩,Value.string ⟨#[]⟩,Value.string ⟨#[]⟩,Value.string ⟨#[]⟩,Value.string ⟨#[]⟩,Value.string ⟨#[]⟩,Value.string ⟨#[]⟩,Value.string (bs f.qty),Value.string ⟨#[]⟩,Value.string (bs f.amt),Value.string ⟨#[]⟩,Value.string (bs f.fee),Value.string ⟨#[]⟩,Value.string (bs f.price.num),Value.string (bs f.price.den),Value.string (bs f.ratio.num),Value.string (bs f.ratio.den),Value.string (bs f.share.num),Value.string (bs f.share.den),Value.string ⟨#[]⟩,Value.string ⟨#[]⟩,Value.string ⟨#[]⟩,Value.string ⟨#[]⟩,Value.string ⟨#[]⟩,Value.string ⟨#[]⟩]:=h.need hi rfl 15 (by show 15<19;decide) (by show 20<23;decide) rfl;have e21:a.tmps.getD 21 undef=Value.int .i64 K:=h.need hi rfl 16 (by show 16<19;decide) (by show 21<23;decide) rfl;refine aV rfl rfl _ ?_ (h.step hi rfl rfl _ (.inl ⟨by decide,id,id⟩));simp[execOp,av,e20,e21,HIX.out w']
  ·have hx:=h.at_last hi;have e4:a.tmps.getD 4 undef=Value.pointer (some ⟨X7+1,0,none⟩):=hbz 4 (by omega);have e22:a.tmps.getD 22 undef=Value.agg #[Value.string s1,Value.string s2]:=h.need hi rfl 17 (by show 17<19;decide) (by show 22<23;decide) rfl;refine mq rfl rfl ?_ (h.stepN hi rfl rfl (by show 23≤5+18;decide) _ _ (.inr ⟨rfl,_,hx,Ext.refl _⟩));simp[execOp,av,e4,e22,st _ hx]
end
end
end Go.Proofs.YthgpheopnhajaaaGreatDoor
