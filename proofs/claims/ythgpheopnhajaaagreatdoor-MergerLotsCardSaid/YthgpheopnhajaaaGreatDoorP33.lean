/- The seat's texts, part P33. -/
import Derived.Test.YthgpheopnhajaaaGreatDoorP32
set_option maxRecDepth 100000
set_option maxHeartbeats 8000000
namespace Go.Proofs.YthgpheopnhajaaaGreatDoor
section
open Go.RowKit
attribute [local go_sem] size_bs toList_bs
theorem yn(r:Fr)(g:Nat)(w:World)(hA:Blk w g 26 #[.string (bs r.num),.string (bs r.den)]) :
  Calls Tryz.prog 92 #[.slice (some ⟨g,0,none⟩) 1 1] w fun e w'=>e = .returned (.bool (cE r))∧Ext w w':=by
 have HA:=qh hA;clear hA;have HX:Hid (Ext w w):=qh (Ext.refl _);obtain⟨a0,a1,_,_⟩:=ah HA.out (Ext.refl _);by_cases h1:13<r.num.length
 ·have g1:decide ((13:Int)<(r.num.length:Int))=true:=decide_eq_true (by omega)
  rw[CN h1];clear h1;go_enter Tryz.func92,Tryz.ntmps92;go_wp2_with fail;refine wp_loop_rounds 1 ?_;rw[rounds_succ];go_wp2_with fail
  all_goals
   go_ret;exact⟨rfl,HX.out⟩
 have g1:decide ((13:Int)<(r.num.length:Int))=false:=decide_eq_false (by omega)
 by_cases h2:13<r.den.length
 ·have g2:decide ((13:Int)<(r.den.length:Int))=true:=decide_eq_true (by omega)
  rw[CP h2];clear h1 h2;go_enter Tryz.func92,Tryz.ntmps92;go_wp2_with fail;refine wp_loop_rounds 1 ?_;rw[rounds_succ];go_wp2_with fail
  all_goals
   go_ret;exact⟨rfl,HX.out⟩
 have g2:decide ((13:Int)<(r.den.length:Int))=false:=decide_eq_false (by omega)
 have e:cE r=false:=by unfold cE;simp;omega
 rw[e];clear h1 h2 e;go_enter Tryz.func92,Tryz.ntmps92;go_wp2_with fail;refine wp_loop_rounds 2 ?_;rw[rounds_succ];go_wp2_with fail;rw[rounds_succ];go_wp2_with fail
 all_goals
  go_ret;exact⟨rfl,HX.out⟩
theorem dM(r:Fr)(w:World):Calls Tryz.prog 106 #[fv r] w fun e w'=>e = .returned (.bool (cE r))∧Ext w w':=by
 obtain⟨n,d⟩:=r;have HB:=qh (Blk.new w 26 #[.string (bs n),.string (bs d)]);have HX:Hid (Ext w (w.alloc (.cells #[.string (bs n),.string (bs d)] 26))):=qh (Ext.new _ _);obtain⟨a0,a1,_,_⟩:=ah HB.out (Ext.refl _);have HL:=qh (yn ⟨n,d⟩ (w.heap.size+1) ((w.alloc (.cells #[.string (bs n),.string (bs d)] 26)).alloc (.cells #[.string (bs n),.string (bs d)] 26)) (Blk.newAt _ _ _ _ (by simp)));replace HX:=qh (HX.out.alloc (.cells #[.string (bs n),.string (bs d)] 26));go_enter Tryz.func106,Tryz.ntmps106;go_wp2_with fail;refine HL.out.mono ?_;rintro e v1⟨rfl,hx1⟩;replace HX:=HX.qt hx1;clear hx1;go_wp2_with fail;go_ret;exact⟨rfl,HX.out⟩
section
variable (f:FactV) (P O:Value) (w:World)
theorem Hf(h0:24<f.key.length):Calls Tryz.prog 50 #[aB f P O] w fun e w'=>e = .returned (.bool true)∧Ext w w':=by
 have g0:decide ((24:Int)<(f.key.length:Int))=true:=decide_eq_true (by omega)
 clear h0;have HB:=qh (Blk.new w 30 (af f P O));have HX:Hid (Ext w (w.alloc (.cells (af f P O) 30))):=qh (Ext.new _ _);go_enter Tryz.func50,Tryz.ntmps50;obtain⟨x0,-,-,-,-,x5,x6,x7,x8,x9,x10,x11,x12,x13,x14,x15,x16,x17,x18,x19,-⟩:=ae HB.out (Ext.refl _);go_wp2_with fail;go_ret;exact⟨rfl,HX.out⟩
theorem Hg(h0:¬ 24<f.key.length)(h1:24<f.ins.length):Calls Tryz.prog 50 #[aB f P O] w fun e w'=>e = .returned (.bool true)∧Ext w w':=by
 have g0:decide ((24:Int)<(f.key.length:Int))=false:=decide_eq_false (by omega)
 have g1:decide ((24:Int)<(f.ins.length:Int))=true:=decide_eq_true (by omega)
 clear h0 h1;have HB:=qh (Blk.new w 30 (af f P O));have HX:Hid (Ext w (w.alloc (.cells (af f P O) 30))):=qh (Ext.new _ _);go_enter Tryz.func50,Tryz.ntmps50;obtain⟨x0,-,-,-,-,x5,x6,x7,x8,x9,x10,x11,x12,x13,x14,x15,x16,x17,x18,x19,-⟩:=ae HB.out (Ext.refl _);go_wp2_with fail;go_ret;exact⟨rfl,HX.out⟩
theorem Hh(h0:¬ 24<f.key.length)(h1:¬ 24<f.ins.length)(h2:24<f.other.length):Calls Tryz.prog 50 #[aB f P O] w fun e w'=>e = .returned (.bool true)∧Ext w w':=by
 have g0:decide ((24:Int)<(f.key.length:Int))=false:=decide_eq_false (by omega)
 have g1:decide ((24:Int)<(f.ins.length:Int))=false:=decide_eq_false (by omega)
 have g2:decide ((24:Int)<(f.other.length:Int))=true:=decide_eq_true (by omega)
 clear h0 h1 h2;have HB:=qh (Blk.new w 30 (af f P O));have HX:Hid (Ext w (w.alloc (.cells (af f P O) 30))):=qh (Ext.new _ _);go_enter Tryz.func50,Tryz.ntmps50;obtain⟨x0,-,-,-,-,x5,x6,x7,x8,x9,x10,x11,x12,x13,x14,x15,x16,x17,x18,x19,-⟩:=ae HB.out (Ext.refl _);go_wp2_with fail;go_ret;exact⟨rfl,HX.out⟩
theorem Hi(h0:¬ 24<f.key.length)(h1:¬ 24<f.ins.length)(h2:¬ 24<f.other.length)(h3:24<f.cur.length):Calls Tryz.prog 50 #[aB f P O] w fun e w'=>e = .returned (.bool true)∧Ext w w':=by
 have g0:decide ((24:Int)<(f.key.length:Int))=false:=decide_eq_false (by omega)
 have g1:decide ((24:Int)<(f.ins.length:Int))=false:=decide_eq_false (by omega)
 have g2:decide ((24:Int)<(f.other.length:Int))=false:=decide_eq_false (by omega)
 have g3:decide ((24:Int)<(f.cur.length:Int))=true:=decide_eq_true (by omega)
 clear h0 h1 h2 h3;have HB:=qh (Blk.new w 30 (af f P O));have HX:Hid (Ext w (w.alloc (.cells (af f P O) 30))):=qh (Ext.new _ _);go_enter Tryz.func50,Tryz.ntmps50;obtain⟨x0,-,-,-,-,x5,x6,x7,x8,x9,x10,x11,x12,x13,x14,x15,x16,x17,x18,x19,-⟩:=ae HB.out (Ext.refl _);go_wp2_with fail;go_ret;exact⟨rfl,HX.out⟩
theorem Hj(h0:¬ 24<f.key.length)(h1:¬ 24<f.ins.length)(h2:¬ 24<f.other.length)(h3:¬ 24<f.cur.length)(h4:24<f.tgt.length):Calls Tryz.prog 50 #[aB f P O] w fun e w'=>e = .returned (.bool true)∧Ext w w':=by
 have g0:decide ((24:Int)<(f.key.length:Int))=false:=decide_eq_false (by omega)
 have g1:decide ((24:Int)<(f.ins.length:Int))=false:=decide_eq_false (by omega)
 have g2:decide ((24:Int)<(f.other.length:Int))=false:=decide_eq_false (by omega)
 have g3:decide ((24:Int)<(f.cur.length:Int))=false:=decide_eq_false (by omega)
 have g4:decide ((24:Int)<(f.tgt.length:Int))=true:=decide_eq_true (by omega)
 clear h0 h1 h2 h3 h4;have HB:=qh (Blk.new w 30 (af f P O));have HX:Hid (Ext w (w.alloc (.cells (af f P O) 30))):=qh (Ext.new _ _);go_enter Tryz.func50,Tryz.ntmps50;obtain⟨x0,-,-,-,-,x5,x6,x7,x8,x9,x10,x11,x12,x13,x14,x15,x16,x17,x18,x19,-⟩:=ae HB.out (Ext.refl _);go_wp2_with fail;go_ret;exact⟨rfl,HX.out⟩
theorem Hk(h0:¬ 24<f.key.length)(h1:¬ 24<f.ins.length)(h2:¬ 24<f.other.length)(h3:¬ 24<f.cur.length)(h4:¬ 24<f.tgt.length)(h5:cQ f.qty=true):Calls Tryz.prog 50 #[aB f P O] w fun e w'=>e = .returned (.bool true)∧Ext w w':=by
 have g0:decide ((24:Int)<(f.key.length:Int))=false:=decide_eq_false (by omega)
 have g1:decide ((24:Int)<(f.ins.length:Int))=false:=decide_eq_false (by omega)
 have g2:decide ((24:Int)<(f.other.length:Int))=false:=decide_eq_false (by omega)
 have g3:decide ((24:Int)<(f.cur.length:Int))=false:=decide_eq_false (by omega)
 have g4:decide ((24:Int)<(f.tgt.length:Int))=false:=decide_eq_false (by omega)
 have c5:=cL f.qty;rw[h5]at c5;have C5:=qh c5;clear h0 h1 h2 h3 h4 h5 c5;have HB:=qh (Blk.new w 30 (af f P O));have HX:Hid (Ext w (w.alloc (.cells (af f P O) 30))):=qh (Ext.new _ _);go_enter Tryz.func50,Tryz.ntmps50;obtain⟨x0,-,-,-,-,x5,x6,x7,x8,x9,x10,x11,x12,x13,x14,x15,x16,x17,x18,x19,-⟩:=ae HB.out (Ext.refl _);go_wp2_with fail;refine(C5.out _).mono ?_;rintro e v5⟨rfl,hx1⟩;replace HX:=HX.qt hx1;replace HB:=qh (HB.out.ext hx1);clear x0 x5 x6 x7 x8 x9 x10 x11 x12 x13 x14 x15 x16 x17 x18 x19;clear hx1 C5;obtain⟨x0,-,-,-,-,x5,x6,x7,x8,x9,x10,x11,x12,x13,x14,x15,x16,x17,x18,x19,-⟩:=ae HB.out (Ext.refl _);go_wp2_with fail;go_ret;exact⟨rfl,HX.out⟩
theorem Hl(h0:¬ 24<f.key.length)(h1:¬ 24<f.ins.length)(h2:¬ 24<f.other.length)(h3:¬ 24<f.cur.length)(h4:¬ 24<f.tgt.length)(h5:cQ f.qty=false)(h6:cQ f.amt=true):Calls Tryz.prog 50 #[aB f P O] w fun e w'=>e = .returned (.bool true)∧Ext w w':=by
 have g0:decide ((24:Int)<(f.key.length:Int))=false:=decide_eq_false (by omega)
 have g1:decide ((24:Int)<(f.ins.length:Int))=false:=decide_eq_false (by omega)
 have g2:decide ((24:Int)<(f.other.length:Int))=false:=decide_eq_false (by omega)
 have g3:decide ((24:Int)<(f.cur.length:Int))=false:=decide_eq_false (by omega)
 have g4:decide ((24:Int)<(f.tgt.length:Int))=false:=decide_eq_false (by omega)
 have c5:=cL f.qty;rw[h5]at c5;have C5:=qh c5;have c6:=cL f.amt;rw[h6]at c6;have C6:=qh c6;clear h0 h1 h2 h3 h4 h5 h6 c5 c6;have HB:=qh (Blk.new w 30 (af f P O));have HX:Hid (Ext w (w.alloc (.cells (af f P O) 30))):=qh (Ext.new _ _);go_enter Tryz.func50,Tryz.ntmps50;obtain⟨x0,-,-,-,-,x5,x6,x7,x8,x9,x10,x11,x12,x13,x14,x15,x16,x17,x18,x19,-⟩:=ae HB.out (Ext.refl _);go_wp2_with fail;refine(C5.out _).mono ?_;rintro e v5⟨rfl,hx1⟩;replace HX:=HX.qt hx1;replace HB:=qh (HB.out.ext hx1);clear x0 x5 x6 x7 x8 x9 x10 x11 x12 x13 x14 x15 x16 x17 x18 x19;clear hx1 C5;obtain⟨x0,-,-,-,-,x5,x6,x7,x8,x9,x10,x11,x12,x13,x14,x15,x16,x17,x18,x19,-⟩:=ae HB.out (Ext.refl _);go_wp2_with fail;refine(C6.out _).mono ?_;rintro e v6⟨rfl,hx1⟩;replace HX:=HX.qt hx1;replace HB:=qh (HB.out.ext hx1);clear x0 x5 x6 x7 x8 x9 x10 x11 x12 x13 x14 x15 x16 x17 x18 x19;clear hx1 C6;obtain⟨x0,-,-,-,-,x5,x6,x7,x8,x9,x10,x11,x12,x13,x14,x15,x16,x17,x18,x19,-⟩:=ae HB.out (Ext.refl _);go_wp2_with fail;go_ret;exact⟨rfl,HX.out⟩
theorem Hm(h0:¬ 24<f.key.length)(h1:¬ 24<f.ins.length)(h2:¬ 24<f.other.length)(h3:¬ 24<f.cur.length)(h4:¬ 24<f.tgt.length)(h5:cQ f.qty=false)(h6:cQ f.amt=false)(h7:cQ f.fee=true):Calls Tryz.prog 50 #[aB f P O] w fun e w'=>e = .returned (.bool true)∧Ext w w':=by
 have g0:decide ((24:Int)<(f.key.length:Int))=false:=decide_eq_false (by omega)
 have g1:decide ((24:Int)<(f.ins.length:Int))=false:=decide_eq_false (by omega)
 have g2:decide ((24:Int)<(f.other.length:Int))=false:=decide_eq_false (by omega)
 have g3:decide ((24:Int)<(f.cur.length:Int))=false:=decide_eq_false (by omega)
 have g4:decide ((24:Int)<(f.tgt.length:Int))=false:=decide_eq_false (by omega)
 have c5:=cL f.qty;rw[h5]at c5;have C5:=qh c5;have c6:=cL f.amt;rw[h6]at c6;have C6:=qh c6;have c7:=cL f.fee;rw[h7]at c7;have C7:=qh c7;clear h0 h1 h2 h3 h4 h5 h6 h7 c5 c6 c7;have HB:=qh (Blk.new w 30 (af f P O));have HX:Hid (Ext w (w.alloc (.cells (af f P O) 30))):=qh (Ext.new _ _);go_enter Tryz.func50,Tryz.ntmps50;obtain⟨x0,-,-,-,-,x5,x6,x7,x8,x9,x10,x11,x12,x13,x14,x15,x16,x17,x18,x19,-⟩:=ae HB.out (Ext.refl _);go_wp2_with fail;refine(C5.out _).mono ?_;rintro e v5⟨rfl,hx1⟩;replace HX:=HX.qt hx1;replace HB:=qh (HB.out.ext hx1);clear x0 x5 x6 x7 x8 x9 x10 x11 x12 x13 x14 x15 x16 x17 x18 x19;clear hx1 C5;obtain⟨x0,-,-,-,-,x5,x6,x7,x8,x9,x10,x11,x12,x13,x14,x15,x16,x17,x18,x19,-⟩:=ae HB.out (Ext.refl _);go_wp2_with fail;refine(C6.out _).mono ?_;rintro e v6⟨rfl,hx1⟩;replace HX:=HX.qt hx1;replace HB:=qh (HB.out.ext hx1);clear x0 x5 x6 x7 x8 x9 x10 x11 x12 x13 x14 x15 x16 x17 x18 x19;clear hx1 C6;obtain⟨x0,-,-,-,-,x5,x6,x7,x8,x9,x10,x11,x12,x13,x14,x15,x16,x17,x18,x19,-⟩:=ae HB.out (Ext.refl _);go_wp2_with fail;refine(C7.out _).mono ?_;rintro e v7⟨rfl,hx1⟩;replace HX:=HX.qt hx1;replace HB:=qh (HB.out.ext hx1);clear x0 x5 x6 x7 x8 x9 x10 x11 x12 x13 x14 x15 x16 x17 x18 x19;clear hx1 C7;obtain⟨x0,-,-,-,-,x5,x6,x7,x8,x9,x10,x11,x12,x13,x14,x15,x16,x17,x18,x19,-⟩:=ae HB.out (Ext.refl _);go_wp2_with fail;go_ret;exact⟨rfl,HX.out⟩
theorem Hn(h0:¬ 24<f.key.length)(h1:¬ 24<f.ins.length)(h2:¬ 24<f.other.length)(h3:¬ 24<f.cur.length)(h4:¬ 24<f.tgt.length)(h5:cQ f.qty=false)(h6:cQ f.amt=false)(h7:cQ f.fee=false)(h8:cE f.price=true):Calls Tryz.prog 50 #[aB f P O] w fun e w'=>e = .returned (.bool true)∧Ext w w':=by
 have g0:decide ((24:Int)<(f.key.length:Int))=false:=decide_eq_false (by omega)
 have g1:decide ((24:Int)<(f.ins.length:Int))=false:=decide_eq_false (by omega)
 have g2:decide ((24:Int)<(f.other.length:Int))=false:=decide_eq_false (by omega)
 have g3:decide ((24:Int)<(f.cur.length:Int))=false:=decide_eq_false (by omega)
 have g4:decide ((24:Int)<(f.tgt.length:Int))=false:=decide_eq_false (by omega)
 have c5:=cL f.qty;rw[h5]at c5;have C5:=qh c5;have c6:=cL f.amt;rw[h6]at c6;have C6:=qh c6;have c7:=cL f.fee;rw[h7]at c7;have C7:=qh c7;have c8:=fun W=>dM f.price W
 simp only[h8]at c8;have C8:=qh c8;clear h0 h1 h2 h3 h4 h5 h6 h7 h8 c5 c6 c7 c8;have HB:=qh (Blk.new w 30 (af f P O));have HX:Hid (Ext w (w.alloc (.cells (af f P O) 30))):=qh (Ext.new _ _);go_enter Tryz.func50,Tryz.ntmps50;obtain⟨x0,-,-,-,-,x5,x6,x7,x8,x9,x10,x11,x12,x13,x14,x15,x16,x17,x18,x19,-⟩:=ae HB.out (Ext.refl _);go_wp2_with fail;refine(C5.out _).mono ?_;rintro e v5⟨rfl,hx1⟩;replace HX:=HX.qt hx1;replace HB:=qh (HB.out.ext hx1);clear x0 x5 x6 x7 x8 x9 x10 x11 x12 x13 x14 x15 x16 x17 x18 x19;clear hx1 C5;obtain⟨x0,-,-,-,-,x5,x6,x7,x8,x9,x10,x11,x12,x13,x14,x15,x16,x17,x18,x19,-⟩:=ae HB.out (Ext.refl _);go_wp2_with fail;refine(C6.out _).mono ?_;rintro e v6⟨rfl,hx1⟩;replace HX:=HX.qt hx1;replace HB:=qh (HB.out.ext hx1);clear x0 x5 x6 x7 x8 x9 x10 x11 x12 x13 x14 x15 x16 x17 x18 x19;clear hx1 C6;obtain⟨x0,-,-,-,-,x5,x6,x7,x8,x9,x10,x11,x12,x13,x14,x15,x16,x17,x18,x19,-⟩:=ae HB.out (Ext.refl _);go_wp2_with fail;refine(C7.out _).mono ?_;rintro e v7⟨rfl,hx1⟩;replace HX:=HX.qt hx1;replace HB:=qh (HB.out.ext hx1);clear x0 x5 x6 x7 x8 x9 x10 x11 x12 x13 x14 x15 x16 x17 x18 x19;clear hx1 C7;obtain⟨x0,-,-,-,-,x5,x6,x7,x8,x9,x10,x11,x12,x13,x14,x15,x16,x17,x18,x19,-⟩:=ae HB.out (Ext.refl _);go_wp2_with fail;refine(C8.out _).mono ?_;rintro e v8⟨rfl,hx1⟩;replace HX:=HX.qt hx1;replace HB:=qh (HB.out.ext hx1);clear x0 x5 x6 x7 x8 x9 x10 x11 x12 x13 x14 x15 x16 x17 x18 x19;clear hx1 C8;obtain⟨x0,-,-,-,-,x5,x6,x7,x8,x9,x10,x11,x12,x13,x14,x15,x16,x17,x18,x19,-⟩:=ae HB.out (Ext.refl _);go_wp2_with fail;go_ret;exact⟨rfl,HX.out⟩
theorem Ho(h0:¬ 24<f.key.length)(h1:¬ 24<f.ins.length)(h2:¬ 24<f.other.length)(h3:¬ 24<f.cur.length)(h4:¬ 24<f.tgt.length)(h5:cQ f.qty=false)(h6:cQ f.amt=false)(h7:cQ f.fee=false)(h8:cE f.price=false)(h9:cE f.ratio=true):Calls Tryz.prog 50 #[aB f P O] w fun e w'=>e = .returned (.bool true)∧Ext w w':=by
 have g0:decide ((24:Int)<(f.key.length:Int))=false:=decide_eq_false (by omega)
 have g1:decide ((24:Int)<(f.ins.length:Int))=false:=decide_eq_false (by omega)
 have g2:decide ((24:Int)<(f.other.length:Int))=false:=decide_eq_false (by omega)
 have g3:decide ((24:Int)<(f.cur.length:Int))=false:=decide_eq_false (by omega)
 have g4:decide ((24:Int)<(f.tgt.length:Int))=false:=decide_eq_false (by omega)
 have c5:=cL f.qty;rw[h5]at c5;have C5:=qh c5;have c6:=cL f.amt;rw[h6]at c6;have C6:=qh c6;have c7:=cL f.fee;rw[h7]at c7;have C7:=qh c7;have c8:=fun W=>dM f.price W
 simp only[h8]at c8;have C8:=qh c8;have c9:=fun W=>dM f.ratio W
 simp only[h9]at c9;have C9:=qh c9;clear h0 h1 h2 h3 h4 h5 h6 h7 h8 h9 c5 c6 c7 c8 c9;have HB:=qh (Blk.new w 30 (af f P O));have HX:Hid (Ext w (w.alloc (.cells (af f P O) 30))):=qh (Ext.new _ _);go_enter Tryz.func50,Tryz.ntmps50;obtain⟨x0,-,-,-,-,x5,x6,x7,x8,x9,x10,x11,x12,x13,x14,x15,x16,x17,x18,x19,-⟩:=ae HB.out (Ext.refl _);go_wp2_with fail;refine(C5.out _).mono ?_;rintro e v5⟨rfl,hx1⟩;replace HX:=HX.qt hx1;replace HB:=qh (HB.out.ext hx1);clear x0 x5 x6 x7 x8 x9 x10 x11 x12 x13 x14 x15 x16 x17 x18 x19;clear hx1 C5;obtain⟨x0,-,-,-,-,x5,x6,x7,x8,x9,x10,x11,x12,x13,x14,x15,x16,x17,x18,x19,-⟩:=ae HB.out (Ext.refl _);go_wp2_with fail;refine(C6.out _).mono ?_;rintro e v6⟨rfl,hx1⟩;replace HX:=HX.qt hx1;replace HB:=qh (HB.out.ext hx1);clear x0 x5 x6 x7 x8 x9 x10 x11 x12 x13 x14 x15 x16 x17 x18 x19;clear hx1 C6;obtain⟨x0,-,-,-,-,x5,x6,x7,x8,x9,x10,x11,x12,x13,x14,x15,x16,x17,x18,x19,-⟩:=ae HB.out (Ext.refl _);go_wp2_with fail;refine(C7.out _).mono ?_;rintro e v7⟨rfl,hx1⟩;replace HX:=HX.qt hx1;replace HB:=qh (HB.out.ext hx1);clear x0 x5 x6 x7 x8 x9 x10 x11 x12 x13 x14 x15 x16 x17 x18 x19;clear hx1 C7;obtain⟨x0,-,-,-,-,x5,x6,x7,x8,x9,x10,x11,x12,x13,x14,x15,x16,x17,x18,x19,-⟩:=ae HB.out (Ext.refl _);go_wp2_with fail;refine(C8.out _).mono ?_;rintro e v8⟨rfl,hx1⟩;replace HX:=HX.qt hx1;replace HB:=qh (HB.out.ext hx1);clear x0 x5 x6 x7 x8 x9 x10 x11 x12 x13 x14 x15 x16 x17 x18 x19;clear hx1 C8;obtain⟨x0,-,-,-,-,x5,x6,x7,x8,x9,x10,x11,x12,x13,x14,x15,x16,x17,x18,x19,-⟩:=ae HB.out (Ext.refl _);go_wp2_with fail;refine(C9.out _).mono ?_;rintro e v9⟨rfl,hx1⟩;replace HX:=HX.qt hx1;replace HB:=qh (HB.out.ext hx1);clear x0 x5 x6 x7 x8 x9 x10 x11 x12 x13 x14 x15 x16 x17 x18 x19;clear hx1 C9;obtain⟨x0,-,-,-,-,x5,x6,x7,x8,x9,x10,x11,x12,x13,x14,x15,x16,x17,x18,x19,-⟩:=ae HB.out (Ext.refl _);go_wp2_with fail;go_ret;exact⟨rfl,HX.out⟩
theorem EJ(h0:¬ 24<f.key.length)(h1:¬ 24<f.ins.length)(h2:¬ 24<f.other.length)(h3:¬ 24<f.cur.length)(h4:¬ 24<f.tgt.length)(h5:cQ f.qty=false)(h6:cQ f.amt=false)(h7:cQ f.fee=false)(h8:cE f.price=false)(h9:cE f.ratio=false)(h10:cE f.share=true):Calls Tryz.prog 50 #[aB f P O] w fun e w'=>e = .returned (.bool true)∧Ext w w':=by
 have g0:decide ((24:Int)<(f.key.length:Int))=false:=decide_eq_false (by omega)
 have g1:decide ((24:Int)<(f.ins.length:Int))=false:=decide_eq_false (by omega)
 have g2:decide ((24:Int)<(f.other.length:Int))=false:=decide_eq_false (by omega)
 have g3:decide ((24:Int)<(f.cur.length:Int))=false:=decide_eq_false (by omega)
 have g4:decide ((24:Int)<(f.tgt.length:Int))=false:=decide_eq_false (by omega)
 have c5:=cL f.qty;rw[h5]at c5;have C5:=qh c5;have c6:=cL f.amt;rw[h6]at c6;have C6:=qh c6;have c7:=cL f.fee;rw[h7]at c7;have C7:=qh c7;have c8:=fun W=>dM f.price W
 simp only[h8]at c8;have C8:=qh c8;have c9:=fun W=>dM f.ratio W
 simp only[h9]at c9;have C9:=qh c9;have c10:=fun W=>dM f.share W
 simp only[h10]at c10;have C10:=qh c10;clear h0 h1 h2 h3 h4 h5 h6 h7 h8 h9 h10 c5 c6 c7 c8 c9 c10;have HB:=qh (Blk.new w 30 (af f P O));have HX:Hid (Ext w (w.alloc (.cells (af f P O) 30))):=qh (Ext.new _ _);go_enter Tryz.func50,Tryz.ntmps50;obtain⟨x0,-,-,-,-,x5,x6,x7,x8,x9,x10,x11,x12,x13,x14,x15,x16,x17,x18,x19,-⟩:=ae HB.out (Ext.refl _);go_wp2_with fail;refine(C5.out _).mono ?_;rintro e v5⟨rfl,hx1⟩;replace HX:=HX.qt hx1;replace HB:=qh (HB.out.ext hx1);clear x0 x5 x6 x7 x8 x9 x10 x11 x12 x13 x14 x15 x16 x17 x18 x19;clear hx1 C5;obtain⟨x0,-,-,-,-,x5,x6,x7,x8,x9,x10,x11,x12,x13,x14,x15,x16,x17,x18,x19,-⟩:=ae HB.out (Ext.refl _);go_wp2_with fail;refine(C6.out _).mono ?_;rintro e v6⟨rfl,hx1⟩;replace HX:=HX.qt hx1;replace HB:=qh (HB.out.ext hx1);clear x0 x5 x6 x7 x8 x9 x10 x11 x12 x13 x14 x15 x16 x17 x18 x19;clear hx1 C6;obtain⟨x0,-,-,-,-,x5,x6,x7,x8,x9,x10,x11,x12,x13,x14,x15,x16,x17,x18,x19,-⟩:=ae HB.out (Ext.refl _);go_wp2_with fail;refine(C7.out _).mono ?_;rintro e v7⟨rfl,hx1⟩;replace HX:=HX.qt hx1;replace HB:=qh (HB.out.ext hx1);clear x0 x5 x6 x7 x8 x9 x10 x11 x12 x13 x14 x15 x16 x17 x18 x19;clear hx1 C7;obtain⟨x0,-,-,-,-,x5,x6,x7,x8,x9,x10,x11,x12,x13,x14,x15,x16,x17,x18,x19,-⟩:=ae HB.out (Ext.refl _);go_wp2_with fail;refine(C8.out _).mono ?_;rintro e v8⟨rfl,hx1⟩;replace HX:=HX.qt hx1;replace HB:=qh (HB.out.ext hx1);clear x0 x5 x6 x7 x8 x9 x10 x11 x12 x13 x14 x15 x16 x17 x18 x19;clear hx1 C8;obtain⟨x0,-,-,-,-,x5,x6,x7,x8,x9,x10,x11,x12,x13,x14,x15,x16,x17,x18,x19,-⟩:=ae HB.out (Ext.refl _);go_wp2_with fail;refine(C9.out _).mono ?_;rintro e v9⟨rfl,hx1⟩;replace HX:=HX.qt hx1;replace HB:=qh (HB.out.ext hx1);clear x0 x5 x6 x7 x8 x9 x10 x11 x12 x13 x14 x15 x16 x17 x18 x19;clear hx1 C9;obtain⟨x0,-,-,-,-,x5,x6,x7,x8,x9,x10,x11,x12,x13,x14,x15,x16,x17,x18,x19,-⟩:=ae HB.out (Ext.refl _);go_wp2_with fail;refine(C10.out _).mono ?_;rintro e v10⟨rfl,hx1⟩;replace HX:=HX.qt hx1;replace HB:=qh (HB.out.ext hx1);clear x0 x5 x6 x7 x8 x9 x10 x11 x12 x13 x14 x15 x16 x17 x18 x19;clear hx1 C10;obtain⟨x0,-,-,-,-,x5,x6,x7,x8,x9,x10,x11,x12,x13,x14,x15,x16,x17,x18,x19,-⟩:=ae HB.out (Ext.refl _);go_wp2_with fail;go_ret;exact⟨rfl,HX.out⟩
end
end
section
open Go.RowKit
attribute [local go_sem] size_bs toList_bs
structure GreatNo (f:FactV) (ps:List Fr) (os:List OptV):Prop where
 key:f.key.length≤24
 ins:f.ins.length≤24
 other:f.other.length≤24
 cur:f.cur.length≤24
 tgt:f.tgt.length≤24
 qty:f.qty.length≤13
 amt:f.amt.length≤13
 fee:f.fee.length≤13
 pr:f.price.num.length≤13∧f.price.den.length≤13
 ra:f.ratio.num.length≤13∧f.ratio.den.length≤13
 sh:f.share.num.length≤13∧f.share.den.length≤13
 np:ps.length≤66
 ps:∀p ∈ ps,p.num.length≤30∧p.den.length≤13
 no:os.length≤10
 os:∀o ∈ os,eP 24 o
theorem mz{s:Bs}(h:cQ s=false):s.length≤13:=by
 unfold cQ at h;simp at h;omega
def mW(f:FactV)(ps:List Fr)(os:List OptV)(w:World)(e:Ending)(w':World):Prop:=(∃b,e = .returned (.bool b)∧(b=false→GreatNo f ps os))∧Ext w w'
theorem gc{f:FactV}{ps:List Fr}{os:List OptV}{w w':World}(hx:Ext w w'):mW f ps os w (.returned (.bool true)) w':=⟨⟨true,rfl,fun h=>by cases h⟩,hx⟩
theorem dG{f:FactV}{ps:List Fr}{os:List OptV}{w:World}{e:Ending}{w':World}(h:e = .returned (.bool true)∧Ext w w'):mW f ps os w e w':=by
 obtain⟨rfl,hx⟩:=h;exact gc hx
theorem CQ(f:FactV)(ps:List Fr)(os:List OptV)(pa oa:Option Addr)(pc oq:Nat)(w:World)(hP:iM w pa ps)(hO:k9 w oa os)(hn:ps.length≤4611686018427387904)(hm:os.length≤4611686018427387904) :
  Calls Tryz.prog 50 #[aB f (ac pa ps.length pc) (ac oa os.length oq)] w (mW f ps os w):=by
 by_cases h0:24<f.key.length
 ·exact(Hf f _ _ w  h0).mono fun _ _ h=>dG h
 by_cases h1:24<f.ins.length
 ·exact(Hg f _ _ w h0 h1).mono fun _ _ h=>dG h
 by_cases h2:24<f.other.length
 ·exact(Hh f _ _ w h0 h1 h2).mono fun _ _ h=>dG h
 by_cases h3:24<f.cur.length
 ·exact(Hi f _ _ w h0 h1 h2 h3).mono fun _ _ h=>dG h
 by_cases h4:24<f.tgt.length
 ·exact(Hj f _ _ w h0 h1 h2 h3 h4).mono fun _ _ h=>dG h
 by_cases h5:cQ f.qty=true
 ·exact(Hk f _ _ w h0 h1 h2 h3 h4 h5).mono fun _ _ h=>dG h
 by_cases h6:cQ f.amt=true
 ·exact(Hl f _ _ w h0 h1 h2 h3 h4 (by simpa using h5) h6).mono fun _ _ h=>dG h
 by_cases h7:cQ f.fee=true
 ·exact(Hm f _ _ w h0 h1 h2 h3 h4 (by simpa using h5) (by simpa using h6) h7).mono fun _ _ h=>dG h
 by_cases h8:cE f.price=true
 ·exact(Hn f _ _ w h0 h1 h2 h3 h4 (by simpa using h5) (by simpa using h6) (by simpa using h7) h8).mono fun _ _ h=>dG h
 by_cases h9:cE f.ratio=true
 ·exact(Ho f _ _ w h0 h1 h2 h3 h4 (by simpa using h5) (by simpa using h6) (by simpa using h7) (by simpa using h8) h9).mono fun _ _ h=>dG h
 by_cases h10:cE f.share=true
 ·exact(EJ f _ _ w h0 h1 h2 h3 h4 (by simpa using h5) (by simpa using h6) (by simpa using h7) (by simpa using h8) (by simpa using h9) h10).mono fun _ _ h=>dG h
 replace h5:cQ f.qty=false:=by simpa using h5
 replace h6:cQ f.amt=false:=by simpa using h6
 replace h7:cQ f.fee=false:=by simpa using h7
 replace h8:cE f.price=false:=by simpa using h8
 replace h9:cE f.ratio=false:=by simpa using h9
 replace h10:cE f.share=false:=by simpa using h10
 have HG:Hid ((ps.length≤66∧∀p ∈ ps,p.num.length≤30∧p.den.length≤13)→(os.length≤10∧∀o ∈ os,eP 24 o)→GreatNo f ps os):=qh (fun a b=>⟨by omega,by omega,by omega,by omega,by omega,mz h5,mz h6,mz h7,jl h8,jl h9,jl h10,a.1,a.2,b.1,b.2⟩);have HP:=qh hP;have HO:=qh hO;clear hP hO;have g0:decide ((24:Int)<(f.key.length:Int))=false:=decide_eq_false (by omega)
 have g1:decide ((24:Int)<(f.ins.length:Int))=false:=decide_eq_false (by omega)
 have g2:decide ((24:Int)<(f.other.length:Int))=false:=decide_eq_false (by omega)
 have g3:decide ((24:Int)<(f.cur.length:Int))=false:=decide_eq_false (by omega)
 have g4:decide ((24:Int)<(f.tgt.length:Int))=false:=decide_eq_false (by omega)
 have c5:=cL f.qty;rw[h5]at c5;have C5:=qh c5;have c6:=cL f.amt;rw[h6]at c6;have C6:=qh c6;have c7:=cL f.fee;rw[h7]at c7;have C7:=qh c7;have c8:=fun W=>dM f.price W
 simp only[h8]at c8;have C8:=qh c8;have c9:=fun W=>dM f.ratio W
 simp only[h9]at c9;have C9:=qh c9;have c10:=fun W=>dM f.share W
 simp only[h10]at c10;have C10:=qh c10;clear h0 h1 h2 h3 h4 h5 h6 h7 h8 h9 h10 c5 c6 c7 c8 c9 c10;have HB:=qh (Blk.new w 30 (af f (ac pa ps.length pc) (ac oa os.length oq)));have HX:Hid (Ext w (w.alloc (.cells (af f (ac pa ps.length pc) (ac oa os.length oq)) 30))):=qh (Ext.new _ _);go_enter Tryz.func50,Tryz.ntmps50;obtain⟨x0,-,-,-,-,x5,x6,x7,x8,x9,x10,x11,x12,x13,x14,x15,x16,x17,x18,x19,-⟩:=ae HB.out (Ext.refl _);go_wp2_with fail;refine(C5.out _).mono ?_;rintro e v5⟨rfl,hx1⟩;replace HX:=HX.qt hx1;replace HB:=qh (HB.out.ext hx1);clear x0 x5 x6 x7 x8 x9 x10 x11 x12 x13 x14 x15 x16 x17 x18 x19;clear hx1 C5;obtain⟨x0,-,-,-,-,x5,x6,x7,x8,x9,x10,x11,x12,x13,x14,x15,x16,x17,x18,x19,-⟩:=ae HB.out (Ext.refl _);go_wp2_with fail;refine(C6.out _).mono ?_;rintro e v6⟨rfl,hx1⟩;replace HX:=HX.qt hx1;replace HB:=qh (HB.out.ext hx1);clear x0 x5 x6 x7 x8 x9 x10 x11 x12 x13 x14 x15 x16 x17 x18 x19;clear hx1 C6;obtain⟨x0,-,-,-,-,x5,x6,x7,x8,x9,x10,x11,x12,x13,x14,x15,x16,x17,x18,x19,-⟩:=ae HB.out (Ext.refl _);go_wp2_with fail;refine(C7.out _).mono ?_;rintro e v7⟨rfl,hx1⟩;replace HX:=HX.qt hx1;replace HB:=qh (HB.out.ext hx1);clear x0 x5 x6 x7 x8 x9 x10 x11 x12 x13 x14 x15 x16 x17 x18 x19;clear hx1 C7;obtain⟨x0,-,-,-,-,x5,x6,x7,x8,x9,x10,x11,x12,x13,x14,x15,x16,x17,x18,x19,-⟩:=ae HB.out (Ext.refl _);go_wp2_with fail;refine(C8.out _).mono ?_;rintro e v8⟨rfl,hx1⟩;replace HX:=HX.qt hx1;replace HB:=qh (HB.out.ext hx1);clear x0 x5 x6 x7 x8 x9 x10 x11 x12 x13 x14 x15 x16 x17 x18 x19;clear hx1 C8;obtain⟨x0,-,-,-,-,x5,x6,x7,x8,x9,x10,x11,x12,x13,x14,x15,x16,x17,x18,x19,-⟩:=ae HB.out (Ext.refl _);go_wp2_with fail;refine(C9.out _).mono ?_;rintro e v9⟨rfl,hx1⟩;replace HX:=HX.qt hx1;replace HB:=qh (HB.out.ext hx1);clear x0 x5 x6 x7 x8 x9 x10 x11 x12 x13 x14 x15 x16 x17 x18 x19;clear hx1 C9;obtain⟨x0,-,-,-,-,x5,x6,x7,x8,x9,x10,x11,x12,x13,x14,x15,x16,x17,x18,x19,-⟩:=ae HB.out (Ext.refl _);go_wp2_with fail;refine(C10.out _).mono ?_;rintro e v10⟨rfl,hx1⟩;replace HX:=HX.qt hx1;replace HB:=qh (HB.out.ext hx1);clear x0 x5 x6 x7 x8 x9 x10 x11 x12 x13 x14 x15 x16 x17 x18 x19;clear hx1 C10;obtain⟨-,-,-,-,-,-,-,-,-,-,-,-,-,-,-,-,-,-,x18,x19,-⟩:=ae HB.out (Ext.refl _);obtain hN|hN|hN|hN:ps.length≤4∨(4<ps.length∧ps.length≤64)∨(64<ps.length∧ps.length≤66)∨66<ps.length:=by omega
 all_goals obtain hM|hM|hM|hM:os.length≤3∨(3<os.length∧os.length≤8)∨(8<os.length∧os.length≤10)∨10<os.length:=by omega
 all_goals
  first|have p4:decide ((4:Int)<(ps.length:Int))=true:=decide_eq_true (by omega)|have p4:decide ((4:Int)<(ps.length:Int))=false:=decide_eq_false (by omega)
  first|have p64:decide ((ps.length:Int)≤64)=true:=decide_eq_true (by omega)|have p64:decide ((ps.length:Int)≤64)=false:=decide_eq_false (by omega)
  first|have p66:decide ((66:Int)<(ps.length:Int))=true:=decide_eq_true (by omega)|have p66:decide ((66:Int)<(ps.length:Int))=false:=decide_eq_false (by omega)
  first|have q3:decide ((3:Int)<(os.length:Int))=true:=decide_eq_true (by omega)|have q3:decide ((3:Int)<(os.length:Int))=false:=decide_eq_false (by omega)
  first|have q8:decide ((os.length:Int)≤8)=true:=decide_eq_true (by omega)|have q8:decide ((os.length:Int)≤8)=false:=decide_eq_false (by omega)
  first|have q10:decide ((10:Int)<(os.length:Int))=true:=decide_eq_true (by omega)|have q10:decide ((10:Int)<(os.length:Int))=false:=decide_eq_false (by omega)
  go_wp2_with fail;try (go_ret;exact gc HX.out)
 all_goals
  have hN66:Hid (ps.length≤66):=qh (by omega);have hM10:Hid (os.length≤10):=qh (by omega);clear p4 p64 p66 q3 q8 q10 hN hM x18 x19;go_loopw [3] (fun i wr=>∃k:Nat,k≤ps.length∧i = .int .i64 k∧(∀x ∈ ps.take k,x.num.length≤30∧x.den.length≤13)∧Ext w wr∧Blk wr w.heap.size 30 (af f (ac pa ps.length pc) (ac oa os.length oq))) (fun i _=>ps.length-(intOf i).toNat)
  case atStart=>exact⟨0,by omega,rfl,by simp,HX.out,HB.out⟩
  case round =>
   clear HX HB;obtain⟨k,hk,rfl,hz,hx,hb⟩:=hrel;have HX:=qh hx;have HB:=qh hb;have HZ:=qh hz;clear hx hb hz;obtain⟨-,-,-,-,-,-,-,-,-,-,-,-,-,-,-,-,-,-,x18,x19,-⟩:=ae HB.out (Ext.refl _);by_cases hlt:k<ps.length
   ·obtain⟨b,o,rfl,hb,c0,c1⟩:=(HP.out.ext HX.out).at_ hlt;have hki:(k:Int)<(ps.length:Int):=by omega
    have hk0:(0:Int)≤(k:Int):=by omega
    have HNx:Hid (((ps[k]'hlt).num.length≤30∧(ps[k]'hlt).den.length≤13)→∀x ∈ ps.take (k+1),x.num.length≤30∧x.den.length≤13):=qh (fun h x hx=>by
     rw[List.take_succ_eq_append_getElem hlt]at hx;rcases List.mem_append.1 hx with hx|hx
     ·exact HZ.out x hx
     ·rw[List.mem_singleton]at hx;rw[hx];exact h)
    generalize ps[k]'hlt=y at *;obtain⟨lt,qt⟩:=y;dsimp only at c0 c1 HNx;by_cases hl:30<lt.length
    ·have g:decide ((30:Int)<(lt.length:Int))=true:=decide_eq_true (by omega)
     clear HNx HG HP HO;go_wp2_with fail;go_ret;exact gc HX.out
    have g:decide ((30:Int)<(lt.length:Int))=false:=decide_eq_false (by omega)
    have LG:=qh (cL qt);have hll:Hid (lt.length≤30):=qh (by omega);have hqq:=qh (fun h:cQ qt=false=>mz h);generalize cQ qt=lq at *;clear hl;go_wp2_with fail;refine(LG.out _).mono ?_;rintro e v5⟨rfl,hx1⟩;replace HX:=HX.qt hx1;replace HB:=qh (HB.out.ext hx1);clear hx1 c0 c1 x18 x19 hb
    cases lq
    ·have hz1:=qh (HNx.out ⟨hll.out,hqq.out (by trivial)⟩);clear HNx hll hqq LG;go_wp2_with fail;exact⟨⟨k+1,by omega,by go_num,hz1.out,HX.out,HB.out⟩,by simp[intOf];omega⟩
    ·clear HNx hll hqq LG HG HP HO;go_wp2_with fail;go_ret;exact gc HX.out
   ·have hke:k=ps.length:=by omega
    subst hke;have HP2:=qh HZ.out;rw[List.take_length]at HP2;replace HG:=qh (HG.out ⟨hN66.out,HP2.out⟩);have hki:¬ ((ps.length:Int)<(ps.length:Int)):=by omega
    clear hlt hk HZ HP2 HP hN66;go_wp2_with fail;clear x18 x19;go_loopw [4,5] (fun i _ wr=>∃k:Nat,k≤os.length∧i = .int .i64 k∧(∀x ∈ os.take k,eP 24 x)∧Ext w wr∧Blk wr w.heap.size 30 (af f (ac pa ps.length pc) (ac oa os.length oq))) (fun i _ _=>os.length-(intOf i).toNat)
    case atStart=>exact⟨0,by omega,rfl,by simp,HX.out,HB.out⟩
    case round =>
     clear HX HB;obtain⟨k,hk,rfl,hz,hx,hb⟩:=hrel;have HX:=qh hx;have HB:=qh hb;have HZ:=qh hz;clear hx hb hz;obtain⟨-,-,-,-,-,-,-,-,-,-,-,-,-,-,-,-,-,-,x18,x19,-⟩:=ae HB.out (Ext.refl _);by_cases hlt:k<os.length
     ·obtain⟨b,o,rfl,hb,c0,c1,c2,c3,c4,c5,c6⟩:=(HO.out.ext HX.out).at_ hlt;have hki:(k:Int)<(os.length:Int):=by omega
      have hk0:(0:Int)≤(k:Int):=by omega
      have HNx:Hid (eP 24 (os[k]'hlt)→∀x ∈ os.take (k+1),eP 24 x):=qh (fun h x hx=>by
       rw[List.take_succ_eq_append_getElem hlt]at hx;rcases List.mem_append.1 hx with hx|hx
       ·exact HZ.out x hx
       ·rw[List.mem_singleton]at hx;rw[hx];exact h)
      generalize os[k]'hlt=y at *;obtain⟨ot,⟨rn,rd⟩,⟨pn,pd⟩,⟨vn,vd⟩⟩:=y;dsimp only at c0 c1 c2 c3 c4 c5 c6;have HOB:=qh (Blk.new wr 50 (oc ⟨ot,⟨rn,rd⟩,⟨pn,pd⟩,⟨vn,vd⟩⟩));replace HX:=qh (HX.out.alloc (.cells (oc ⟨ot,⟨rn,rd⟩,⟨pn,pd⟩,⟨vn,vd⟩⟩) 50));replace HB:=qh (HB.out.alloc (.cells (oc ⟨ot,⟨rn,rd⟩,⟨pn,pd⟩,⟨vn,vd⟩⟩) 50));obtain⟨r0,r1,r2,r3,r4,r5,r6⟩:=ar HOB.out (Ext.refl _);by_cases hl:24<ot.length
      ·have g:decide ((24:Int)<(ot.length:Int))=true:=decide_eq_true (by omega)
       clear HNx HG HO;go_wp2_with fail;go_ret;exact gc HX.out
      have g:decide ((24:Int)<(ot.length:Int))=false:=decide_eq_false (by omega)
      have hll:Hid (ot.length≤24):=qh (by omega);have L1:=qh (fun W=>dM ⟨rn,rd⟩ W);have L2:=qh (fun W=>dM ⟨pn,pd⟩ W);have L3:=qh (fun W=>dM ⟨vn,vd⟩ W)
      have hF:Hid (cE ⟨rn,rd⟩=false→cE ⟨pn,pd⟩=false→cE ⟨vn,vd⟩=false→eP 24 ⟨ot,⟨rn,rd⟩,⟨pn,pd⟩,⟨vn,vd⟩⟩):=qh (fun a b c=>by
       have a':=jl a;have b':=jl b;have c':=jl c;have d':=hll.out;dsimp only at a' b' c';exact⟨by dsimp only;omega,by dsimp only;omega,by dsimp only;omega,by dsimp only;omega,by dsimp only;omega,by dsimp only;omega,by dsimp only;omega⟩)
      generalize cE ⟨rn,rd⟩=l1 at *;generalize cE ⟨pn,pd⟩=l2 at *;generalize cE ⟨vn,vd⟩=l3 at *;clear hl hll;go_wp2_with fail;refine(L1.out _).mono ?_;rintro e v5⟨rfl,hx1⟩;replace HX:=HX.qt hx1;replace HB:=qh (HB.out.ext hx1);replace HOB:=qh (HOB.out.ext hx1);clear hx1 c0 c1 c2 c3 c4 c5 c6 x18 x19 hb r0 r1 r2 r3 r4 r5 r6 L1
      cases l1;rotate_left
      ·clear HNx HG HO hF L2 L3;go_wp2_with fail;go_ret;exact gc HX.out
      obtain⟨r0,r1,r2,r3,r4,r5,r6⟩:=ar HOB.out (Ext.refl _);go_wp2_with fail;refine(L2.out _).mono ?_;rintro e v6⟨rfl,hx1⟩;replace HX:=HX.qt hx1;replace HB:=qh (HB.out.ext hx1);replace HOB:=qh (HOB.out.ext hx1);clear hx1 r0 r1 r2 r3 r4 r5 r6 L2
      cases l2;rotate_left
      ·clear HNx HG HO hF L3;go_wp2_with fail;go_ret;exact gc HX.out
      obtain⟨r0,r1,r2,r3,r4,r5,r6⟩:=ar HOB.out (Ext.refl _);go_wp2_with fail;refine(L3.out _).mono ?_;rintro e v7⟨rfl,hx1⟩;replace HX:=HX.qt hx1;replace HB:=qh (HB.out.ext hx1);clear hx1 r0 r1 r2 r3 r4 r5 r6 L3 HOB
      cases l3;rotate_left
      ·clear HNx HG HO hF;go_wp2_with fail;go_ret;exact gc HX.out
      have hz1:=qh (HNx.out (hF.out (by trivial) (by trivial) (by trivial)));clear HNx hF;go_wp2_with fail;exact⟨⟨k+1,by omega,by go_num,hz1.out,HX.out,HB.out⟩,by simp[intOf];omega⟩
     ·have hke:k=os.length:=by omega
      subst hke;have HP2:=qh HZ.out;rw[List.take_length]at HP2;replace HG:=qh (HG.out ⟨hM10.out,HP2.out⟩);have hki:¬ ((os.length:Int)<(os.length:Int)):=by omega
      clear hlt hk HZ HP2 HO hM10;go_wp2_with fail;go_ret;exact⟨⟨false,rfl,fun _=>HG.out⟩,HX.out⟩
end
end Go.Proofs.YthgpheopnhajaaaGreatDoor
