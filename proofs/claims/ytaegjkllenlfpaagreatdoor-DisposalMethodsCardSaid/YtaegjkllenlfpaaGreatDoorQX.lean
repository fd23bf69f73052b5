/- The seat's texts, part QX. -/
import Derived.Test.YtaegjkllenlfpaaGreatDoorQ16
import Derived.Test.YtaegjkllenlfpaaGreatDoorQ22
import Derived.Test.YtaegjkllenlfpaaGreatDoorQ31
import Derived.Test.YtaegjkllenlfpaaGreatDoorQ32
import Derived.Test.YtaegjkllenlfpaaGreatDoorQ33
import Derived.Test.YtaegjkllenlfpaaGreatDoorQ34
import Derived.Deep.RegionHeld3
set_option maxRecDepth 100000
set_option maxHeartbeats 8000000
namespace Go.Proofs.YtaegjkllenlfpaaGreatDoor
variable {ps:List Fr}{os:List OptV}{w' W:World}{pc n b0:Nat}{cs:List Value}
section
open Go.RowKit
attribute [local go_sem] size_bs toList_bs
theorem yg(r:Fr)(g:Nat)(w:World)(hA:Blk w g 26 #[.string (bs r.num),.string (bs r.den)]) :
  Calls Tryz.prog 197 #[.slice (some ⟨g,0,none⟩) 1 1] w fun e w'=>e = .returned (.bool (bT r))∧Ext w w':=by
 have HA:=qh hA;clear hA;have HX:Hid (Ext w w):=qh (Ext.refl _);obtain⟨a0,a1,_,_⟩:=ar HA.out (Ext.refl _);by_cases h1:13<r.num.length
 focus
  have g1:decide ((13:Int)<(r.num.length:Int))=true:=by rw[decide_eq_true_iff];omega
  rw[Dj h1];clear h1;go_enter Tryz.func197,Tryz.ntmps197;go_wp2_with fail;refine wp_loop_rounds 1 ?_
 rotate_left
 focus
  have g1:decide ((13:Int)<(r.num.length:Int))=false:=by rw[decide_eq_false_iff_not];omega
  by_cases h2:13<r.den.length
  ·have g2:decide ((13:Int)<(r.den.length:Int))=true:=by rw[decide_eq_true_iff];omega
   rw[Dk h2];clear h1 h2;go_enter Tryz.func197,Tryz.ntmps197;go_wp2_with fail;refine wp_loop_rounds 1 ?_;rw[rounds_succ];go_wp2_with fail
   all_goals
    go_ret;exact⟨rfl,HX.out⟩
  have g2:decide ((13:Int)<(r.den.length:Int))=false:=by rw[decide_eq_false_iff_not];omega
  have e:bT r=false:=by unfold bT;simp;omega
  rw[e];clear h1 h2 e;go_enter Tryz.func197,Tryz.ntmps197;go_wp2_with fail;refine wp_loop_rounds 2 ?_;rw[rounds_succ];go_wp2_with fail
 all_goals
  rw[rounds_succ];go_wp2_with fail
  all_goals
   go_ret;exact⟨rfl,HX.out⟩
theorem du(r:Fr)(w:World):Calls Tryz.prog 122 #[fv r] w fun e w'=>e = .returned (.bool (bT r))∧Ext w w':=by
 obtain⟨n,d⟩:=r;have HB:=qh (Blk.new w 26 #[.string (bs n),.string (bs d)]);have HX:Hid (Ext w (w.alloc (.cells #[.string (bs n),.string (bs d)] 26))):=qh (Ext.new _ _);obtain⟨a0,a1,_,_⟩:=ar HB.out (Ext.refl _);have HL:=qh (yg ⟨n,d⟩ (w.heap.size+1) ((w.alloc (.cells #[.string (bs n),.string (bs d)] 26)).alloc (.cells #[.string (bs n),.string (bs d)] 26)) (Blk.newAt _ _ _ _ (by simp)));replace HX:=qh (HX.out.alloc (.cells #[.string (bs n),.string (bs d)] 26));go_enter Tryz.func122,Tryz.ntmps122;go_wp2_with fail;refine HL.out.mono ?_;rintro e v1⟨rfl,hx1⟩;replace HX:=HX.qt hx1;clear hx1;go_wp2_with fail;go_ret;exact⟨rfl,HX.out⟩
section
variable (f:FactV) (P O:Value) (w:World)
theorem Ig(h0:24<f.key.length):Calls Tryz.prog 51 #[az f P O] w fun e w'=>e = .returned (.bool true)∧Ext w w':=by
 have g0:decide ((24:Int)<(f.key.length:Int))=true:=by rw[decide_eq_true_iff];omega
 clear h0;have HB:=qh (Blk.new w 30 (af f P O));have HX:Hid (Ext w (w.alloc (.cells (af f P O) 30))):=qh (Ext.new _ _);go_enter Tryz.func51,Tryz.ntmps51;obtain⟨x0,-,-,-,-,x5,x6,x7,x8,x9,x10,x11,x12,x13,x14,x15,x16,x17,x18,x19,-⟩:=ah HB.out (Ext.refl _);go_wp2_with fail;go_ret;exact⟨rfl,HX.out⟩
theorem Ih(h0:¬ 24<f.key.length)(h1:24<f.ins.length):Calls Tryz.prog 51 #[az f P O] w fun e w'=>e = .returned (.bool true)∧Ext w w':=by
 have g0:decide ((24:Int)<(f.key.length:Int))=false:=by rw[decide_eq_false_iff_not];omega
 have g1:decide ((24:Int)<(f.ins.length:Int))=true:=by rw[decide_eq_true_iff];omega
 clear h0 h1;have HB:=qh (Blk.new w 30 (af f P O));have HX:Hid (Ext w (w.alloc (.cells (af f P O) 30))):=qh (Ext.new _ _);go_enter Tryz.func51,Tryz.ntmps51;obtain⟨x0,-,-,-,-,x5,x6,x7,x8,x9,x10,x11,x12,x13,x14,x15,x16,x17,x18,x19,-⟩:=ah HB.out (Ext.refl _);go_wp2_with fail;go_ret;exact⟨rfl,HX.out⟩
theorem Ii(h0:¬ 24<f.key.length)(h1:¬ 24<f.ins.length)(h2:24<f.other.length):Calls Tryz.prog 51 #[az f P O] w fun e w'=>e = .returned (.bool true)∧Ext w w':=by
 have g0:decide ((24:Int)<(f.key.length:Int))=false:=by rw[decide_eq_false_iff_not];omega
 have g1:decide ((24:Int)<(f.ins.length:Int))=false:=by rw[decide_eq_false_iff_not];omega
 have g2:decide ((24:Int)<(f.other.length:Int))=true:=by rw[decide_eq_true_iff];omega
 clear h0 h1 h2;have HB:=qh (Blk.new w 30 (af f P O));have HX:Hid (Ext w (w.alloc (.cells (af f P O) 30))):=qh (Ext.new _ _);go_enter Tryz.func51,Tryz.ntmps51;obtain⟨x0,-,-,-,-,x5,x6,x7,x8,x9,x10,x11,x12,x13,x14,x15,x16,x17,x18,x19,-⟩:=ah HB.out (Ext.refl _);go_wp2_with fail;go_ret;exact⟨rfl,HX.out⟩
theorem Ij(h0:¬ 24<f.key.length)(h1:¬ 24<f.ins.length)(h2:¬ 24<f.other.length)(h3:24<f.cur.length):Calls Tryz.prog 51 #[az f P O] w fun e w'=>e = .returned (.bool true)∧Ext w w':=by
 have g0:decide ((24:Int)<(f.key.length:Int))=false:=by rw[decide_eq_false_iff_not];omega
 have g1:decide ((24:Int)<(f.ins.length:Int))=false:=by rw[decide_eq_false_iff_not];omega
 have g2:decide ((24:Int)<(f.other.length:Int))=false:=by rw[decide_eq_false_iff_not];omega
 have g3:decide ((24:Int)<(f.cur.length:Int))=true:=by rw[decide_eq_true_iff];omega
 clear h0 h1 h2 h3;have HB:=qh (Blk.new w 30 (af f P O));have HX:Hid (Ext w (w.alloc (.cells (af f P O) 30))):=qh (Ext.new _ _);go_enter Tryz.func51,Tryz.ntmps51;obtain⟨x0,-,-,-,-,x5,x6,x7,x8,x9,x10,x11,x12,x13,x14,x15,x16,x17,x18,x19,-⟩:=ah HB.out (Ext.refl _);go_wp2_with fail;go_ret;exact⟨rfl,HX.out⟩
theorem Ik(h0:¬ 24<f.key.length)(h1:¬ 24<f.ins.length)(h2:¬ 24<f.other.length)(h3:¬ 24<f.cur.length)(h4:24<f.tgt.length):Calls Tryz.prog 51 #[az f P O] w fun e w'=>e = .returned (.bool true)∧Ext w w':=by
 have g0:decide ((24:Int)<(f.key.length:Int))=false:=by rw[decide_eq_false_iff_not];omega
 have g1:decide ((24:Int)<(f.ins.length:Int))=false:=by rw[decide_eq_false_iff_not];omega
 have g2:decide ((24:Int)<(f.other.length:Int))=false:=by rw[decide_eq_false_iff_not];omega
 have g3:decide ((24:Int)<(f.cur.length:Int))=false:=by rw[decide_eq_false_iff_not];omega
 have g4:decide ((24:Int)<(f.tgt.length:Int))=true:=by rw[decide_eq_true_iff];omega
 clear h0 h1 h2 h3 h4;have HB:=qh (Blk.new w 30 (af f P O));have HX:Hid (Ext w (w.alloc (.cells (af f P O) 30))):=qh (Ext.new _ _);go_enter Tryz.func51,Tryz.ntmps51;obtain⟨x0,-,-,-,-,x5,x6,x7,x8,x9,x10,x11,x12,x13,x14,x15,x16,x17,x18,x19,-⟩:=ah HB.out (Ext.refl _);go_wp2_with fail;go_ret;exact⟨rfl,HX.out⟩
theorem Il(h0:¬ 24<f.key.length)(h1:¬ 24<f.ins.length)(h2:¬ 24<f.other.length)(h3:¬ 24<f.cur.length)(h4:¬ 24<f.tgt.length)(h5:cC f.qty=true):Calls Tryz.prog 51 #[az f P O] w fun e w'=>e = .returned (.bool true)∧Ext w w':=by
 have g0:decide ((24:Int)<(f.key.length:Int))=false:=by rw[decide_eq_false_iff_not];omega
 have g1:decide ((24:Int)<(f.ins.length:Int))=false:=by rw[decide_eq_false_iff_not];omega
 have g2:decide ((24:Int)<(f.other.length:Int))=false:=by rw[decide_eq_false_iff_not];omega
 have g3:decide ((24:Int)<(f.cur.length:Int))=false:=by rw[decide_eq_false_iff_not];omega
 have g4:decide ((24:Int)<(f.tgt.length:Int))=false:=by rw[decide_eq_false_iff_not];omega
 have c5:=cj f.qty;rw[h5]at c5;have C5:=qh c5;clear h0 h1 h2 h3 h4 h5 c5;have HB:=qh (Blk.new w 30 (af f P O));have HX:Hid (Ext w (w.alloc (.cells (af f P O) 30))):=qh (Ext.new _ _);go_enter Tryz.func51,Tryz.ntmps51;obtain⟨x0,-,-,-,-,x5,x6,x7,x8,x9,x10,x11,x12,x13,x14,x15,x16,x17,x18,x19,-⟩:=ah HB.out (Ext.refl _);go_wp2_with fail;refine(C5.out _).mono ?_;rintro e v5⟨rfl,hx1⟩;replace HX:=HX.qt hx1;replace HB:=qh (HB.out.ext hx1);clear x0 x5 x6 x7 x8 x9 x10 x11 x12 x13 x14 x15 x16 x17 x18 x19;clear hx1 C5;obtain⟨x0,-,-,-,-,x5,x6,x7,x8,x9,x10,x11,x12,x13,x14,x15,x16,x17,x18,x19,-⟩:=ah HB.out (Ext.refl _);go_wp2_with fail;go_ret;exact⟨rfl,HX.out⟩
theorem Im(h0:¬ 24<f.key.length)(h1:¬ 24<f.ins.length)(h2:¬ 24<f.other.length)(h3:¬ 24<f.cur.length)(h4:¬ 24<f.tgt.length)(h5:cC f.qty=false)(h6:cC f.amt=true):Calls Tryz.prog 51 #[az f P O] w fun e w'=>e = .returned (.bool true)∧Ext w w':=by
 have g0:decide ((24:Int)<(f.key.length:Int))=false:=by rw[decide_eq_false_iff_not];omega
 have g1:decide ((24:Int)<(f.ins.length:Int))=false:=by rw[decide_eq_false_iff_not];omega
 have g2:decide ((24:Int)<(f.other.length:Int))=false:=by rw[decide_eq_false_iff_not];omega
 have g3:decide ((24:Int)<(f.cur.length:Int))=false:=by rw[decide_eq_false_iff_not];omega
 have g4:decide ((24:Int)<(f.tgt.length:Int))=false:=by rw[decide_eq_false_iff_not];omega
 have c5:=cj f.qty;rw[h5]at c5;have C5:=qh c5;have c6:=cj f.amt;rw[h6]at c6;have C6:=qh c6;clear h0 h1 h2 h3 h4 h5 h6 c5 c6;have HB:=qh (Blk.new w 30 (af f P O));have HX:Hid (Ext w (w.alloc (.cells (af f P O) 30))):=qh (Ext.new _ _);go_enter Tryz.func51,Tryz.ntmps51;obtain⟨x0,-,-,-,-,x5,x6,x7,x8,x9,x10,x11,x12,x13,x14,x15,x16,x17,x18,x19,-⟩:=ah HB.out (Ext.refl _);go_wp2_with fail;refine(C5.out _).mono ?_;rintro e v5⟨rfl,hx1⟩;replace HX:=HX.qt hx1;replace HB:=qh (HB.out.ext hx1);clear x0 x5 x6 x7 x8 x9 x10 x11 x12 x13 x14 x15 x16 x17 x18 x19;clear hx1 C5;obtain⟨x0,-,-,-,-,x5,x6,x7,x8,x9,x10,x11,x12,x13,x14,x15,x16,x17,x18,x19,-⟩:=ah HB.out (Ext.refl _);go_wp2_with fail;refine(C6.out _).mono ?_;rintro e v6⟨rfl,hx1⟩;replace HX:=HX.qt hx1;replace HB:=qh (HB.out.ext hx1);clear x0 x5 x6 x7 x8 x9 x10 x11 x12 x13 x14 x15 x16 x17 x18 x19;clear hx1 C6;obtain⟨x0,-,-,-,-,x5,x6,x7,x8,x9,x10,x11,x12,x13,x14,x15,x16,x17,x18,x19,-⟩:=ah HB.out (Ext.refl _);go_wp2_with fail;go_ret;exact⟨rfl,HX.out⟩
theorem Ip(h0:¬ 24<f.key.length)(h1:¬ 24<f.ins.length)(h2:¬ 24<f.other.length)(h3:¬ 24<f.cur.length)(h4:¬ 24<f.tgt.length)(h5:cC f.qty=false)(h6:cC f.amt=false)(h7:cC f.fee=true):Calls Tryz.prog 51 #[az f P O] w fun e w'=>e = .returned (.bool true)∧Ext w w':=by
 have g0:decide ((24:Int)<(f.key.length:Int))=false:=by rw[decide_eq_false_iff_not];omega
 have g1:decide ((24:Int)<(f.ins.length:Int))=false:=by rw[decide_eq_false_iff_not];omega
 have g2:decide ((24:Int)<(f.other.length:Int))=false:=by rw[decide_eq_false_iff_not];omega
 have g3:decide ((24:Int)<(f.cur.length:Int))=false:=by rw[decide_eq_false_iff_not];omega
 have g4:decide ((24:Int)<(f.tgt.length:Int))=false:=by rw[decide_eq_false_iff_not];omega
 have c5:=cj f.qty;rw[h5]at c5;have C5:=qh c5;have c6:=cj f.amt;rw[h6]at c6;have C6:=qh c6;have c7:=cj f.fee;rw[h7]at c7;have C7:=qh c7;clear h0 h1 h2 h3 h4 h5 h6 h7 c5 c6 c7;have HB:=qh (Blk.new w 30 (af f P O));have HX:Hid (Ext w (w.alloc (.cells (af f P O) 30))):=qh (Ext.new _ _);go_enter Tryz.func51,Tryz.ntmps51;obtain⟨x0,-,-,-,-,x5,x6,x7,x8,x9,x10,x11,x12,x13,x14,x15,x16,x17,x18,x19,-⟩:=ah HB.out (Ext.refl _);go_wp2_with fail;refine(C5.out _).mono ?_;rintro e v5⟨rfl,hx1⟩;replace HX:=HX.qt hx1;replace HB:=qh (HB.out.ext hx1);clear x0 x5 x6 x7 x8 x9 x10 x11 x12 x13 x14 x15 x16 x17 x18 x19;clear hx1 C5;obtain⟨x0,-,-,-,-,x5,x6,x7,x8,x9,x10,x11,x12,x13,x14,x15,x16,x17,x18,x19,-⟩:=ah HB.out (Ext.refl _);go_wp2_with fail;refine(C6.out _).mono ?_;rintro e v6⟨rfl,hx1⟩;replace HX:=HX.qt hx1;replace HB:=qh (HB.out.ext hx1);clear x0 x5 x6 x7 x8 x9 x10 x11 x12 x13 x14 x15 x16 x17 x18 x19;clear hx1 C6;obtain⟨x0,-,-,-,-,x5,x6,x7,x8,x9,x10,x11,x12,x13,x14,x15,x16,x17,x18,x19,-⟩:=ah HB.out (Ext.refl _);go_wp2_with fail;refine(C7.out _).mono ?_;rintro e v7⟨rfl,hx1⟩;replace HX:=HX.qt hx1;replace HB:=qh (HB.out.ext hx1);clear x0 x5 x6 x7 x8 x9 x10 x11 x12 x13 x14 x15 x16 x17 x18 x19;clear hx1 C7;obtain⟨x0,-,-,-,-,x5,x6,x7,x8,x9,x10,x11,x12,x13,x14,x15,x16,x17,x18,x19,-⟩:=ah HB.out (Ext.refl _);go_wp2_with fail;go_ret;exact⟨rfl,HX.out⟩
theorem Iq(h0:¬ 24<f.key.length)(h1:¬ 24<f.ins.length)(h2:¬ 24<f.other.length)(h3:¬ 24<f.cur.length)(h4:¬ 24<f.tgt.length)(h5:cC f.qty=false)(h6:cC f.amt=false)(h7:cC f.fee=false)(h8:bT f.price=true):Calls Tryz.prog 51 #[az f P O] w fun e w'=>e = .returned (.bool true)∧Ext w w':=by
 have g0:decide ((24:Int)<(f.key.length:Int))=false:=by rw[decide_eq_false_iff_not];omega
 have g1:decide ((24:Int)<(f.ins.length:Int))=false:=by rw[decide_eq_false_iff_not];omega
 have g2:decide ((24:Int)<(f.other.length:Int))=false:=by rw[decide_eq_false_iff_not];omega
 have g3:decide ((24:Int)<(f.cur.length:Int))=false:=by rw[decide_eq_false_iff_not];omega
 have g4:decide ((24:Int)<(f.tgt.length:Int))=false:=by rw[decide_eq_false_iff_not];omega
 have c5:=cj f.qty;rw[h5]at c5;have C5:=qh c5;have c6:=cj f.amt;rw[h6]at c6;have C6:=qh c6;have c7:=cj f.fee;rw[h7]at c7;have C7:=qh c7;have c8:=fun W=>du f.price W
 simp only[h8]at c8;have C8:=qh c8;clear h0 h1 h2 h3 h4 h5 h6 h7 h8 c5 c6 c7 c8;have HB:=qh (Blk.new w 30 (af f P O));have HX:Hid (Ext w (w.alloc (.cells (af f P O) 30))):=qh (Ext.new _ _);go_enter Tryz.func51,Tryz.ntmps51;obtain⟨x0,-,-,-,-,x5,x6,x7,x8,x9,x10,x11,x12,x13,x14,x15,x16,x17,x18,x19,-⟩:=ah HB.out (Ext.refl _);go_wp2_with fail;refine(C5.out _).mono ?_;rintro e v5⟨rfl,hx1⟩;replace HX:=HX.qt hx1;replace HB:=qh (HB.out.ext hx1);clear x0 x5 x6 x7 x8 x9 x10 x11 x12 x13 x14 x15 x16 x17 x18 x19;clear hx1 C5;obtain⟨x0,-,-,-,-,x5,x6,x7,x8,x9,x10,x11,x12,x13,x14,x15,x16,x17,x18,x19,-⟩:=ah HB.out (Ext.refl _);go_wp2_with fail;refine(C6.out _).mono ?_;rintro e v6⟨rfl,hx1⟩;replace HX:=HX.qt hx1;replace HB:=qh (HB.out.ext hx1);clear x0 x5 x6 x7 x8 x9 x10 x11 x12 x13 x14 x15 x16 x17 x18 x19;clear hx1 C6;obtain⟨x0,-,-,-,-,x5,x6,x7,x8,x9,x10,x11,x12,x13,x14,x15,x16,x17,x18,x19,-⟩:=ah HB.out (Ext.refl _);go_wp2_with fail;refine(C7.out _).mono ?_;rintro e v7⟨rfl,hx1⟩;replace HX:=HX.qt hx1;replace HB:=qh (HB.out.ext hx1);clear x0 x5 x6 x7 x8 x9 x10 x11 x12 x13 x14 x15 x16 x17 x18 x19;clear hx1 C7;obtain⟨x0,-,-,-,-,x5,x6,x7,x8,x9,x10,x11,x12,x13,x14,x15,x16,x17,x18,x19,-⟩:=ah HB.out (Ext.refl _);go_wp2_with fail;refine(C8.out _).mono ?_;rintro e v8⟨rfl,hx1⟩;replace HX:=HX.qt hx1;replace HB:=qh (HB.out.ext hx1);clear x0 x5 x6 x7 x8 x9 x10 x11 x12 x13 x14 x15 x16 x17 x18 x19;clear hx1 C8;obtain⟨x0,-,-,-,-,x5,x6,x7,x8,x9,x10,x11,x12,x13,x14,x15,x16,x17,x18,x19,-⟩:=ah HB.out (Ext.refl _);go_wp2_with fail;go_ret;exact⟨rfl,HX.out⟩
theorem Ir(h0:¬ 24<f.key.length)(h1:¬ 24<f.ins.length)(h2:¬ 24<f.other.length)(h3:¬ 24<f.cur.length)(h4:¬ 24<f.tgt.length)(h5:cC f.qty=false)(h6:cC f.amt=false)(h7:cC f.fee=false)(h8:bT f.price=false)(h9:bT f.ratio=true):Calls Tryz.prog 51 #[az f P O] w fun e w'=>e = .returned (.bool true)∧Ext w w':=by
 have g0:decide ((24:Int)<(f.key.length:Int))=false:=by rw[decide_eq_false_iff_not];omega
 have g1:decide ((24:Int)<(f.ins.length:Int))=false:=by rw[decide_eq_false_iff_not];omega
 have g2:decide ((24:Int)<(f.other.length:Int))=false:=by rw[decide_eq_false_iff_not];omega
 have g3:decide ((24:Int)<(f.cur.length:Int))=false:=by rw[decide_eq_false_iff_not];omega
 have g4:decide ((24:Int)<(f.tgt.length:Int))=false:=by rw[decide_eq_false_iff_not];omega
 have c5:=cj f.qty;rw[h5]at c5;have C5:=qh c5;have c6:=cj f.amt;rw[h6]at c6;have C6:=qh c6;have c7:=cj f.fee;rw[h7]at c7;have C7:=qh c7;have c8:=fun W=>du f.price W
 simp only[h8]at c8;have C8:=qh c8;have c9:=fun W=>du f.ratio W
 simp only[h9]at c9;have C9:=qh c9;clear h0 h1 h2 h3 h4 h5 h6 h7 h8 h9 c5 c6 c7 c8 c9;have HB:=qh (Blk.new w 30 (af f P O));have HX:Hid (Ext w (w.alloc (.cells (af f P O) 30))):=qh (Ext.new _ _);go_enter Tryz.func51,Tryz.ntmps51;obtain⟨x0,-,-,-,-,x5,x6,x7,x8,x9,x10,x11,x12,x13,x14,x15,x16,x17,x18,x19,-⟩:=ah HB.out (Ext.refl _);go_wp2_with fail;refine(C5.out _).mono ?_;rintro e v5⟨rfl,hx1⟩;replace HX:=HX.qt hx1;replace HB:=qh (HB.out.ext hx1);clear x0 x5 x6 x7 x8 x9 x10 x11 x12 x13 x14 x15 x16 x17 x18 x19;clear hx1 C5;obtain⟨x0,-,-,-,-,x5,x6,x7,x8,x9,x10,x11,x12,x13,x14,x15,x16,x17,x18,x19,-⟩:=ah HB.out (Ext.refl _);go_wp2_with fail;refine(C6.out _).mono ?_;rintro e v6⟨rfl,hx1⟩;replace HX:=HX.qt hx1;replace HB:=qh (HB.out.ext hx1);clear x0 x5 x6 x7 x8 x9 x10 x11 x12 x13 x14 x15 x16 x17 x18 x19;clear hx1 C6;obtain⟨x0,-,-,-,-,x5,x6,x7,x8,x9,x10,x11,x12,x13,x14,x15,x16,x17,x18,x19,-⟩:=ah HB.out (Ext.refl _);go_wp2_with fail;refine(C7.out _).mono ?_;rintro e v7⟨rfl,hx1⟩;replace HX:=HX.qt hx1;replace HB:=qh (HB.out.ext hx1);clear x0 x5 x6 x7 x8 x9 x10 x11 x12 x13 x14 x15 x16 x17 x18 x19;clear hx1 C7;obtain⟨x0,-,-,-,-,x5,x6,x7,x8,x9,x10,x11,x12,x13,x14,x15,x16,x17,x18,x19,-⟩:=ah HB.out (Ext.refl _);go_wp2_with fail;refine(C8.out _).mono ?_;rintro e v8⟨rfl,hx1⟩;replace HX:=HX.qt hx1;replace HB:=qh (HB.out.ext hx1);clear x0 x5 x6 x7 x8 x9 x10 x11 x12 x13 x14 x15 x16 x17 x18 x19;clear hx1 C8;obtain⟨x0,-,-,-,-,x5,x6,x7,x8,x9,x10,x11,x12,x13,x14,x15,x16,x17,x18,x19,-⟩:=ah HB.out (Ext.refl _);go_wp2_with fail;refine(C9.out _).mono ?_;rintro e v9⟨rfl,hx1⟩;replace HX:=HX.qt hx1;replace HB:=qh (HB.out.ext hx1);clear x0 x5 x6 x7 x8 x9 x10 x11 x12 x13 x14 x15 x16 x17 x18 x19;clear hx1 C9;obtain⟨x0,-,-,-,-,x5,x6,x7,x8,x9,x10,x11,x12,x13,x14,x15,x16,x17,x18,x19,-⟩:=ah HB.out (Ext.refl _);go_wp2_with fail;go_ret;exact⟨rfl,HX.out⟩
theorem Fj(h0:¬ 24<f.key.length)(h1:¬ 24<f.ins.length)(h2:¬ 24<f.other.length)(h3:¬ 24<f.cur.length)(h4:¬ 24<f.tgt.length)(h5:cC f.qty=false)(h6:cC f.amt=false)(h7:cC f.fee=false)(h8:bT f.price=false)(h9:bT f.ratio=false)(h10:bT f.share=true):Calls Tryz.prog 51 #[az f P O] w fun e w'=>e = .returned (.bool true)∧Ext w w':=by
 have g0:decide ((24:Int)<(f.key.length:Int))=false:=by rw[decide_eq_false_iff_not];omega
 have g1:decide ((24:Int)<(f.ins.length:Int))=false:=by rw[decide_eq_false_iff_not];omega
 have g2:decide ((24:Int)<(f.other.length:Int))=false:=by rw[decide_eq_false_iff_not];omega
 have g3:decide ((24:Int)<(f.cur.length:Int))=false:=by rw[decide_eq_false_iff_not];omega
 have g4:decide ((24:Int)<(f.tgt.length:Int))=false:=by rw[decide_eq_false_iff_not];omega
 have c5:=cj f.qty;rw[h5]at c5;have C5:=qh c5;have c6:=cj f.amt;rw[h6]at c6;have C6:=qh c6;have c7:=cj f.fee;rw[h7]at c7;have C7:=qh c7;have c8:=fun W=>du f.price W
 simp only[h8]at c8;have C8:=qh c8;have c9:=fun W=>du f.ratio W
 simp only[h9]at c9;have C9:=qh c9;have c10:=fun W=>du f.share W
 simp only[h10]at c10;have C10:=qh c10;clear h0 h1 h2 h3 h4 h5 h6 h7 h8 h9 h10 c5 c6 c7 c8 c9 c10;have HB:=qh (Blk.new w 30 (af f P O));have HX:Hid (Ext w (w.alloc (.cells (af f P O) 30))):=qh (Ext.new _ _);go_enter Tryz.func51,Tryz.ntmps51;obtain⟨x0,-,-,-,-,x5,x6,x7,x8,x9,x10,x11,x12,x13,x14,x15,x16,x17,x18,x19,-⟩:=ah HB.out (Ext.refl _);go_wp2_with fail;refine(C5.out _).mono ?_;rintro e v5⟨rfl,hx1⟩;replace HX:=HX.qt hx1;replace HB:=qh (HB.out.ext hx1);clear x0 x5 x6 x7 x8 x9 x10 x11 x12 x13 x14 x15 x16 x17 x18 x19;clear hx1 C5;obtain⟨x0,-,-,-,-,x5,x6,x7,x8,x9,x10,x11,x12,x13,x14,x15,x16,x17,x18,x19,-⟩:=ah HB.out (Ext.refl _);go_wp2_with fail;refine(C6.out _).mono ?_;rintro e v6⟨rfl,hx1⟩;replace HX:=HX.qt hx1;replace HB:=qh (HB.out.ext hx1);clear x0 x5 x6 x7 x8 x9 x10 x11 x12 x13 x14 x15 x16 x17 x18 x19;clear hx1 C6;obtain⟨x0,-,-,-,-,x5,x6,x7,x8,x9,x10,x11,x12,x13,x14,x15,x16,x17,x18,x19,-⟩:=ah HB.out (Ext.refl _);go_wp2_with fail;refine(C7.out _).mono ?_;rintro e v7⟨rfl,hx1⟩;replace HX:=HX.qt hx1;replace HB:=qh (HB.out.ext hx1);clear x0 x5 x6 x7 x8 x9 x10 x11 x12 x13 x14 x15 x16 x17 x18 x19;clear hx1 C7;obtain⟨x0,-,-,-,-,x5,x6,x7,x8,x9,x10,x11,x12,x13,x14,x15,x16,x17,x18,x19,-⟩:=ah HB.out (Ext.refl _);go_wp2_with fail;refine(C8.out _).mono ?_;rintro e v8⟨rfl,hx1⟩;replace HX:=HX.qt hx1;replace HB:=qh (HB.out.ext hx1);clear x0 x5 x6 x7 x8 x9 x10 x11 x12 x13 x14 x15 x16 x17 x18 x19;clear hx1 C8;obtain⟨x0,-,-,-,-,x5,x6,x7,x8,x9,x10,x11,x12,x13,x14,x15,x16,x17,x18,x19,-⟩:=ah HB.out (Ext.refl _);go_wp2_with fail;refine(C9.out _).mono ?_;rintro e v9⟨rfl,hx1⟩;replace HX:=HX.qt hx1;replace HB:=qh (HB.out.ext hx1);clear x0 x5 x6 x7 x8 x9 x10 x11 x12 x13 x14 x15 x16 x17 x18 x19;clear hx1 C9;obtain⟨x0,-,-,-,-,x5,x6,x7,x8,x9,x10,x11,x12,x13,x14,x15,x16,x17,x18,x19,-⟩:=ah HB.out (Ext.refl _);go_wp2_with fail;refine(C10.out _).mono ?_;rintro e v10⟨rfl,hx1⟩;replace HX:=HX.qt hx1;replace HB:=qh (HB.out.ext hx1);clear x0 x5 x6 x7 x8 x9 x10 x11 x12 x13 x14 x15 x16 x17 x18 x19;clear hx1 C10;obtain⟨x0,-,-,-,-,x5,x6,x7,x8,x9,x10,x11,x12,x13,x14,x15,x16,x17,x18,x19,-⟩:=ah HB.out (Ext.refl _);go_wp2_with fail;go_ret;exact⟨rfl,HX.out⟩
end
structure GreatNo (f:FactV) (ps:List Fr) (os:List OptV):Prop where
 key:f.key.length<=24
 ins:f.ins.length<=24
 other:f.other.length<=24
 cur:f.cur.length<=24
 tgt:f.tgt.length<=24
 qty:f.qty.length<=13
 amt:f.amt.length<=13
 fee:f.fee.length<=13
 pr:f.price.num.length<=13∧f.price.den.length<=13
 ra:f.ratio.num.length<=13∧f.ratio.den.length<=13
 sh:f.share.num.length<=13∧f.share.den.length<=13
 np:ps.length<=66
 ps:∀p ∈ ps,p.num.length<=30∧p.den.length<=13
 no:os.length<=10
 os:∀o ∈ os,j9 24 o
theorem lX{s:Bs}(h:cC s=false):s.length<=13:=by
 unfold cC at h;simp at h;omega
def mC(f:FactV)(ps:List Fr)(os:List OptV)(w:World)(e:Ending)(w':World):Prop:=(∃b,e = .returned (.bool b)∧(b=false->GreatNo f ps os))∧Ext w w'
theorem fM{f:FactV}{w:World}(hx:Ext w w'):mC f ps os w (.returned (.bool true)) w':=⟨⟨true,rfl,fun h=>by cases h⟩,hx⟩
theorem dj{f:FactV}{w:World}{e:Ending}(h:e = .returned (.bool true)∧Ext w w'):mC f ps os w e w':=by
 obtain⟨rfl,hx⟩:=h;exact fM hx
theorem Ds(f:FactV)(ps:List Fr)(os:List OptV)(pa oa:Option Addr)(pc oq:Nat)(w:World)(hP:dS w pa ps)(hO:l8 w oa os)(hn:ps.length<=4611686018427387904)(hm:os.length<=4611686018427387904) :
  Calls Tryz.prog 51 #[az f (ae pa ps.length pc) (ae oa os.length oq)] w (mC f ps os w):=by
 by_cases h0:24<f.key.length
 ·exact(Ig f _ _ w  h0).mono fun _ _ h=>dj h
 by_cases h1:24<f.ins.length
 ·exact(Ih f _ _ w h0 h1).mono fun _ _ h=>dj h
 by_cases h2:24<f.other.length
 ·exact(Ii f _ _ w h0 h1 h2).mono fun _ _ h=>dj h
 by_cases h3:24<f.cur.length
 ·exact(Ij f _ _ w h0 h1 h2 h3).mono fun _ _ h=>dj h
 by_cases h4:24<f.tgt.length
 ·exact(Ik f _ _ w h0 h1 h2 h3 h4).mono fun _ _ h=>dj h
 by_cases h5:cC f.qty=true
 ·exact(Il f _ _ w h0 h1 h2 h3 h4 h5).mono fun _ _ h=>dj h
 by_cases h6:cC f.amt=true
 ·exact(Im f _ _ w h0 h1 h2 h3 h4 (by simpa using h5) h6).mono fun _ _ h=>dj h
 by_cases h7:cC f.fee=true
 ·exact(Ip f _ _ w h0 h1 h2 h3 h4 (by simpa using h5) (by simpa using h6) h7).mono fun _ _ h=>dj h
 by_cases h8:bT f.price=true
 ·exact(Iq f _ _ w h0 h1 h2 h3 h4 (by simpa using h5) (by simpa using h6) (by simpa using h7) h8).mono fun _ _ h=>dj h
 by_cases h9:bT f.ratio=true
 ·exact(Ir f _ _ w h0 h1 h2 h3 h4 (by simpa using h5) (by simpa using h6) (by simpa using h7) (by simpa using h8) h9).mono fun _ _ h=>dj h
 by_cases h10:bT f.share=true
 ·exact(Fj f _ _ w h0 h1 h2 h3 h4 (by simpa using h5) (by simpa using h6) (by simpa using h7) (by simpa using h8) (by simpa using h9) h10).mono fun _ _ h=>dj h
 replace h5:cC f.qty=false:=by simpa using h5
 replace h6:cC f.amt=false:=by simpa using h6
 replace h7:cC f.fee=false:=by simpa using h7
 replace h8:bT f.price=false:=by simpa using h8
 replace h9:bT f.ratio=false:=by simpa using h9
 replace h10:bT f.share=false:=by simpa using h10
 have HG:Hid ((ps.length<=66∧∀p ∈ ps,p.num.length<=30∧p.den.length<=13)->(os.length<=10∧∀o ∈ os,j9 24 o)->GreatNo f ps os):=qh (fun a b=>⟨by omega,by omega,by omega,by omega,by omega,lX h5,lX h6,lX h7,i6 h8,i6 h9,i6 h10,a.1,a.2,b.1,b.2⟩);have HP:=qh hP;have HO:=qh hO;clear hP hO;have g0:decide ((24:Int)<(f.key.length:Int))=false:=by rw[decide_eq_false_iff_not];omega
 have g1:decide ((24:Int)<(f.ins.length:Int))=false:=by rw[decide_eq_false_iff_not];omega
 have g2:decide ((24:Int)<(f.other.length:Int))=false:=by rw[decide_eq_false_iff_not];omega
 have g3:decide ((24:Int)<(f.cur.length:Int))=false:=by rw[decide_eq_false_iff_not];omega
 have g4:decide ((24:Int)<(f.tgt.length:Int))=false:=by rw[decide_eq_false_iff_not];omega
 have c5:=cj f.qty;rw[h5]at c5;have C5:=qh c5;have c6:=cj f.amt;rw[h6]at c6;have C6:=qh c6;have c7:=cj f.fee;rw[h7]at c7;have C7:=qh c7;have c8:=fun W=>du f.price W
 simp only[h8]at c8;have C8:=qh c8;have c9:=fun W=>du f.ratio W
 simp only[h9]at c9;have C9:=qh c9;have c10:=fun W=>du f.share W
 simp only[h10]at c10;have C10:=qh c10;clear h0 h1 h2 h3 h4 h5 h6 h7 h8 h9 h10 c5 c6 c7 c8 c9 c10;have HB:=qh (Blk.new w 30 (af f (ae pa ps.length pc) (ae oa os.length oq)));have HX:Hid (Ext w (w.alloc (.cells (af f (ae pa ps.length pc) (ae oa os.length oq)) 30))):=qh (Ext.new _ _);go_enter Tryz.func51,Tryz.ntmps51;obtain⟨x0,-,-,-,-,x5,x6,x7,x8,x9,x10,x11,x12,x13,x14,x15,x16,x17,x18,x19,-⟩:=ah HB.out (Ext.refl _);go_wp2_with fail;refine(C5.out _).mono ?_;rintro e v5⟨rfl,hx1⟩;replace HX:=HX.qt hx1;replace HB:=qh (HB.out.ext hx1);clear x0 x5 x6 x7 x8 x9 x10 x11 x12 x13 x14 x15 x16 x17 x18 x19;clear hx1 C5;obtain⟨x0,-,-,-,-,x5,x6,x7,x8,x9,x10,x11,x12,x13,x14,x15,x16,x17,x18,x19,-⟩:=ah HB.out (Ext.refl _);go_wp2_with fail;refine(C6.out _).mono ?_;rintro e v6⟨rfl,hx1⟩;replace HX:=HX.qt hx1;replace HB:=qh (HB.out.ext hx1);clear x0 x5 x6 x7 x8 x9 x10 x11 x12 x13 x14 x15 x16 x17 x18 x19;clear hx1 C6;obtain⟨x0,-,-,-,-,x5,x6,x7,x8,x9,x10,x11,x12,x13,x14,x15,x16,x17,x18,x19,-⟩:=ah HB.out (Ext.refl _);go_wp2_with fail;refine(C7.out _).mono ?_;rintro e v7⟨rfl,hx1⟩;replace HX:=HX.qt hx1;replace HB:=qh (HB.out.ext hx1);clear x0 x5 x6 x7 x8 x9 x10 x11 x12 x13 x14 x15 x16 x17 x18 x19;clear hx1 C7;obtain⟨x0,-,-,-,-,x5,x6,x7,x8,x9,x10,x11,x12,x13,x14,x15,x16,x17,x18,x19,-⟩:=ah HB.out (Ext.refl _);go_wp2_with fail;refine(C8.out _).mono ?_;rintro e v8⟨rfl,hx1⟩;replace HX:=HX.qt hx1;replace HB:=qh (HB.out.ext hx1);clear x0 x5 x6 x7 x8 x9 x10 x11 x12 x13 x14 x15 x16 x17 x18 x19;clear hx1 C8;obtain⟨x0,-,-,-,-,x5,x6,x7,x8,x9,x10,x11,x12,x13,x14,x15,x16,x17,x18,x19,-⟩:=ah HB.out (Ext.refl _);go_wp2_with fail;refine(C9.out _).mono ?_;rintro e v9⟨rfl,hx1⟩;replace HX:=HX.qt hx1;replace HB:=qh (HB.out.ext hx1);clear x0 x5 x6 x7 x8 x9 x10 x11 x12 x13 x14 x15 x16 x17 x18 x19;clear hx1 C9;obtain⟨x0,-,-,-,-,x5,x6,x7,x8,x9,x10,x11,x12,x13,x14,x15,x16,x17,x18,x19,-⟩:=ah HB.out (Ext.refl _);go_wp2_with fail;refine(C10.out _).mono ?_;rintro e v10⟨rfl,hx1⟩;replace HX:=HX.qt hx1;replace HB:=qh (HB.out.ext hx1);clear x0 x5 x6 x7 x8 x9 x10 x11 x12 x13 x14 x15 x16 x17 x18 x19;clear hx1 C10;obtain⟨-,-,-,-,-,-,-,-,-,-,-,-,-,-,-,-,-,-,x18,x19,-⟩:=ah HB.out (Ext.refl _);obtain hN|hN|hN|hN:ps.length<=4∨(4<ps.length∧ps.length<=64)∨(64<ps.length∧ps.length<=66)∨66<ps.length:=by omega
 all_goals obtain hM|hM|hM|hM:os.length<=3∨(3<os.length∧os.length<=8)∨(8<os.length∧os.length<=10)∨10<os.length:=by omega
 all_goals
  first|have p4:decide ((4:Int)<(ps.length:Int))=true:=by rw[decide_eq_true_iff];omega|have p4:decide ((4:Int)<(ps.length:Int))=false:=by rw[decide_eq_false_iff_not];omega
  first|have p64:decide ((ps.length:Int)<=64)=true:=by rw[decide_eq_true_iff];omega|have p64:decide ((ps.length:Int)<=64)=false:=by rw[decide_eq_false_iff_not];omega
  first|have p66:decide ((66:Int)<(ps.length:Int))=true:=by rw[decide_eq_true_iff];omega|have p66:decide ((66:Int)<(ps.length:Int))=false:=by rw[decide_eq_false_iff_not];omega
  first|have q3:decide ((3:Int)<(os.length:Int))=true:=by rw[decide_eq_true_iff];omega|have q3:decide ((3:Int)<(os.length:Int))=false:=by rw[decide_eq_false_iff_not];omega
  first|have q8:decide ((os.length:Int)<=8)=true:=by rw[decide_eq_true_iff];omega|have q8:decide ((os.length:Int)<=8)=false:=by rw[decide_eq_false_iff_not];omega
  first|have q10:decide ((10:Int)<(os.length:Int))=true:=by rw[decide_eq_true_iff];omega|have q10:decide ((10:Int)<(os.length:Int))=false:=by rw[decide_eq_false_iff_not];omega
  go_wp2_with fail;try (go_ret;exact fM HX.out)
 all_goals
  have hN66:Hid (ps.length<=66):=qh (by omega);have hM10:Hid (os.length<=10):=qh (by omega);clear p4 p64 p66 q3 q8 q10 hN hM x18 x19;go_loopw [3] (fun i wr=>∃k:Nat,k<=ps.length∧i = .int .i64 k∧(∀x ∈ ps.take k,x.num.length<=30∧x.den.length<=13)∧Ext w wr∧Blk wr w.heap.size 30 (af f (ae pa ps.length pc) (ae oa os.length oq))) (fun i _=>ps.length-(intOf i).toNat)
  case atStart=>exact⟨0,by omega,rfl,by simp,HX.out,HB.out⟩
  case round =>
   clear HX HB;obtain⟨k,hk,rfl,hz,hx,hb⟩:=hrel;have HX:=qh hx;have HB:=qh hb;have HZ:=qh hz;clear hx hb hz;obtain⟨-,-,-,-,-,-,-,-,-,-,-,-,-,-,-,-,-,-,x18,x19,-⟩:=ah HB.out (Ext.refl _);by_cases hlt:k<ps.length
   ·obtain⟨b,o,rfl,hb,c0,c1⟩:=(HP.out.ext HX.out).at_ hlt;have hki:(k:Int)<(ps.length:Int):=by omega
    have hk0:(0:Int)<=(k:Int):=by omega
    have HNx:Hid (((ps[k]'hlt).num.length<=30∧(ps[k]'hlt).den.length<=13)->∀x ∈ ps.take (k+1),x.num.length<=30∧x.den.length<=13):=qh (fun h x hx=>by
     rw[List.take_succ_eq_append_getElem hlt]at hx;rcases List.mem_append.1 hx with hx|hx
     ·exact HZ.out x hx
     ·rw[List.mem_singleton]at hx;rw[hx];exact h)
    generalize ps[k]'hlt=y at *;obtain⟨lt,qt⟩:=y;dsimp only at c0 c1 HNx;by_cases hl:30<lt.length
    ·have g:decide ((30:Int)<(lt.length:Int))=true:=by rw[decide_eq_true_iff];omega
     clear HNx HG HP HO;go_wp2_with fail;go_ret;exact fM HX.out
    have g:decide ((30:Int)<(lt.length:Int))=false:=by rw[decide_eq_false_iff_not];omega
    have LG:=qh (cj qt);have hll:Hid (lt.length<=30):=qh (by omega);have hqq:=qh (fun h:cC qt=false=>lX h);generalize cC qt=lq at *;clear hl;go_wp2_with fail;refine(LG.out _).mono ?_;rintro e v5⟨rfl,hx1⟩;replace HX:=HX.qt hx1;replace HB:=qh (HB.out.ext hx1);clear hx1 c0 c1 x18 x19 hb
    cases lq
    ·have hz1:=qh (HNx.out ⟨hll.out,hqq.out (by trivial)⟩);clear HNx hll hqq LG;go_wp2_with fail;exact⟨⟨k+1,by omega,by go_num,hz1.out,HX.out,HB.out⟩,by simp[intOf];omega⟩
    ·clear HNx hll hqq LG HG HP HO;go_wp2_with fail;go_ret;exact fM HX.out
   ·have hke:k=ps.length:=by omega
    subst hke;have HP2:=qh HZ.out;rw[List.take_length]at HP2;replace HG:=qh (HG.out ⟨hN66.out,HP2.out⟩);have hki:¬ ((ps.length:Int)<(ps.length:Int)):=by omega
    clear hlt hk HZ HP2 HP hN66;go_wp2_with fail;clear x18 x19;go_loopw [4,5] (fun i _ wr=>∃k:Nat,k<=os.length∧i = .int .i64 k∧(∀x ∈ os.take k,j9 24 x)∧Ext w wr∧Blk wr w.heap.size 30 (af f (ae pa ps.length pc) (ae oa os.length oq))) (fun i _ _=>os.length-(intOf i).toNat)
    case atStart=>exact⟨0,by omega,rfl,by simp,HX.out,HB.out⟩
    case round =>
     clear HX HB;obtain⟨k,hk,rfl,hz,hx,hb⟩:=hrel;have HX:=qh hx;have HB:=qh hb;have HZ:=qh hz;clear hx hb hz;obtain⟨-,-,-,-,-,-,-,-,-,-,-,-,-,-,-,-,-,-,x18,x19,-⟩:=ah HB.out (Ext.refl _);by_cases hlt:k<os.length
     ·obtain⟨b,o,rfl,hb,c0,c1,c2,c3,c4,c5,c6⟩:=(HO.out.ext HX.out).at_ hlt;have hki:(k:Int)<(os.length:Int):=by omega
      have hk0:(0:Int)<=(k:Int):=by omega
      have HNx:Hid (j9 24 (os[k]'hlt)->∀x ∈ os.take (k+1),j9 24 x):=qh (fun h x hx=>by
       rw[List.take_succ_eq_append_getElem hlt]at hx;rcases List.mem_append.1 hx with hx|hx
       ·exact HZ.out x hx
       ·rw[List.mem_singleton]at hx;rw[hx];exact h)
      generalize os[k]'hlt=y at *;obtain⟨ot,⟨rn,rd⟩,⟨pn,pd⟩,⟨vn,vd⟩⟩:=y;dsimp only at c0 c1 c2 c3 c4 c5 c6;have HOB:=qh (Blk.new wr 154 (oc ⟨ot,⟨rn,rd⟩,⟨pn,pd⟩,⟨vn,vd⟩⟩));replace HX:=qh (HX.out.alloc (.cells (oc ⟨ot,⟨rn,rd⟩,⟨pn,pd⟩,⟨vn,vd⟩⟩) 154));replace HB:=qh (HB.out.alloc (.cells (oc ⟨ot,⟨rn,rd⟩,⟨pn,pd⟩,⟨vn,vd⟩⟩) 154));obtain⟨r0,r1,r2,r3,r4,r5,r6⟩:=jd HOB.out (Ext.refl _);by_cases hl:24<ot.length
      ·have g:decide ((24:Int)<(ot.length:Int))=true:=by rw[decide_eq_true_iff];omega
       clear HNx HG HO;go_wp2_with fail;go_ret;exact fM HX.out
      have g:decide ((24:Int)<(ot.length:Int))=false:=by rw[decide_eq_false_iff_not];omega
      have hll:Hid (ot.length<=24):=qh (by omega);have L1:=qh (fun W=>du ⟨rn,rd⟩ W);have L2:=qh (fun W=>du ⟨pn,pd⟩ W);have L3:=qh (fun W=>du ⟨vn,vd⟩ W)
      have hF:Hid (bT ⟨rn,rd⟩=false->bT ⟨pn,pd⟩=false->bT ⟨vn,vd⟩=false->j9 24 ⟨ot,⟨rn,rd⟩,⟨pn,pd⟩,⟨vn,vd⟩⟩):=qh (fun a b c=>by
       have a':=i6 a;have b':=i6 b;have c':=i6 c;have d':=hll.out;dsimp only at a' b' c';exact⟨by dsimp only;omega,by dsimp only;omega,by dsimp only;omega,by dsimp only;omega,by dsimp only;omega,by dsimp only;omega,by dsimp only;omega⟩)
      generalize bT ⟨rn,rd⟩=l1 at *;generalize bT ⟨pn,pd⟩=l2 at *;generalize bT ⟨vn,vd⟩=l3 at *;clear hl hll;go_wp2_with fail;refine(L1.out _).mono ?_;rintro e v5⟨rfl,hx1⟩;replace HX:=HX.qt hx1;replace HB:=qh (HB.out.ext hx1);replace HOB:=qh (HOB.out.ext hx1);clear hx1 c0 c1 c2 c3 c4 c5 c6 x18 x19 hb r0 r1 r2 r3 r4 r5 r6 L1
      cases l1;rotate_left
      ·clear HNx HG HO hF L2 L3;go_wp2_with fail;go_ret;exact fM HX.out
      obtain⟨r0,r1,r2,r3,r4,r5,r6⟩:=jd HOB.out (Ext.refl _);go_wp2_with fail;refine(L2.out _).mono ?_;rintro e v6⟨rfl,hx1⟩;replace HX:=HX.qt hx1;replace HB:=qh (HB.out.ext hx1);replace HOB:=qh (HOB.out.ext hx1);clear hx1 r0 r1 r2 r3 r4 r5 r6 L2
      cases l2;rotate_left
      ·clear HNx HG HO hF L3;go_wp2_with fail;go_ret;exact fM HX.out
      obtain⟨r0,r1,r2,r3,r4,r5,r6⟩:=jd HOB.out (Ext.refl _);go_wp2_with fail;refine(L3.out _).mono ?_;rintro e v7⟨rfl,hx1⟩;replace HX:=HX.qt hx1;replace HB:=qh (HB.out.ext hx1);clear hx1 r0 r1 r2 r3 r4 r5 r6 L3 HOB
      cases l3;rotate_left
      ·clear HNx HG HO hF;go_wp2_with fail;go_ret;exact fM HX.out
      have hz1:=qh (HNx.out (hF.out (by trivial) (by trivial) (by trivial)));clear HNx hF;go_wp2_with fail;exact⟨⟨k+1,by omega,by go_num,hz1.out,HX.out,HB.out⟩,by simp[intOf];omega⟩
     ·have hke:k=os.length:=by omega
      subst hke;have HP2:=qh HZ.out;rw[List.take_length]at HP2;replace HG:=qh (HG.out ⟨hM10.out,HP2.out⟩);have hki:¬ ((os.length:Int)<(os.length:Int)):=by omega
      clear hlt hk HZ HP2 HO hM10;go_wp2_with fail;go_ret;exact⟨⟨false,rfl,fun _=>HG.out⟩,HX.out⟩
def Fk(ls:List LotV)(f:FactV)(ps:List Fr)(os:List OptV)(w:World)(e:Ending)(w':World):Prop:=(∃b,e = .returned (.bool b)∧(b=false->bG ls=false∧GreatNo f ps os))∧Ext w w'
theorem uW(ls:List LotV)(A:Option Addr)(c:Nat)(f:FactV)(ps:List Fr)(os:List OptV)(pa oa:Option Addr)(pc oq:Nat)(w:World)(hA:aG w A ls)(hP:dS w pa ps)(hO:l8 w oa os)(hn:ps.length<=4611686018427387904)(hm:os.length<=4611686018427387904)(hl:ls.length<=4611686018427387904) :
  Calls Tryz.prog 10 #[.slice A ls.length c,az f (ae pa ps.length pc) (ae oa os.length oq)] w (Fk ls f ps os w):=by
 have HB:=qh (Blk.new w 30 (af f (ae pa ps.length pc) (ae oa os.length oq)));have HX:Hid (Ext w (w.alloc (.cells (af f (ae pa ps.length pc) (ae oa os.length oq)) 30))):=qh (Ext.new _ _);have RG:=qh (zN ls A c _ (hA.ext HX.out) (by omega));have FG:=qh (fun W (hx:Ext w W)=>Ds f ps os pa oa pc oq W (hP.ext hx) (hO.ext hx) hn hm);have hs1:(Tryz.prog.info? 30).map (·.size)=some (af f (ae pa ps.length pc) (ae oa os.length oq)).toList.length:=by kernel_rfl
 have HGA:=qh (fun h:bG ls=false=>h);generalize hga:bG ls=ga at *;have HG0:=qh hga;clear hga HGA;clear hA hP hO;go_enter Tryz.func10,Tryz.ntmps10;go_wp2_with fail;refine RG.out.mono ?_;rintro e v1⟨rfl,hx1⟩;replace HX:=HX.qt hx1;replace HB:=qh (HB.out.ext hx1);clear hx1 RG;have hrg:=aE HB.out
 cases ga
 ·go_wp2_with (first|refine bX (by kernel_rfl) 30 _ rfl w.heap.size 0 rfl _ _ hrg Tryz.underlying30 rfl hs1 ?_|fail);refine(FG.out _ HX.out).mono ?_;rintro e v2⟨⟨b,rfl,hb⟩,hx1⟩;replace HX:=HX.qt hx1;have hb2:=qh (fun h=>And.intro HG0.out (hb h));clear hx1 hb hrg
  cases b
  ·go_wp2_with fail;go_ret;exact⟨⟨false,rfl,fun _=>hb2.out (by trivial)⟩,HX.out⟩
  ·go_wp2_with fail;go_ret;exact⟨⟨true,rfl,fun h=>by cases h⟩,HX.out⟩
 ·clear hrg;go_wp2_with fail;go_ret;exact⟨⟨true,rfl,fun h=>by cases h⟩,HX.out⟩
structure LawIn (w:World) (ls:List LotV) (A:Option Addr) (f:FactV) (ps:List Fr) (os:List OptV) (pa oa:Option Addr) (pc:Nat):Prop where
 la:aG w A ls
 rp:dS w pa ps
 cp:ps.length<=pc
 ro:l8 w oa os
 wf:(Lit.int .i64 f.kind).wf=true
 nl:ls.length<=4611686018427387904
 np:ps.length<=4611686018427387904
 no:os.length<=4611686018427387904
theorem LawIn.fact{w:World}{ls:List LotV}{A:Option Addr}{f:FactV}{pa oa:Option Addr}(h:LawIn w ls A f ps os pa oa pc)(n:GreatNo f ps os):FactAt w f ps os pa oa pc:=by
 obtain⟨n0,n1,n2,n3,n4,n5,n6,n7,n8,n9,n10,n11,n12,n13,n14⟩:=n;refine⟨⟨by omega,by omega,by omega,by omega,by omega,by omega,by omega,by omega,by omega,by omega,by omega,by omega,by omega,by omega⟩,h.rp,fun p hp=>?_,by omega,h.cp,h.ro,fun o ho=>?_,by omega⟩
 ·have:=n12 p hp;omega
 ·obtain⟨s0,s1,s2,s3,s4,s5,s6⟩:=n14 o ho;exact⟨by omega,by omega,by omega,by omega,by omega,by omega,by omega⟩
end
section
open Go.RowKit Go.Shelf
attribute [local go_sem] size_bs toList_bs
structure SellGo (ls:List LotV) (f:FactV) (ps:List Fr) (os:List OptV) (m:Int):Prop where
 inn:SelIn ls f ps os
 n1:1<=m.toNat
 n6:m.toNat<=6
 m_:((m.toNat:Nat):Int)=m
 q:valI f.qty<=totQ ls f.ins
theorem lY(ls:List LotV)(f:FactV)(ps:List Fr)(os:List OptV)(k:Int):(checkAllL ls≠0∨aU f ps os≠0)∧gg ls f ps os k=1∨(checkAllL ls=0∧aU f ps os=0∧f.kind≠k∧gg ls f ps os k=7)∨(checkAllL ls=0∧aU f ps os=0∧f.kind=k∧gg ls f ps os k=0):=by
 unfold gg;by_cases h1:checkAllL ls≠0∨aU f ps os≠0
 ·rw[if_pos h1];exact .inl ⟨h1,rfl⟩
 ·rw[if_neg h1]
  have a:checkAllL ls=0:=by
   by_cases h:checkAllL ls=0
   ·exact h
   ·exact absurd (.inl h) h1
  have b:aU f ps os=0:=by
   by_cases h:aU f ps os=0
   ·exact h
   ·exact absurd (.inr h) h1
  by_cases h2:f.kind=k
  ·rw[if_neg (by simpa using h2)];exact .inr (.inr ⟨a,b,h2,rfl⟩)
  ·rw[if_pos h2];exact .inr (.inl ⟨a,b,h2,rfl⟩)
theorem j5{ls:List LotV}{f:FactV}{m:Int}(hG:bG ls=false)(h:cN ls f ps os m=0):SellGo ls f ps os m:=by
 unfold cN at h;split at h
 ·rename_i h1;exact absurd h h1
 rename_i h1
 split at h
 ·exact absurd h (by decide)
 rename_i h2
 split at h
 ·exact absurd h (by decide)
 rename_i h3
 have h1':gg ls f ps os 4=0:=by
  by_cases g:gg ls f ps os 4=0
  ·exact g
  ·exact absurd g h1
 rcases lY ls f ps os 4 with ⟨_,e⟩ | ⟨_,_,_,e⟩ | ⟨a,b,c,_⟩
 ·rw[e]at h1';exact absurd h1' (by decide)
 ·rw[e]at h1';exact absurd h1' (by decide)
 ·exact⟨⟨hG,a,b,c⟩,by omega,by omega,by omega,by omega⟩
theorem yh(ls:List LotV)(A:Option Addr)(c:Nat)(f:FactV)(ps:List Fr)(os:List OptV)(pa oa:Option Addr)(pc oq:Nat)(m:Int)(w:World)(hE:Env w)(hA:aG w A ls)(hF:FactAt w f ps os pa oa pc)(hwf:(Lit.int .i64 f.kind).wf=true)(hG:bG ls=false)(h:cN ls f ps os m≠0) :
  Calls Tryz.prog 13 #[.slice A ls.length c,az f (ae pa ps.length pc) (ae oa os.length oq),.int .i64 m] w fun e w'=>e = .returned (.tuple #[zR,.int .i64 (cN ls f ps os m)])∧Ext w w':=by
 have hs:=bM hG;have hn:ls.length<=100000:=by have:=(cI hG).1;omega
 by_cases h1:gg ls f ps os 4=0;rotate_left
 ·refine uV ls A c f ps os pa oa pc oq m w hE hA hF hwf hs hn _ (.inl ⟨h1,?_⟩);unfold cN;rw[if_pos h1]
 by_cases h2:m<1∨7<=m
 ·refine uV ls A c f ps os pa oa pc oq m w hE hA hF hwf hs hn _ (.inr ⟨h1,h2,?_⟩);unfold cN;rw[if_neg (by simpa using h1),if_pos h2]
 ·have h3:totQ ls f.ins<valI f.qty:=by
   refine Int.not_le.1 fun g=>h ?_
   unfold cN;rw[if_neg (by simpa using h1),if_neg h2,if_neg (by omega)]
  have e:cN ls f ps os m=15:=by
   unfold cN;rw[if_neg (by simpa using h1),if_neg h2,if_pos h3]
  rcases lY ls f ps os 4 with ⟨_,e1⟩ | ⟨_,_,_,e1⟩ | ⟨a,b,c',e1⟩
  ·rw[e1]at h1;exact absurd h1 (by decide)
  ·rw[e1]at h1;exact absurd h1 (by decide)
  ·have hm:((m.toNat:Nat):Int)=m:=by omega
   have hh:=xY ls A c f ps os pa oa pc oq m.toNat w hE hA hF ⟨hG,a,b,c'⟩ (by omega) (by omega) h3;rw[hm]at hh;rw[e];exact hh
theorem qp(ls:List LotV)(A:Option Addr)(c:Nat)(f:FactV)(ps:List Fr)(os:List OptV)(pa oa:Option Addr)(pc oq:Nat)(m:Int)(w:World)(hE:Env w)(hA:aG w A ls)(hF:FactAt w f ps os pa oa pc)(h:SellGo ls f ps os m) :
  Calls Tryz.prog 13 #[.slice A ls.length c,az f (ae pa ps.length pc) (ae oa os.length oq),.int .i64 m] w (fw (bP ls f m.toNat ps) (aP ls f m.toNat ps) (iZ ls f m.toNat ps) w):=by
 have hh:=tw ls A c f ps os pa oa pc oq m.toNat w hE hA hF h.inn h.n1 h.n6 h.q;rw[h.m_]at hh;exact hh
theorem tx(gs:List GainV)(A:Option Addr)(c:Nat)(w:World)(hE:Env w)(hA:jQ w A gs)(hs:∀g ∈ gs,g.q.length<=4000∧g.p.length<=4000∧g.c.length<=4000)(hn:gs.length<=100000) :
  Calls Tryz.prog 17 #[.slice A gs.length c] w fun e w'=>e = .returned (.tuple #[.string (bs (ofI (bQ (·.q) gs))),.string (bs (ofI (bQ (·.p) gs))),.string (bs (ofI (bQ (·.c) gs)))])∧Ext w w':=by
 have HE:=qh hE;have HA:=qh hA;have HS:=qh hs;have HL1:=qh (ox (f:=(·.q)) (L:=4000) (fun g hg=>(hs g hg).1) hn);have HL2:=qh (ox (f:=(·.p)) (L:=4000) (fun g hg=>(hs g hg).2.1) hn);have HL3:=qh (ox (f:=(·.c)) (L:=4000) (fun g hg=>(hs g hg).2.2) hn);clear hE hA hs;go_enter Tryz.func17,Tryz.ntmps17;go_wp2_with fail;go_loopw [12,5,6,7] (fun i v6 v7 v8 wr=>∃k:Nat,k<=gs.length∧i = .int .i64 k∧v6 = .string (bs (ofI (bQ (·.q) (gs.take k))))∧v7 = .string (bs (ofI (bQ (·.p) (gs.take k))))∧v8 = .string (bs (ofI (bQ (·.c) (gs.take k))))∧Ext w wr) (fun i _ _ _ _=>gs.length-(intOf i).toNat)
 case atStart=>exact⟨0,by omega,rfl,by simp[bQ,cP.2 rfl];rfl,by simp[bQ,cP.2 rfl];rfl,by simp[bQ,cP.2 rfl];rfl,Ext.refl _⟩
 case round =>
  obtain⟨k,hk,rfl,rfl,rfl,rfl,hx⟩:=hrel;have HX:=qh hx;clear hx;by_cases hlt:k<gs.length
  ·obtain⟨b,o,rfl,hb,c0,c1,c2,c3,c4,c5,c6,c7,c8,c9⟩:=(HA.out.ext HX.out).at_ hlt;have hki:(k:Int)<(gs.length:Int):=by omega
   have hk0:(0:Int)<=(k:Int):=by omega
   have hsm:=HS.out _ (List.getElem_mem hlt);have l1:=HL1.out k;have l2:=HL2.out k;have l3:=HL3.out k;have a1:=ii (ofI (bQ (·.q) (gs.take k))) (gs[k]'hlt).q (by omega) (by have:=hsm.1;omega);have a2:=ii (ofI (bQ (·.p) (gs.take k))) (gs[k]'hlt).p (by omega) (by have:=hsm.2.1;omega);have a3:=ii (ofI (bQ (·.c) (gs.take k))) (gs[k]'hlt).c (by omega) (by have:=hsm.2.2;omega);rw[valI_ofI,←mA (f:=(·.q)) hlt]at a1;rw[valI_ofI,←mA (f:=(·.p)) hlt]at a2;rw[valI_ofI,←mA (f:=(·.c)) hlt]at a3;have A1:=qh a1;have A2:=qh a2;have A3:=qh a3;clear hsm l1 l2 l3 a1 a2 a3;have HG:=qh (Blk.new wr 60 (nk (gs[k]'hlt)));replace HX:=qh (HX.out.alloc (.cells (nk (gs[k]'hlt)) 60));generalize (gs[k]'hlt)=x at *;generalize hq1:ofI (bQ (·.q) (gs.take (k+1)))=q1 at *;generalize hq2:ofI (bQ (·.p) (gs.take (k+1)))=q2 at *;generalize hq3:ofI (bQ (·.c) (gs.take (k+1)))=q3 at *;have HQ1:=qh hq1;have HQ2:=qh hq2;have HQ3:=qh hq3;clear hq1 hq2 hq3;generalize ofI (bQ (·.q) (gs.take k))=z1 at *;generalize ofI (bQ (·.p) (gs.take k))=z2 at *;generalize ofI (bQ (·.c) (gs.take k))=z3 at *;obtain⟨gk,gl,gi,ga,gc',gq,gp,gco,gd,gr⟩:=x;simp only at *;go_upto_region 5 with fail;clear c0 c1 c2 c3 c4 c5 c6 c7 c8 c9;generalize wr.alloc (.cells #[.string (bs gk),.string (bs gl),.string (bs gi),.int .i64 ga,.int .i64 gc',.string (bs gq),.string (bs gp),.string (bs gco),.string (bs gd),.string (bs gr)] 60)=W at *;generalize wr.heap.size=G at *;obtain⟨_,_,_,_,_,p5,p6,p7,_,_⟩:=lA HG.out (Ext.refl _);have HD:Hid (Ext W W.drew):=qh (Ext.refl W).drew
   go_region_held3 (fun w'=>w'.cell? ⟨G,5,none⟩=some (.string (bs gq))∧w'.cell? ⟨G,6,none⟩=some (.string (bs gp))∧w'.cell? ⟨G,7,none⟩=some (.string (bs gco)))
    (go_keep)
    (first
     |(go_at_call 19;((with_reducible refine(A1.out _ (HE.out.ext (HX.out.trans HD.out))).mono ?_);rintro e w5⟨rfl,hx⟩);(replace HD:=HD.qt hx);(obtain⟨_,_,_,_,_,p5,p6,p7,_,_⟩:=lA HG.out HD.out);clear hx)
     |(go_at_call 19;((with_reducible refine(A2.out _ (HE.out.ext (HX.out.trans HD.out))).mono ?_);rintro e w5⟨rfl,hx⟩);(replace HD:=HD.qt hx);(obtain⟨_,_,_,_,_,p5,p6,p7,_,_⟩:=lA HG.out HD.out);clear hx)
     |(go_at_call 19;((with_reducible refine(A3.out _ (HE.out.ext (HX.out.trans HD.out))).mono ?_);rintro e w5⟨rfl,hx⟩);(replace HD:=HD.qt hx);(obtain⟨_,_,_,_,_,p5,p6,p7,_,_⟩:=lA HG.out HD.out);clear hx)
     |fail)
   all_goals
    go_wp2_with fail;exact⟨⟨k+1,by omega,by go_num,by rw[HQ1.out],by rw[HQ2.out],by rw[HQ3.out],HX.out.trans HD.out⟩,by simp[intOf];omega⟩
  ·have hkk:k=gs.length:=by omega
   subst hkk;rw[List.take_length];go_wp2_with fail;go_ret3
   exact⟨rfl,HX.out⟩
def aX(ls:List LotV)(ins:Bs):List LotV:=ls.filter (fun x=>decide (x.ins≠ins))
theorem tz(ls:List LotV)(A:Option Addr)(c:Nat)(ins:Bs)(w:World)(hA:aG w A ls)(hn:ls.length<=100000) :
  Calls Tryz.prog 21 #[.slice A ls.length c,.string (bs ins)] w fun e w'=>(∃A' c',e = .returned (.slice A' (aX ls ins).length c')∧aG w' A' (aX ls ins))∧Ext w w':=by
 have HA:=qh hA;obtain⟨i0,hI,hz0,hz1,hz2⟩:=info_parts kL;have HI:=qh hI;clear hA hI;go_enter Tryz.func21,Tryz.ntmps21;go_wp2_with fail;go_loopw [10,5] (fun i v wr=>∃k A5 c5,k<=ls.length∧i = .int .i64 (k:Nat)∧v = .slice A5 (aX (ls.take k) ins).length c5∧lG wr w.heap.size v (aX (ls.take k) ins)∧Ext w wr) (fun i _ _=>ls.length-(intOf i).toNat)
 case atStart=>exact⟨0,none,0,by omega,rfl,rfl,World.ownsRow_nil _ _ _ _,Ext.refl _⟩
 case round =>
  obtain⟨k,A5,c5,hk,rfl,rfl,ho,hx⟩:=hrel;have HX:=qh hx;have HO:=qh ho;clear hx ho;by_cases hlt:k<ls.length
  ·obtain⟨b,o,rfl,hb,d0,d1,d2,d3,d4,d5,d6⟩:=(HA.out.ext HX.out).at_ hlt;have hki:(k:Int)<(ls.length:Int):=by omega
   have hk0:(0:Int)<=(k:Int):=by omega
   have hstep:aX (ls.take (k+1)) ins=aX (ls.take k) ins++(if(ls[k]'hlt).ins=ins then [] else [ls[k]'hlt]):=by
    unfold aX;rw[List.take_succ_eq_append_getElem hlt,List.filter_append];congr 1
    by_cases h:(ls[k]'hlt).ins=ins <;> simp[h]
   have hkl:(aX (ls.take k) ins).length<=100000:=by
    have h1:(aX (ls.take k) ins).length<=(ls.take k).length:=List.length_filter_le _ _;rw[List.length_take]at h1;omega
   generalize (ls[k]'hlt)=x at *;obtain⟨xi,xn,xa,xo,xq,xc,xu⟩:=x;simp only at d0 d1 d2 d3 d4 d5 d6 hstep;have BX:=qh (Blk.new wr 62 (lc ⟨xi,xn,xa,xo,xq,xc,xu⟩));have HX3:=qh (HX.out.trans (Ext.new wr (.cells (lc ⟨xi,xn,xa,xo,xq,xc,xu⟩) 62)));have HO3:=qh (own_ext2 HO.out (Ext.new wr (.cells (lc ⟨xi,xn,xa,xo,xq,xc,xu⟩) 62)));go_upto_region 5 with fail;generalize wr.alloc (.cells #[.string (bs xi),.string (bs xn),.int .i64 xa,.int .i64 xo,.string (bs xq),.string (bs xc),.string (bs xu)] 62)=w5 at *;generalize wr.heap.size=X8 at *;obtain⟨x0,x1,x2,x3,x4,x5,x6⟩:=aj BX.out (Ext.refl _);clear d0 d1 d2 d3 d4 d5 d6 HO HX;by_cases hi:xn=ins
   ·rw[if_pos hi,List.append_nil]at hstep;have HE5:=qh hstep;have hbe:(xn != ins)=false:=by rw[bne_eq_false_iff_eq];exact hi
    have hbe2:(xn == ins)=true:=by rw[beq_iff_eq];exact hi
    clear hstep hi;go_wp2_with fail;go_roundw
    case rel=>exact⟨k+1,A5,c5,by omega,by go_num,by rw[HE5.out],by rw[HE5.out];exact HO3.out,HX3.out⟩
    case measure=>simp[intOf];omega
   ·rw[if_neg hi]at hstep;have HE5:=qh hstep;have hbe:(xn != ins)=true:=by rw[bne_iff_ne];exact hi
    have hbe2:(xn == ins)=false:=by rw[beq_eq_false_iff_ne];exact hi
    clear hstep hi;have HO4:=qh (own_ext2 HO3.out (Ext.new w5 (.cells #[.string (bs xi),.string (bs xn),.int .i64 xa,.int .i64 xo,.string (bs xq),.string (bs xc),.string (bs xu)] 62)));have HX4:=qh (HX3.out.trans (Ext.new w5 (.cells #[.string (bs xi),.string (bs xn),.int .i64 xa,.int .i64 xo,.string (bs xq),.string (bs xc),.string (bs xu)] 62)));have hsz:=HX4.out.size;have hlow:=kX HO4.out;go_upto_region 6 with fail;go_wp2_with (at_builtin;go_must (refine wpList_append_own _ rfl (.tmp 18) (.tmp 20) 22 rfl w.heap.size 62 i0 _ 7 96 Tryz.underlying22 HI.out hz0 hz1 hz2 rfl (by decide) _ _ _ rfl HO4.out ⟨w5.heap.size,0,none⟩ 1 1 (lotCells ⟨xi,xn,xa,xo,xq,xc,xu⟩) rfl rfl (World.news_of_block (heap_alloc_new w5 _)) (mJ _) (by simp only[maxLen];omega) (by omega) hsz ?_);intro v2 w' hown' hgrow hnil;(obtain⟨A3,c3,rfl⟩:=aM hown');clear hnil;(have HO5:=qh hown');(have HX5:=qh (HX4.out.grown hgrow hlow)));go_roundw
    case rel=>exact⟨k+1,A3,c3,by omega,by go_num,by rw[HE5.out,List.length_append];rfl,by
     unfold lG;rw[HE5.out,List.length_append,rY];have e1:bA [(⟨xi,xn,xa,xo,xq,xc,xu⟩:LotV)]=lotCells ⟨xi,xn,xa,xo,xq,xc,xu⟩:=by simp[bA]
     rw[e1];exact HO5.out,HX5.out⟩
    case measure=>simp[intOf];omega
  ·have hke:k=ls.length:=by omega
   subst hke;have hki:¬ ((ls.length:Int)<(ls.length:Int)):=by omega
   rw[List.take_length]at HO;go_wp2_with fail;go_ret;exact⟨⟨A5,⟨c5,rfl⟩,Reads.own HO.out⟩,HX.out⟩
end
section
open Go.ChangeShapes Go.WideShapes Go.ChangeAt Go.RowKit Go.Deep Go.Joins
instance:Inhabited OptV:=⟨⟨[],⟨[],[]⟩,⟨[],[]⟩,⟨[],[]⟩⟩⟩
section
variable {w:World} {base:Nat} {spare:Nat->Bool} {held:Bool} {H:Type} {enc:TypeId × Value->H}
theorem gZ{y:DataW H × List MemPlace}(h:DataW.trod enc Tryz.prog w base spare held n 26 cs=some y):∃f:Fr,cs=[.string (bs f.num),.string (bs f.den)]:=by
 obtain⟨xs,n,_,_,hlen,hl,hg⟩:=DataW.trod_struct Tryz.underlying26 h;rw[show Tryz.prog.cellsOf 26=2 by kernel_rfl]at hlen;have hc:Tryz.prog.cellsOf 24=1:=by kernel_rfl
 match cs,hlen,xs,hl with
 |[c0,c1],_,[y0,y1],_ =>
  have g0:DataW.trod enc Tryz.prog w base spare held n 24 (([c0,c1].drop 0).take (Tryz.prog.cellsOf 24))=some y0:=hg 0 _ rfl;have g1:DataW.trod enc Tryz.prog w base spare held n 24 (([c0,c1].drop 1).take (Tryz.prog.cellsOf 24))=some y1:=hg 1 _ rfl;rw[hc]at g0 g1;obtain⟨s0,e0,_⟩:=DataW.trod_string Tryz.underlying24 (x:=y0) (by simpa using g0);obtain⟨s1,e1,_⟩:=DataW.trod_string Tryz.underlying24 (x:=y1) (by simpa using g1);simp at e0 e1;subst e0;subst e1;exact⟨⟨L s0,L s1⟩,by simp[bs_L]⟩
theorem uj{y:DataW H × List MemPlace}(h:DataW.trod enc Tryz.prog w base spare held n 154 cs=some y):∃o:OptV,cs=fH o:=by
 obtain⟨xs,n,_,_,hlen,hl,hg⟩:=DataW.trod_struct Tryz.underlying154 h;rw[show Tryz.prog.cellsOf 154=7 by kernel_rfl]at hlen;have hc:Tryz.prog.cellsOf 9=1:=by kernel_rfl
 have hf:Tryz.prog.cellsOf 26=2:=by kernel_rfl
 match cs,hlen,xs,hl with
 |[c0,c1,c2,c3,c4,c5,c6],_,[y0,y1,y2,y3],_ =>
  have g0:DataW.trod enc Tryz.prog w base spare held n 9 (([c0,c1,c2,c3,c4,c5,c6].drop 0).take (Tryz.prog.cellsOf 9))=some y0:=hg 0 _ rfl;have g1:DataW.trod enc Tryz.prog w base spare held n 26 (([c0,c1,c2,c3,c4,c5,c6].drop 1).take (Tryz.prog.cellsOf 26))=some y1:=hg 1 _ rfl;have g2:DataW.trod enc Tryz.prog w base spare held n 26 (([c0,c1,c2,c3,c4,c5,c6].drop 3).take (Tryz.prog.cellsOf 26))=some y2:=hg 2 _ rfl;have g3:DataW.trod enc Tryz.prog w base spare held n 26 (([c0,c1,c2,c3,c4,c5,c6].drop 5).take (Tryz.prog.cellsOf 26))=some y3:=hg 3 _ rfl;rw[hc]at g0;rw[hf]at g1 g2 g3;obtain⟨s0,e0,_⟩:=DataW.trod_string Tryz.underlying9 (x:=y0) (by simpa using g0);obtain⟨f1,e1⟩:=gZ (y:=y1) (by simpa using g1);obtain⟨f2,e2⟩:=gZ (y:=y2) (by simpa using g2);obtain⟨f3,e3⟩:=gZ (y:=y3) (by simpa using g3);simp at e0 e1 e2 e3;obtain⟨rfl,rfl⟩:=e1;obtain⟨rfl,rfl⟩:=e2;obtain⟨rfl,rfl⟩:=e3;subst e0;exact⟨⟨L s0,f1,f2,f3⟩,by simp[fH,bs_L]⟩
end
instance:Inhabited Fr:=⟨⟨[],[]⟩⟩
structure FactIn (w:World) (f:FactV) (ps:List Fr) (os:List OptV) (pa oa:Option Addr) (pc oq:Nat):Prop where
 rp:dS w pa ps
 cp:ps.length<=pc
 ro:l8 w oa os
 co:os.length<=oq
 wf:(Lit.int .i64 f.kind).wf=true
 np:ps.length<=4611686018427387904
 no:os.length<=4611686018427387904
section
variable {w:World} {base:Nat} {spare:Nat->Bool} {held:Bool} {H:Type} {enc:TypeId × Value->H}
theorem yj{y:DataW H × List MemPlace}(h:DataW.trod enc Tryz.prog w base spare held n 124 cs=some y):∃f:Fr,cs=bB f:=by
 obtain⟨xs,n,_,_,hlen,hl,hg⟩:=DataW.trod_struct Tryz.underlying124 h;rw[show Tryz.prog.cellsOf 124=2 by kernel_rfl]at hlen;have hc:Tryz.prog.cellsOf 24=1:=by kernel_rfl
 have hs:Tryz.prog.cellsOf 9=1:=by kernel_rfl
 match cs,hlen,xs,hl with
 |[c0,c1],_,[y0,y1],_ =>
  have g0:DataW.trod enc Tryz.prog w base spare held n 9 (([c0,c1].drop 0).take (Tryz.prog.cellsOf 9))=some y0:=hg 0 _ rfl;have g1:DataW.trod enc Tryz.prog w base spare held n 24 (([c0,c1].drop 1).take (Tryz.prog.cellsOf 24))=some y1:=hg 1 _ rfl;rw[hs]at g0;rw[hc]at g1;obtain⟨s0,e0,_⟩:=DataW.trod_string Tryz.underlying9 (x:=y0) (by simpa using g0);obtain⟨s1,e1,_⟩:=DataW.trod_string Tryz.underlying24 (x:=y1) (by simpa using g1);simp at e0 e1;subst e0;subst e1;exact⟨⟨L s0,L s1⟩,by simp[bB,bs_L]⟩
theorem ym{y:DataW H × List MemPlace}(h:DataW.trod enc Tryz.prog w base spare held n 30 cs=some y)(hw:(y.1.weights Tryz.prog 30).all (·<=reachBytes)=true):∃(f:FactV) (ps:List Fr) (os:List OptV) (pa oa:Option Addr) (pc oq:Nat),cs=(af f (ae pa ps.length pc) (ae oa os.length oq)).toList∧FactIn w f ps os pa oa pc oq:=by
 obtain⟨xs,n,_,hy,hlen,hl,hg⟩:=DataW.trod_struct Tryz.underlying30 h;rw[show Tryz.prog.cellsOf 30=21 by kernel_rfl]at hlen;have ht0:Tryz.prog.cellsOf 9=1:=by kernel_rfl
 have ht1:Tryz.prog.cellsOf 3=1:=by kernel_rfl
 have ht2:Tryz.prog.cellsOf 4=1:=by kernel_rfl
 have ht3:Tryz.prog.cellsOf 23=1:=by kernel_rfl
 have ht4:Tryz.prog.cellsOf 24=1:=by kernel_rfl
 have ht5:Tryz.prog.cellsOf 26=2:=by kernel_rfl
 have ht6:Tryz.prog.cellsOf 27=1:=by kernel_rfl
 have ht7:Tryz.prog.cellsOf 28=1:=by kernel_rfl
 match cs,hlen,xs,hl with
 |[c0,c1,c2,c3,c4,c5,c6,c7,c8,c9,c10,c11,c12,c13,c14,c15,c16,c17,c18,c19,c20],_,[y0,y1,y2,y3,y4,y5,y6,y7,y8,y9,y10,y11,y12,y13,y14,y15,y16,y17],_ =>
  have g0:DataW.trod enc Tryz.prog w base spare held n 9 (([c0,c1,c2,c3,c4,c5,c6,c7,c8,c9,c10,c11,c12,c13,c14,c15,c16,c17,c18,c19,c20].drop 0).take (Tryz.prog.cellsOf 9))=some y0:=hg 0 _ rfl;rw[ht0]at g0;have g1:DataW.trod enc Tryz.prog w base spare held n 3 (([c0,c1,c2,c3,c4,c5,c6,c7,c8,c9,c10,c11,c12,c13,c14,c15,c16,c17,c18,c19,c20].drop 1).take (Tryz.prog.cellsOf 3))=some y1:=hg 1 _ rfl;rw[ht1]at g1;have g2:DataW.trod enc Tryz.prog w base spare held n 4 (([c0,c1,c2,c3,c4,c5,c6,c7,c8,c9,c10,c11,c12,c13,c14,c15,c16,c17,c18,c19,c20].drop 2).take (Tryz.prog.cellsOf 4))=some y2:=hg 2 _ rfl;rw[ht2]at g2;have g3:DataW.trod enc Tryz.prog w base spare held n 23 (([c0,c1,c2,c3,c4,c5,c6,c7,c8,c9,c10,c11,c12,c13,c14,c15,c16,c17,c18,c19,c20].drop 3).take (Tryz.prog.cellsOf 23))=some y3:=hg 3 _ rfl;rw[ht3]at g3;have g4:DataW.trod enc Tryz.prog w base spare held n 3 (([c0,c1,c2,c3,c4,c5,c6,c7,c8,c9,c10,c11,c12,c13,c14,c15,c16,c17,c18,c19,c20].drop 4).take (Tryz.prog.cellsOf 3))=some y4:=hg 4 _ rfl;rw[ht1]at g4;have g5:DataW.trod enc Tryz.prog w base spare held n 9 (([c0,c1,c2,c3,c4,c5,c6,c7,c8,c9,c10,c11,c12,c13,c14,c15,c16,c17,c18,c19,c20].drop 5).take (Tryz.prog.cellsOf 9))=some y5:=hg 5 _ rfl;rw[ht0]at g5;have g6:DataW.trod enc Tryz.prog w base spare held n 9 (([c0,c1,c2,c3,c4,c5,c6,c7,c8,c9,c10,c11,c12,c13,c14,c15,c16,c17,c18,c19,c20].drop 6).take (Tryz.prog.cellsOf 9))=some y6:=hg 6 _ rfl;rw[ht0]at g6;have g7:DataW.trod enc Tryz.prog w base spare held n 9 (([c0,c1,c2,c3,c4,c5,c6,c7,c8,c9,c10,c11,c12,c13,c14,c15,c16,c17,c18,c19,c20].drop 7).take (Tryz.prog.cellsOf 9))=some y7:=hg 7 _ rfl;rw[ht0]at g7;have g8:DataW.trod enc Tryz.prog w base spare held n 9 (([c0,c1,c2,c3,c4,c5,c6,c7,c8,c9,c10,c11,c12,c13,c14,c15,c16,c17,c18,c19,c20].drop 8).take (Tryz.prog.cellsOf 9))=some y8:=hg 8 _ rfl;rw[ht0]at g8;have g9:DataW.trod enc Tryz.prog w base spare held n 24 (([c0,c1,c2,c3,c4,c5,c6,c7,c8,c9,c10,c11,c12,c13,c14,c15,c16,c17,c18,c19,c20].drop 9).take (Tryz.prog.cellsOf 24))=some y9:=hg 9 _ rfl;rw[ht4]at g9;have g10:DataW.trod enc Tryz.prog w base spare held n 24 (([c0,c1,c2,c3,c4,c5,c6,c7,c8,c9,c10,c11,c12,c13,c14,c15,c16,c17,c18,c19,c20].drop 10).take (Tryz.prog.cellsOf 24))=some y10:=hg 10 _ rfl;rw[ht4]at g10;have g11:DataW.trod enc Tryz.prog w base spare held n 24 (([c0,c1,c2,c3,c4,c5,c6,c7,c8,c9,c10,c11,c12,c13,c14,c15,c16,c17,c18,c19,c20].drop 11).take (Tryz.prog.cellsOf 24))=some y11:=hg 11 _ rfl;rw[ht4]at g11;have g12:DataW.trod enc Tryz.prog w base spare held n 26 (([c0,c1,c2,c3,c4,c5,c6,c7,c8,c9,c10,c11,c12,c13,c14,c15,c16,c17,c18,c19,c20].drop 12).take (Tryz.prog.cellsOf 26))=some y12:=hg 12 _ rfl;rw[ht5]at g12;have g13:DataW.trod enc Tryz.prog w base spare held n 26 (([c0,c1,c2,c3,c4,c5,c6,c7,c8,c9,c10,c11,c12,c13,c14,c15,c16,c17,c18,c19,c20].drop 14).take (Tryz.prog.cellsOf 26))=some y13:=hg 13 _ rfl;rw[ht5]at g13;have g14:DataW.trod enc Tryz.prog w base spare held n 26 (([c0,c1,c2,c3,c4,c5,c6,c7,c8,c9,c10,c11,c12,c13,c14,c15,c16,c17,c18,c19,c20].drop 16).take (Tryz.prog.cellsOf 26))=some y14:=hg 14 _ rfl;rw[ht5]at g14;have g15:DataW.trod enc Tryz.prog w base spare held n 27 (([c0,c1,c2,c3,c4,c5,c6,c7,c8,c9,c10,c11,c12,c13,c14,c15,c16,c17,c18,c19,c20].drop 18).take (Tryz.prog.cellsOf 27))=some y15:=hg 15 _ rfl;rw[ht6]at g15;have g16:DataW.trod enc Tryz.prog w base spare held n 28 (([c0,c1,c2,c3,c4,c5,c6,c7,c8,c9,c10,c11,c12,c13,c14,c15,c16,c17,c18,c19,c20].drop 19).take (Tryz.prog.cellsOf 28))=some y16:=hg 16 _ rfl;rw[ht7]at g16;have g17:DataW.trod enc Tryz.prog w base spare held n 3 (([c0,c1,c2,c3,c4,c5,c6,c7,c8,c9,c10,c11,c12,c13,c14,c15,c16,c17,c18,c19,c20].drop 20).take (Tryz.prog.cellsOf 3))=some y17:=hg 17 _ rfl;rw[ht1]at g17;clear hg;rw[hy]at hw;simp only[List.map_cons,List.map_nil,DataW.weights,Tryz.underlying30,DataW.weightsEach,List.all_append,Bool.and_eq_true]at hw;obtain⟨_,_,_,_,_,_,_,_,_,_,_,_,_,_,_,hwp,hwo,_⟩:=hw;replace g0:DataW.trod enc Tryz.prog w base spare held n 9 [c0]=some y0:=g0;obtain⟨s0,e0,_⟩:=DataW.trod_string Tryz.underlying9 g0;injection e0 with e0 _
  subst e0;replace g1:DataW.trod enc Tryz.prog w base spare held n 3 [c1]=some y1:=g1;obtain⟨s1,e1,_,w1⟩:=DataW.trod_int Tryz.underlying3 g1;injection e1 with e1 _
  subst e1;replace g2:DataW.trod enc Tryz.prog w base spare held n 4 [c2]=some y2:=g2;obtain⟨s2,e2,_⟩:=DataW.trod_bool Tryz.underlying4 g2;injection e2 with e2 _
  subst e2;replace g3:DataW.trod enc Tryz.prog w base spare held n 23 [c3]=some y3:=g3;obtain⟨s3,e3,_,w3⟩:=DataW.trod_int Tryz.underlying23 g3;injection e3 with e3 _
  subst e3;replace g4:DataW.trod enc Tryz.prog w base spare held n 3 [c4]=some y4:=g4;obtain⟨s4,e4,_,w4⟩:=DataW.trod_int Tryz.underlying3 g4;injection e4 with e4 _
  subst e4;replace g5:DataW.trod enc Tryz.prog w base spare held n 9 [c5]=some y5:=g5;obtain⟨s5,e5,_⟩:=DataW.trod_string Tryz.underlying9 g5;injection e5 with e5 _
  subst e5;replace g6:DataW.trod enc Tryz.prog w base spare held n 9 [c6]=some y6:=g6;obtain⟨s6,e6,_⟩:=DataW.trod_string Tryz.underlying9 g6;injection e6 with e6 _
  subst e6;replace g7:DataW.trod enc Tryz.prog w base spare held n 9 [c7]=some y7:=g7;obtain⟨s7,e7,_⟩:=DataW.trod_string Tryz.underlying9 g7;injection e7 with e7 _
  subst e7;replace g8:DataW.trod enc Tryz.prog w base spare held n 9 [c8]=some y8:=g8;obtain⟨s8,e8,_⟩:=DataW.trod_string Tryz.underlying9 g8;injection e8 with e8 _
  subst e8;replace g9:DataW.trod enc Tryz.prog w base spare held n 24 [c9]=some y9:=g9;obtain⟨s9,e9,_⟩:=DataW.trod_string Tryz.underlying24 g9;injection e9 with e9 _
  subst e9;replace g10:DataW.trod enc Tryz.prog w base spare held n 24 [c10]=some y10:=g10;obtain⟨s10,e10,_⟩:=DataW.trod_string Tryz.underlying24 g10;injection e10 with e10 _
  subst e10;replace g11:DataW.trod enc Tryz.prog w base spare held n 24 [c11]=some y11:=g11;obtain⟨s11,e11,_⟩:=DataW.trod_string Tryz.underlying24 g11;injection e11 with e11 _
  subst e11;replace g12:DataW.trod enc Tryz.prog w base spare held n 26 [c12,c13]=some y12:=g12;obtain⟨s12,e12⟩:=gZ g12;injection e12 with e12a e12b
  injection e12b with e12b _
  subst e12a;subst e12b;replace g13:DataW.trod enc Tryz.prog w base spare held n 26 [c14,c15]=some y13:=g13;obtain⟨s13,e13⟩:=gZ g13;injection e13 with e13a e13b
  injection e13b with e13b _
  subst e13a;subst e13b;replace g14:DataW.trod enc Tryz.prog w base spare held n 26 [c16,c17]=some y14:=g14;obtain⟨s14,e14⟩:=gZ g14;injection e14 with e14a e14b
  injection e14b with e14b _
  subst e14a;subst e14b;replace g15:DataW.trod enc Tryz.prog w base spare held n 27 [c18]=some y15:=g15;obtain⟨pa,pc,ps,e15,hp,hpc,hpl⟩:=mB (α:=Fr) bB 2 (by decide) dE Tryz.underlying27 (by kernel_rfl) (fun n cs y hy=>yj hy) g15;injection e15 with e15 _
  subst e15;replace g16:DataW.trod enc Tryz.prog w base spare held n 28 [c19]=some y16:=g16;obtain⟨oa,oq,os,e16,ho,hoq,hol⟩:=mB (α:=OptV) fH 7 (by decide) jV Tryz.underlying28 (by kernel_rfl) (fun n cs y hy=>uj hy) g16;injection e16 with e16 _
  subst e16;replace g17:DataW.trod enc Tryz.prog w base spare held n 3 [c20]=some y17:=g17;obtain⟨s17,e17,_,w17⟩:=DataW.trod_int Tryz.underlying3 g17;injection e17 with e17 _
  subst e17;exact⟨⟨L s0,s1,s2,s3,s4,L s5,L s6,L s7,L s8,L s9,L s10,L s11,s12,s13,s14,s17⟩,ps,os,pa,oa,pc,oq,by simp[bs_L,ae],⟨hp,hpc,ho,hoq,w4,lW Tryz.underlying27 (by rw[show Tryz.prog.bytesOf 124=32 by kernel_rfl];decide) hwp hpl,lW Tryz.underlying28 (by rw[show Tryz.prog.bytesOf 154=112 by kernel_rfl];decide) hwo hol⟩⟩
end
theorem open_fact1{H:Type}{enc:TypeId × Value->H}{r:Reach}{base:Nat}{spare:Nat->Bool}{held:Bool}{v:Value}{d:DataW H}{p:List MemPlace}(hv:Value.okWide Tryz.prog W r b0 30 v)(h:DataW.Trod enc Tryz.prog W base spare held 30 v d p)(hw:(d.weights Tryz.prog 30).all (·<=reachBytes)=true) :
  ∃(f:FactV) (ps:List Fr) (os:List OptV) (pa oa:Option Addr) (pc oq:Nat),v=az f (ae pa ps.length pc) (ae oa os.length oq)∧FactIn W f ps os pa oa pc oq:=by
 obtain⟨cs,rfl,_⟩:=okWide_struct Tryz.underlying30 hv;obtain⟨fuel,hf⟩:=h;obtain⟨f,ps,os,pa,oa,pc,oq,e,hF⟩:=ym hf hw;simp only[Value.cells]at e;exact⟨f,ps,os,pa,oa,pc,oq,congrArg Value.agg (Array.toList_inj.1 e),hF⟩
end
end Go.Proofs.YtaegjkllenlfpaaGreatDoor
