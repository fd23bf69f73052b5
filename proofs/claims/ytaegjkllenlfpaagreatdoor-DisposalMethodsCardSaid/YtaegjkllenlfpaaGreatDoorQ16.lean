/- The seat's texts, part Q16. -/
import Derived.Test.YtaegjkllenlfpaaGreatDoorQ8
import Derived.Test.YtaegjkllenlfpaaGreatDoorQ9
import Derived.Test.YtaegjkllenlfpaaGreatDoorQ10
import Derived.Test.YtaegjkllenlfpaaGreatDoorQ11
import Derived.Test.YtaegjkllenlfpaaGreatDoorQ13
import Derived.Test.YtaegjkllenlfpaaGreatDoorQ14
import Derived.Test.YtaegjkllenlfpaaGreatDoorQ15
import Derived.Deep.RegionHeld3
import Derived.BigQuiet
set_option maxRecDepth 100000
set_option maxHeartbeats 8000000
namespace Go.Proofs.YtaegjkllenlfpaaGreatDoor
variable {k g:Nat}{w':World}{A:Option Addr}{fs ps:List Fr}
section
open Go.RowKit Go.Shelf
attribute [local go_sem] size_bs toList_bs
def oT(f:FactV)(K:Int)(z1 z2:Value):Prop:=∀w:World,(Instr.index 240 (.agg #[Value.string ⟨#[]⟩,Value.string ⟨#[]⟩,Value.string ⟨#[]⟩,Value.string ⟨#[]⟩,Value.string ⟨#[]⟩,Value.string ⟨#[]⟩,Value.string ⟨#[]⟩,Value.string ⟨#[]⟩,Value.string (bs f.qty),Value.string ⟨#[]⟩,Value.string (bs f.amt),Value.string ⟨#[]⟩,Value.string (bs f.fee),Value.string ⟨#[]⟩,Value.string (bs f.price.num),Value.string (bs f.price.den),Value.string (bs f.ratio.num),Value.string (bs f.ratio.den),Value.string (bs f.share.num),Value.string (bs f.share.den),Value.string ⟨#[]⟩,Value.string ⟨#[]⟩,Value.string ⟨#[]⟩,Value.string ⟨#[]⟩,Value.string ⟨#[]⟩,Value.string ⟨#[]⟩]) (.int .i64 K)).run Tryz.prog w = .ok (.agg #[z1,z2]) w
theorem Jb(f:FactV)(w:World):(Instr.build 240 #[(4,Value.agg #[Value.string (bs f.qty),Value.string ⟨#[]⟩]),(5,Value.agg #[Value.string (bs f.amt),Value.string ⟨#[]⟩]),(6,Value.agg #[Value.string (bs f.fee),Value.string ⟨#[]⟩]),(7,Value.agg #[Value.string (bs f.price.num),Value.string (bs f.price.den)]),(8,Value.agg #[Value.string (bs f.ratio.num),Value.string (bs f.ratio.den)]),(9,Value.agg #[Value.string (bs f.share.num),Value.string (bs f.share.den)])]).run Tryz.prog w = .ok (Value.agg #[Value.string ⟨#[]⟩,Value.string ⟨#[]⟩,Value.string ⟨#[]⟩,Value.string ⟨#[]⟩,Value.string ⟨#[]⟩,Value.string ⟨#[]⟩,Value.string ⟨#[]⟩,Value.string ⟨#[]⟩,Value.string (bs f.qty),Value.string ⟨#[]⟩,Value.string (bs f.amt),Value.string ⟨#[]⟩,Value.string (bs f.fee),Value.string ⟨#[]⟩,Value.string (bs f.price.num),Value.string (bs f.price.den),Value.string (bs f.ratio.num),Value.string (bs f.ratio.den),Value.string (bs f.share.num),Value.string (bs f.share.den),Value.string ⟨#[]⟩,Value.string ⟨#[]⟩,Value.string ⟨#[]⟩,Value.string ⟨#[]⟩,Value.string ⟨#[]⟩,Value.string ⟨#[]⟩]) w:=by
 kernel_rfl
theorem Bm(f:FactV):oT f 4 (Value.string (bs f.qty)) (Value.string ⟨#[]⟩):=fun w=>by kernel_rfl
theorem Bn(f:FactV):oT f 5 (Value.string (bs f.amt)) (Value.string ⟨#[]⟩):=fun w=>by kernel_rfl
theorem Bp(f:FactV):oT f 6 (Value.string (bs f.fee)) (Value.string ⟨#[]⟩):=fun w=>by kernel_rfl
theorem Bq(f:FactV):oT f 7 (Value.string (bs f.price.num)) (Value.string (bs f.price.den)):=fun w=>by kernel_rfl
theorem Br(f:FactV):oT f 8 (Value.string (bs f.ratio.num)) (Value.string (bs f.ratio.den)):=fun w=>by kernel_rfl
theorem Bu(f:FactV):oT f 9 (Value.string (bs f.share.num)) (Value.string (bs f.share.den)):=fun w=>by kernel_rfl
section
variable (f:FactV) (P O:Value)
theorem uG(K:Int)(s1 s2:ByteArray)(hix:oT f K (.string s1) (.string s2))(w:World):Calls Tryz.prog 137 #[az f P O,.int .i64 K] w fun e w'=>e = .returned (.agg #[.string s1,.string s2])∧Ext w w':=by
 have HB:=qh ((Blk.new w 30 (af f P O)).alloc (.cells #[.string ⟨#[]⟩,.string ⟨#[]⟩] 26));have HP:=qh (Blk.newAt (w.alloc (.cells (af f P O) 30)) 26 #[.string ⟨#[]⟩,.string ⟨#[]⟩] (w.heap.size+1) (by simp));have HX:Hid (Ext w ((w.alloc (.cells (af f P O) 30)).alloc (.cells #[.string ⟨#[]⟩,.string ⟨#[]⟩] 26))):=qh ((Ext.new _ _).alloc _);have HIX:=qh hix;clear hix;go_enter Tryz.func137,Tryz.ntmps137;go_upto_region 1 with fail;generalize (w.alloc (.cells (af f P O) 30)).alloc (.cells #[.string ⟨#[]⟩,.string ⟨#[]⟩] 26)=W at *;refine wp_region_any (by kernel_rfl) ?_;replace HB:=qh HB.out.drew;replace HP:=qh HP.out.drew;replace HX:=qh HX.out.drew;change wpAny _ _ _ _ _ _ _ W.drew;generalize W.drew=Wd at *;generalize hX7:w.heap.size=X7 at *
 have l9:∀W,Ext Wd W->(Instr.loadAt 24 (.pointer (some ⟨X7,9,none⟩))).run Tryz.prog W = .ok (Value.string (bs f.qty)) W:=fun W hx=>by
  obtain⟨x0,x1,x2,x3,x4,x5,x6,x7,x8,x9,x10,x11,x12,x13,x14,x15,x16,x17,x18,x19,x20⟩:=ah HB.out hx;go_simp
 have l10:∀W,Ext Wd W->(Instr.loadAt 24 (.pointer (some ⟨X7,10,none⟩))).run Tryz.prog W = .ok (Value.string (bs f.amt)) W:=fun W hx=>by
  obtain⟨x0,x1,x2,x3,x4,x5,x6,x7,x8,x9,x10,x11,x12,x13,x14,x15,x16,x17,x18,x19,x20⟩:=ah HB.out hx;go_simp
 have l11:∀W,Ext Wd W->(Instr.loadAt 24 (.pointer (some ⟨X7,11,none⟩))).run Tryz.prog W = .ok (Value.string (bs f.fee)) W:=fun W hx=>by
  obtain⟨x0,x1,x2,x3,x4,x5,x6,x7,x8,x9,x10,x11,x12,x13,x14,x15,x16,x17,x18,x19,x20⟩:=ah HB.out hx;go_simp
 have l12:∀W,Ext Wd W->(Instr.loadAt 26 (.pointer (some ⟨X7,12,none⟩))).run Tryz.prog W = .ok (Value.agg #[Value.string (bs f.price.num),Value.string (bs f.price.den)]) W:=fun W hx=>by
  obtain⟨x0,x1,x2,x3,x4,x5,x6,x7,x8,x9,x10,x11,x12,x13,x14,x15,x16,x17,x18,x19,x20⟩:=ah HB.out hx;go_simp
 have l14:∀W,Ext Wd W->(Instr.loadAt 26 (.pointer (some ⟨X7,14,none⟩))).run Tryz.prog W = .ok (Value.agg #[Value.string (bs f.ratio.num),Value.string (bs f.ratio.den)]) W:=fun W hx=>by
  obtain⟨x0,x1,x2,x3,x4,x5,x6,x7,x8,x9,x10,x11,x12,x13,x14,x15,x16,x17,x18,x19,x20⟩:=ah HB.out hx;go_simp
 have l16:∀W,Ext Wd W->(Instr.loadAt 26 (.pointer (some ⟨X7,16,none⟩))).run Tryz.prog W = .ok (Value.agg #[Value.string (bs f.share.num),Value.string (bs f.share.den)]) W:=fun W hx=>by
  obtain⟨x0,x1,x2,x3,x4,x5,x6,x7,x8,x9,x10,x11,x12,x13,x14,x15,x16,x17,x18,x19,x20⟩:=ah HB.out hx;go_simp
 have f9:∀W:World,(Instr.fieldAt 30 (.pointer (some ⟨X7,0,none⟩)) 9).run Tryz.prog W = .ok (.pointer (some ⟨X7,9,none⟩)) W:=fun W=>by go_simp
 have f10:∀W:World,(Instr.fieldAt 30 (.pointer (some ⟨X7,0,none⟩)) 10).run Tryz.prog W = .ok (.pointer (some ⟨X7,10,none⟩)) W:=fun W=>by go_simp
 have f11:∀W:World,(Instr.fieldAt 30 (.pointer (some ⟨X7,0,none⟩)) 11).run Tryz.prog W = .ok (.pointer (some ⟨X7,11,none⟩)) W:=fun W=>by go_simp
 have f12:∀W:World,(Instr.fieldAt 30 (.pointer (some ⟨X7,0,none⟩)) 12).run Tryz.prog W = .ok (.pointer (some ⟨X7,12,none⟩)) W:=fun W=>by go_simp
 have f13:∀W:World,(Instr.fieldAt 30 (.pointer (some ⟨X7,0,none⟩)) 13).run Tryz.prog W = .ok (.pointer (some ⟨X7,14,none⟩)) W:=fun W=>by go_simp
 have f14:∀W:World,(Instr.fieldAt 30 (.pointer (some ⟨X7,0,none⟩)) 14).run Tryz.prog W = .ok (.pointer (some ⟨X7,16,none⟩)) W:=fun W=>by go_simp
 have st:∀W,Ext Wd W->(Instr.storeAt 26 (.pointer (some ⟨X7+1,0,none⟩)) (Value.agg #[Value.string s1,Value.string s2])).run Tryz.prog W = .ok () ((W.setCell ⟨X7+1,0,none⟩ (.string s1)).setCell ⟨X7+1,1,none⟩ (.string s2)):=fun W hx=>by
  obtain⟨p0,p1,q0,q1⟩:=ar HP.out hx;go_simp
 refine mn (Inv:=GrInv _ _ (fun s=>(#[Value.pointer (some ⟨X7,9,none⟩),Value.string (bs f.qty),Value.agg #[Value.string (bs f.qty),Value.string ⟨#[]⟩],Value.pointer (some ⟨X7,10,none⟩),Value.string (bs f.amt),Value.agg #[Value.string (bs f.amt),Value.string ⟨#[]⟩],Value.pointer (some ⟨X7,11,none⟩),Value.string (bs f.fee),Value.agg #[Value.string (bs f.fee),Value.string ⟨#[]⟩],Value.pointer (some ⟨X7,12,none⟩),Value.agg #[Value.string (bs f.price.num),Value.string (bs f.price.den)],Value.pointer (some ⟨X7,14,none⟩),Value.agg #[Value.string (bs f.ratio.num),Value.string (bs f.ratio.den)],Value.pointer (some ⟨X7,16,none⟩),Value.agg #[Value.string (bs f.share.num),Value.string (bs f.share.den)],Value.agg #[Value.string ⟨#[]⟩,Value.string ⟨#[]⟩,Value.string ⟨#[]⟩,Value.string ⟨#[]⟩,Value.string ⟨#[]⟩,Value.string ⟨#[]⟩,Value.string ⟨#[]⟩,Value.string ⟨#[]⟩,Value.string (bs f.qty),Value.string ⟨#[]⟩,Value.string (bs f.amt),Value.string ⟨#[]⟩,Value.string (bs f.fee),Value.string ⟨#[]⟩,Value.string (bs f.price.num),Value.string (bs f.price.den),Value.string (bs f.ratio.num),Value.string (bs f.ratio.den),Value.string (bs f.share.num),Value.string (bs f.share.den),Value.string ⟨#[]⟩,Value.string ⟨#[]⟩,Value.string ⟨#[]⟩,Value.string ⟨#[]⟩,Value.string ⟨#[]⟩,Value.string ⟨#[]⟩],Value.int .i64 K,Value.agg #[Value.string s1,Value.string s2]]:Array Value).getD (s-5) undef) 5 18 (fun W=>Ext Wd W) (fun W=>∃W0,Ext Wd W0∧Ext ((W0.setCell ⟨X7+1,0,none⟩ (.string s1)).setCell ⟨X7+1,1,none⟩ (.string s2)) W)) ?hend ?hz ?hstep _ _ _ _ (GrInv.start _ (Ext.refl _))
 case hz=>exact fun listed a w' h=>mo (by have:=h.cnt;omega) h.size
 case hend =>
  intro fu listed a w' h hr;obtain⟨ha,hj⟩:=h.fin (by decide) hr (by kernel_rfl);have ha2:a=({ tmps:=#[az f P O,Value.int .i64 K,Value.pointer (some ⟨X7,0,none⟩),undef,Value.pointer (some ⟨X7+1,0,none⟩),Value.pointer (some ⟨X7,9,none⟩),Value.string (bs f.qty),Value.agg #[Value.string (bs f.qty),Value.string ⟨#[]⟩],Value.pointer (some ⟨X7,10,none⟩),Value.string (bs f.amt),Value.agg #[Value.string (bs f.amt),Value.string ⟨#[]⟩],Value.pointer (some ⟨X7,11,none⟩),Value.string (bs f.fee),Value.agg #[Value.string (bs f.fee),Value.string ⟨#[]⟩],Value.pointer (some ⟨X7,12,none⟩),Value.agg #[Value.string (bs f.price.num),Value.string (bs f.price.den)],Value.pointer (some ⟨X7,14,none⟩),Value.agg #[Value.string (bs f.ratio.num),Value.string (bs f.ratio.den)],Value.pointer (some ⟨X7,16,none⟩),Value.agg #[Value.string (bs f.share.num),Value.string (bs f.share.den)],Value.agg #[Value.string ⟨#[]⟩,Value.string ⟨#[]⟩,Value.string ⟨#[]⟩,Value.string ⟨#[]⟩,Value.string ⟨#[]⟩,Value.string ⟨#[]⟩,Value.string ⟨#[]⟩,Value.string ⟨#[]⟩,Value.string (bs f.qty),Value.string ⟨#[]⟩,Value.string (bs f.amt),Value.string ⟨#[]⟩,Value.string (bs f.fee),Value.string ⟨#[]⟩,Value.string (bs f.price.num),Value.string (bs f.price.den),Value.string (bs f.ratio.num),Value.string (bs f.ratio.den),Value.string (bs f.share.num),Value.string (bs f.share.den),Value.string ⟨#[]⟩,Value.string ⟨#[]⟩,Value.string ⟨#[]⟩,Value.string ⟨#[]⟩,Value.string ⟨#[]⟩,Value.string ⟨#[]⟩],Value.int .i64 K,Value.agg #[Value.string s1,Value.string s2]],defers:=[] }:Act):=ha.trans (by kernel_rfl);clear ha;subst ha2;obtain⟨W0,hx,hx2⟩:=hj;clear h hr;go_wp2_with fail;have HPD:=HP.out.ext hx;have HXD:=HX.out.trans hx;subst hX7;refine bodyPost_ret (dX rfl _ _ (w.heap.size+1) (.string s1) (.string s2) rfl (((HPD.set_ 0 (.string s1)).set_ 1 (.string s2)).ext hx2)) rfl ?_;exact⟨rfl,(HXD.setCell (p:=⟨w.heap.size+1,0,none⟩) (by show w.heap.size<=w.heap.size+1;omega) _).setCell (p:=⟨w.heap.size+1,1,none⟩) (by show w.heap.size<=w.heap.size+1;omega) _ |>.trans hx2⟩
 case hstep =>
  intro fu listed a w' i h hi
  have hW:i<18->Ext Wd w':=fun hi15=>h.before hi hi15 (by decide) (by
   intro L hcl h18;have a17:L 17:=hcl 18 _ ⟨17,.data⟩ rfl h18 (by simp) rfl;have a15:L 15:=hcl 17 _ ⟨15,.data⟩ rfl a17 (by simp) rfl;have a16:L 16:=hcl 17 _ ⟨16,.data⟩ rfl a17 (by simp) rfl;have a2:L 2:=hcl 15 _ ⟨2,.data⟩ rfl a15 (by simp) rfl;have a5:L 5:=hcl 15 _ ⟨5,.data⟩ rfl a15 (by simp) rfl;have a8:L 8:=hcl 15 _ ⟨8,.data⟩ rfl a15 (by simp) rfl;have a10:L 10:=hcl 15 _ ⟨10,.data⟩ rfl a15 (by simp) rfl;have a12:L 12:=hcl 15 _ ⟨12,.data⟩ rfl a15 (by simp) rfl;have a14:L 14:=hcl 15 _ ⟨14,.data⟩ rfl a15 (by simp) rfl;have a1:L 1:=hcl 2 _ ⟨1,.data⟩ rfl a2 (by simp) rfl;have a0:L 0:=hcl 1 _ ⟨0,.data⟩ rfl a1 (by simp) rfl;have a4:L 4:=hcl 5 _ ⟨4,.data⟩ rfl a5 (by simp) rfl;have a3:L 3:=hcl 4 _ ⟨3,.data⟩ rfl a4 (by simp) rfl;have a7:L 7:=hcl 8 _ ⟨7,.data⟩ rfl a8 (by simp) rfl;have a6:L 6:=hcl 7 _ ⟨6,.data⟩ rfl a7 (by simp) rfl;have a9:L 9:=hcl 10 _ ⟨9,.data⟩ rfl a10 (by simp) rfl;have a11:L 11:=hcl 12 _ ⟨11,.data⟩ rfl a12 (by simp) rfl;have a13:L 13:=hcl 14 _ ⟨13,.data⟩ rfl a14 (by simp) rfl;intro i hi;obtain rfl|rfl|rfl|rfl|rfl|rfl|rfl|rfl|rfl|rfl|rfl|rfl|rfl|rfl|rfl|rfl|rfl|rfl:i=0∨i=1∨i=2∨i=3∨i=4∨i=5∨i=6∨i=7∨i=8∨i=9∨i=10∨i=11∨i=12∨i=13∨i=14∨i=15∨i=16∨i=17:=by omega
   ·exact a0
   ·exact a1
   ·exact a2
   ·exact a3
   ·exact a4
   ·exact a5
   ·exact a6
   ·exact a7
   ·exact a8
   ·exact a9
   ·exact a10
   ·exact a11
   ·exact a12
   ·exact a13
   ·exact a14
   ·exact a15
   ·exact a16
   ·exact a17
   )
  have hlt:i<19:=dr hi;have hbz:∀s,s<5->a.tmps.getD s undef=_:=fun s hs=>h.base' (s:=s) (by show s<23;omega) (.inl hs)
  obtain rfl|rfl|rfl|rfl|rfl|rfl|rfl|rfl|rfl|rfl|rfl|rfl|rfl|rfl|rfl|rfl|rfl|rfl|rfl:i=0∨i=1∨i=2∨i=3∨i=4∨i=5∨i=6∨i=7∨i=8∨i=9∨i=10∨i=11∨i=12∨i=13∨i=14∨i=15∨i=16∨i=17∨i=18:=by omega
  ·have hx:=hW (by omega);have e2:a.tmps.getD 2 undef=Value.pointer (some ⟨X7,0,none⟩):=hbz 2 (by omega);refine bF rfl rfl _ ?_ (h.step hi rfl rfl _ (.inl ⟨by decide,id,id⟩));simp[execOp,aK,e2,f9]
  ·have hx:=hW (by omega);have e5:a.tmps.getD 5 undef=Value.pointer (some ⟨X7,9,none⟩):=h.need hi rfl 0 (by show 0<19;decide) (by show 5<23;decide) rfl;refine bF rfl rfl _ ?_ (h.step hi rfl rfl _ (.inl ⟨by decide,id,id⟩));simp[execOp,aK,e5,l9 _ hx]
  ·have hx:=hW (by omega);have e6:a.tmps.getD 6 undef=Value.string (bs f.qty):=h.need hi rfl 1 (by show 1<19;decide) (by show 6<23;decide) rfl;refine lN rfl rfl (fn:=206) (args:=#[Value.string (bs f.qty)]) ?_ (mM f.qty w') ?_
   ·simp[execOp,aK,resolve,invoke,e6,Deferred.ofValue];rfl
   ·rintro e w2⟨rfl,hx2⟩;exact⟨_,rfl,h.step hi rfl rfl _ (.inl ⟨by decide,fun hh=>hh.trans hx2,fun⟨W0,h1,h2⟩=>⟨W0,h1,h2.trans hx2⟩⟩)⟩
  ·have hx:=hW (by omega);have e2:a.tmps.getD 2 undef=Value.pointer (some ⟨X7,0,none⟩):=hbz 2 (by omega);refine bF rfl rfl _ ?_ (h.step hi rfl rfl _ (.inl ⟨by decide,id,id⟩));simp[execOp,aK,e2,f10]
  ·have hx:=hW (by omega);have e8:a.tmps.getD 8 undef=Value.pointer (some ⟨X7,10,none⟩):=h.need hi rfl 3 (by show 3<19;decide) (by show 8<23;decide) rfl;refine bF rfl rfl _ ?_ (h.step hi rfl rfl _ (.inl ⟨by decide,id,id⟩));simp[execOp,aK,e8,l10 _ hx]
  ·have hx:=hW (by omega);have e9:a.tmps.getD 9 undef=Value.string (bs f.amt):=h.need hi rfl 4 (by show 4<19;decide) (by show 9<23;decide) rfl;refine lN rfl rfl (fn:=206) (args:=#[Value.string (bs f.amt)]) ?_ (mM f.amt w') ?_
   ·simp[execOp,aK,resolve,invoke,e9,Deferred.ofValue];rfl
   ·rintro e w2⟨rfl,hx2⟩;exact⟨_,rfl,h.step hi rfl rfl _ (.inl ⟨by decide,fun hh=>hh.trans hx2,fun⟨W0,h1,h2⟩=>⟨W0,h1,h2.trans hx2⟩⟩)⟩
  ·have hx:=hW (by omega);have e2:a.tmps.getD 2 undef=Value.pointer (some ⟨X7,0,none⟩):=hbz 2 (by omega);refine bF rfl rfl _ ?_ (h.step hi rfl rfl _ (.inl ⟨by decide,id,id⟩));simp[execOp,aK,e2,f11]
  ·have hx:=hW (by omega);have e11:a.tmps.getD 11 undef=Value.pointer (some ⟨X7,11,none⟩):=h.need hi rfl 6 (by show 6<19;decide) (by show 11<23;decide) rfl;refine bF rfl rfl _ ?_ (h.step hi rfl rfl _ (.inl ⟨by decide,id,id⟩));simp[execOp,aK,e11,l11 _ hx]
  ·have hx:=hW (by omega);have e12:a.tmps.getD 12 undef=Value.string (bs f.fee):=h.need hi rfl 7 (by show 7<19;decide) (by show 12<23;decide) rfl;refine lN rfl rfl (fn:=206) (args:=#[Value.string (bs f.fee)]) ?_ (mM f.fee w') ?_
   ·simp[execOp,aK,resolve,invoke,e12,Deferred.ofValue];rfl
   ·rintro e w2⟨rfl,hx2⟩;exact⟨_,rfl,h.step hi rfl rfl _ (.inl ⟨by decide,fun hh=>hh.trans hx2,fun⟨W0,h1,h2⟩=>⟨W0,h1,h2.trans hx2⟩⟩)⟩
  ·have hx:=hW (by omega);have e2:a.tmps.getD 2 undef=Value.pointer (some ⟨X7,0,none⟩):=hbz 2 (by omega);refine bF rfl rfl _ ?_ (h.step hi rfl rfl _ (.inl ⟨by decide,id,id⟩));simp[execOp,aK,e2,f12]
  ·have hx:=hW (by omega);have e14:a.tmps.getD 14 undef=Value.pointer (some ⟨X7,12,none⟩):=h.need hi rfl 9 (by show 9<19;decide) (by show 14<23;decide) rfl;refine bF rfl rfl _ ?_ (h.step hi rfl rfl _ (.inl ⟨by decide,id,id⟩));simp[execOp,aK,e14,l12 _ hx]
  ·have hx:=hW (by omega);have e2:a.tmps.getD 2 undef=Value.pointer (some ⟨X7,0,none⟩):=hbz 2 (by omega);refine bF rfl rfl _ ?_ (h.step hi rfl rfl _ (.inl ⟨by decide,id,id⟩));simp[execOp,aK,e2,f13]
  ·have hx:=hW (by omega);have e16:a.tmps.getD 16 undef=Value.pointer (some ⟨X7,14,none⟩):=h.need hi rfl 11 (by show 11<19;decide) (by show 16<23;decide) rfl;refine bF rfl rfl _ ?_ (h.step hi rfl rfl _ (.inl ⟨by decide,id,id⟩));simp[execOp,aK,e16,l14 _ hx]
  ·have hx:=hW (by omega);have e2:a.tmps.getD 2 undef=Value.pointer (some ⟨X7,0,none⟩):=hbz 2 (by omega);refine bF rfl rfl _ ?_ (h.step hi rfl rfl _ (.inl ⟨by decide,id,id⟩));simp[execOp,aK,e2,f14]
  ·have hx:=hW (by omega);have e18:a.tmps.getD 18 undef=Value.pointer (some ⟨X7,16,none⟩):=h.need hi rfl 13 (by show 13<19;decide) (by show 18<23;decide) rfl;refine bF rfl rfl _ ?_ (h.step hi rfl rfl _ (.inl ⟨by decide,id,id⟩));simp[execOp,aK,e18,l16 _ hx]
  ·have hx:=hW (by omega);have e7:a.tmps.getD 7 undef=Value.agg #[Value.string (bs f.qty),Value.string ⟨#[]⟩]:=h.need hi rfl 2 (by show 2<19;decide) (by show 7<23;decide) rfl;have e10:a.tmps.getD 10 undef=Value.agg #[Value.string (bs f.amt),Value.string ⟨#[]⟩]:=h.need hi rfl 5 (by show 5<19;decide) (by show 10<23;decide) rfl;have e13:a.tmps.getD 13 undef=Value.agg #[Value.string (bs f.fee),Value.string ⟨#[]⟩]:=h.need hi rfl 8 (by show 8<19;decide) (by show 13<23;decide) rfl;have e15:a.tmps.getD 15 undef=Value.agg #[Value.string (bs f.price.num),Value.string (bs f.price.den)]:=h.need hi rfl 10 (by show 10<19;decide) (by show 15<23;decide) rfl;have e17:a.tmps.getD 17 undef=Value.agg #[Value.string (bs f.ratio.num),Value.string (bs f.ratio.den)]:=h.need hi rfl 12 (by show 12<19;decide) (by show 17<23;decide) rfl;have e19:a.tmps.getD 19 undef=Value.agg #[Value.string (bs f.share.num),Value.string (bs f.share.den)]:=h.need hi rfl 14 (by show 14<19;decide) (by show 19<23;decide) rfl;refine bF rfl rfl _ ?_ (h.step hi rfl rfl _ (.inl ⟨by decide,id,id⟩));simp[execOp,aK,e7,e10,e13,e15,e17,e19,Jb f w']
  ·have hx:=hW (by omega);have e1:a.tmps.getD 1 undef=Value.int .i64 K:=hbz 1 (by omega);refine bF rfl rfl _ ?_ (h.step hi rfl rfl _ (.inl ⟨by decide,id,id⟩));simp[execOp,aK,e1]
  ·have hx:=hW (by omega);have e20:a.tmps.getD 20 undef=Value.agg #[Value.string ⟨#[]⟩,Value.string ⟨#[]⟩,Value.string ⟨#[]⟩,Value.string ⟨#[]⟩,Value.string ⟨#[]⟩,Value.string ⟨#[]⟩,Value.string ⟨#[]⟩,Value.string ⟨#[]⟩,Value.string (bs f.qty),Value.string ⟨#[]⟩,Value.string (bs f.amt),Value.string ⟨#[]⟩,Value.string (bs f.fee),Value.string ⟨#[]⟩,Value.string (bs f.price.num),Value.string (bs f.price.den),Value.string (bs f.ratio.num),Value.string (bs f.ratio.den),Value.string (bs f.share.num),Value.string (bs f.share.den),Value.string ⟨#[]⟩,Value.string ⟨#[]⟩,Value.string ⟨#[]⟩,Value.string ⟨#[]⟩,Value.string ⟨#[]⟩,Value.string ⟨#[]⟩]:=h.need hi rfl 15 (by show 15<19;decide) (by show 20<23;decide) rfl;have e21:a.tmps.getD 21 undef=Value.int .i64 K:=h.need hi rfl 16 (by show 16<19;decide) (by show 21<23;decide) rfl;refine bF rfl rfl _ ?_ (h.step hi rfl rfl _ (.inl ⟨by decide,id,id⟩));simp[execOp,aK,e20,e21,HIX.out w']
  ·have hx:=h.at_last hi;have e4:a.tmps.getD 4 undef=Value.pointer (some ⟨X7+1,0,none⟩):=hbz 4 (by omega);have e22:a.tmps.getD 22 undef=Value.agg #[Value.string s1,Value.string s2]:=h.need hi rfl 17 (by show 17<19;decide) (by show 22<23;decide) rfl;refine vQ rfl rfl ?_ (h.stepN hi rfl rfl (by show 23<=5+18;decide) _ _ (.inr ⟨rfl,_,hx,Ext.refl _⟩));simp[execOp,aK,e4,e22,st _ hx]
end
end
section
open Go.RowKit
attribute [local go_sem] size_bs toList_bs
theorem Eh(a b:Int):(a == b)=decide (a=b):=by
 by_cases h:a=b
 ·subst h;simp
 ·rw[decide_eq_false h,beq_eq_false_iff_ne];exact h
theorem IH(a:Nat):((a:Int) == 0)=decide (a=0):=by
 rw[Eh];by_cases h:a=0
 ·subst h;rfl
 ·rw[decide_eq_false h,decide_eq_false (by omega)]
def dJ(f:FactV)(pn on:Nat):Nat->Bool
 |0=>f.ins.isEmpty
 |1=>f.other.isEmpty
 |2=>f.cur.isEmpty
 |3=>f.tgt.isEmpty
 |4=>f.qty.isEmpty
 |5=>f.amt.isEmpty
 |6=>f.fee.isEmpty
 |7=>f.price.num.isEmpty && f.price.den.isEmpty
 |8=>f.ratio.num.isEmpty && f.ratio.den.isEmpty
 |9=>f.share.num.isEmpty && f.share.den.isEmpty
 |10=>decide (pn=0)
 |11=>decide (on=0)
 |_=>decide (f.choice=0)
section
variable (f:FactV) (pa oa:Option Addr) (pn pc on oc:Nat) (w:World)
abbrev ae(A:Option Addr)(n c:Nat):Value := .slice A n c
theorem zw(hk:(k=0∨k=1∨k=2∨k=3)∨k=10∨k=11∨k=12):Calls Tryz.prog 65 #[az f (ae pa pn pc) (ae oa on oc),.int .i64 (k:Nat)] w fun e w'=>e = .returned (.bool (dJ f pn on k))∧Ext w w':=by
 have HB:=qh (Blk.new w 30 (af f (ae pa pn pc) (ae oa on oc)));have HX:Hid (Ext w (w.alloc (.cells (af f (ae pa pn pc) (ae oa on oc)) 30))):=qh (Ext.new _ _);rcases hk with (rfl|rfl|rfl|rfl)|rfl|rfl|rfl
 all_goals
  unfold dJ;go_enter Tryz.func65,Tryz.ntmps65;obtain⟨x0,x1,x2,x3,x4,x5,x6,x7,x8,x9,x10,x11,x12,x13,x14,x15,x16,x17,x18,x19,x20⟩:=ah HB.out (Ext.refl _);go_wp2_with fail;go_ret;exact⟨by first|rfl|(show Ending.returned (.bool _)=Ending.returned (.bool (decide _));first|rw[←IH]|rw[←Eh]),HX.out⟩
theorem iP{s1 s2:Bs}(hk:k=4∨k=5∨k=6∨k=7∨k=8∨k=9)(hix:oT f (k:Nat) (.string (bs s1)) (.string (bs s2)))(hv:dJ f pn on k=(s1.isEmpty && s2.isEmpty)):Calls Tryz.prog 65 #[az f (ae pa pn pc) (ae oa on oc),.int .i64 (k:Nat)] w fun e w'=>e = .returned (.bool (dJ f pn on k))∧Ext w w':=by
 have HB:=qh (Blk.new w 30 (af f (ae pa pn pc) (ae oa on oc)));have HX:Hid (Ext w (w.alloc (.cells (af f (ae pa pn pc) (ae oa on oc)) 30))):=qh (Ext.new _ _);have HV:=qh (uG f (ae pa pn pc) (ae oa on oc) (k:Nat) (bs s1) (bs s2) hix (w.alloc (.cells (af f (ae pa pn pc) (ae oa on oc)) 30)));have hs1:(Tryz.prog.info? 30).map (·.size)=some (af f (ae pa pn pc) (ae oa on oc)).toList.length:=by kernel_rfl
 have hrg:=aE HB.out;rw[hv];clear hv hix;rcases hk with rfl|rfl|rfl|rfl|rfl|rfl
 all_goals
  go_enter Tryz.func65,Tryz.ntmps65;go_wp2_with (first|refine wpList_load_mid rfl 30 _ rfl w.heap.size 0 rfl _ _ hrg Tryz.underlying30 rfl hs1 ?_|fail);refine HV.out.mono ?_;rintro e v1⟨rfl,hx1⟩;replace HX:=HX.qt hx1;clear hx1;go_wp2_with fail
  all_goals
   go_ret;exact⟨by simp[*],HX.out⟩
end
def bB(f:Fr):List Value:=[.string (bs f.num),.string (bs f.den)]
theorem dE(f:Fr):(bB f).length=2:=rfl
def bE(fs:List Fr):List Value:=fs.flatMap bB
theorem oU(fs:List Fr):(bE fs).length=fs.length*2:=by
 induction fs with
 |nil=>rfl
 |cons x r ih=>simp only[bE,List.flatMap_cons,List.length_append,List.length_cons,dE]at ih ⊢;omega
def dS(w:World)(A:Option Addr)(fs:List Fr):Prop:=Reads w 2 A fs.length (bE fs)
theorem dS.ext{w:World}(h:dS w A fs)(he:Ext w w'):dS w' A fs:=Reads.ext h he
theorem dS.at_{w:World}(h:dS w A fs)(hk:k<fs.length) :
  ∃b o,A=some ⟨b,o,none⟩∧b<w.heap.size∧w.cell? ⟨b,o+k*2,none⟩=some (.string (bs (fs[k]'hk).num))∧w.cell? ⟨b,o+k*2+1,none⟩=some (.string (bs (fs[k]'hk).den)):=by
 obtain⟨b,o,rfl,hb⟩:=Reads.at_ h (by omega)
 have key:∀j (_:j<2),w.cell? ⟨b,o+k*2+j,none⟩=(bB (fs[k]'hk))[j]? := fun j hj=>by
  have h1:=iK bB 2 dE fs k j hk hj;have hl:j<(bB (fs[k]'hk)).length:=by rw[dE];exact hj
  rw[List.getElem?_eq_getElem hl]at h1 ⊢;have h2:=Reads.cell h h1;rw[←Nat.add_assoc]at h2;exact h2
 exact⟨b,o,rfl,hb,key 0 (by decide),key 1 (by decide)⟩
theorem vR(fs:List Fr)(k:Nat)(x:Fr)(h:k<fs.length):bE (fs.set k x)=((bE fs).set (k*2) (.string (bs x.num))).set (k*2+1) (.string (bs x.den)):=by
 induction fs generalizing k with
 |nil=>simp at h
 |cons z r ih =>
  cases k with
  |zero=>simp[bE,bB]
  |succ k =>
   have:=ih k (by simpa using h);simp only[bE,List.set_cons_succ,List.flatMap_cons]at this ⊢
   rw[this,show(k+1)*2=(bB z).length+k*2 by rw[dE];omega,List.set_append_right _ _ (by omega),Nat.add_sub_cancel_left,List.set_append_right _ _ (by omega),Nat.add_assoc,Nat.add_sub_cancel_left]
end
section
open Go.RowKit Go.Shelf
attribute [local go_sem] size_bs toList_bs
def cX(fn:Nat->Int):Nat->Int
 |0=>0
 |k+1=>if cX fn k≠0 then cX fn k else fn k
theorem ez{fn:Nat->Int}:∀ {k:Nat},(∀j,j<k->fn j=0)->cX fn k=0
 |0,_=>rfl
 |k+1,h=>by
  have h1:=ez (k:=k) fun j hj=>h j (by omega)
  unfold cX;rw[if_neg (by rw[h1];simp)];exact h k (by omega)
theorem iw{fn:Nat->Int}(h:∀j,j<k->fn j=0)(hk:fn k≠0):∀ {n:Nat},k<n->cX fn n=fn k
 |0,hn=>absurd hn (by omega)
 |n+1,hn=>by
  by_cases e:k=n
  ·subst e;unfold cX;rw[if_neg (by rw[ez h];simp)]
  ·have h1:=iw (n:=n) h hk (by omega);unfold cX;rw[if_pos (by rw[h1];exact hk),h1]
def dQ(ps:List Fr)(k:Nat):Int:=match ps[k]? with
 |some p=>if isId p.num=false then 23 else if(ps.take k).any (fun x=>x.num == p.num)=true then 5 else bR ⟨p.den,[]⟩ true false
 |none=>0
def fY(ps:List Fr):Nat->Int
 |0=>0
 |k+1=>fY ps k+valI ((ps[k]?.map (·.den)).getD [])
def eJ(ps:List Fr)(qty:Bs):Int:=if 64<ps.length then 4 else if cX (dQ ps) ps.length≠0 then cX (dQ ps) ps.length else if 0<cmpI (fY ps ps.length) (valI qty) then 15 else 0
structure PicksP (ps:List Fr) (qty:Bs) (e:Int):Prop where
 long:64<ps.length->e=4
 hit:¬ 64<ps.length->∀k,k<ps.length->(∀j,j<k->dQ ps j=0)->dQ ps k≠0->e=dQ ps k
 short:¬ 64<ps.length->(∀j,j<ps.length->dQ ps j=0)->0<cmpI (fY ps ps.length) (valI qty)->e=15
 ok:¬ 64<ps.length->(∀j,j<ps.length->dQ ps j=0)->¬ 0<cmpI (fY ps ps.length) (valI qty)->e=0
theorem Ei(ps:List Fr)(qty:Bs):PicksP ps qty (eJ ps qty):=by
 refine⟨fun a=>?_,fun a k hk b c=>?_,fun a b c=>?_,fun a b c=>?_⟩
 ·unfold eJ;rw[if_pos a]
 ·unfold eJ;rw[if_neg a,if_pos (by rw[iw b c hk];exact c),iw b c hk]
 ·unfold eJ;rw[if_neg a,if_neg (by rw[ez b];simp),if_pos c]
 ·unfold eJ;rw[if_neg a,if_neg (by rw[ez b];simp),if_neg c]
structure PickP (ps:List Fr) (k:Nat) (p:Fr) (e:Int):Prop where
 a:isId p.num=false->e=23
 b:isId p.num=true->(ps.take k).any (fun x=>x.num == p.num)=true->e=5
 c:isId p.num=true->(ps.take k).any (fun x=>x.num == p.num)=false->e=bR ⟨p.den,[]⟩ true false
theorem Fz(hk:k<ps.length):PickP ps k (ps[k]'hk) (dQ ps k):=by
 unfold dQ;rw[List.getElem?_eq_getElem hk];dsimp only;refine⟨fun a=>?_,fun a b=>?_,fun a b=>?_⟩
 ·rw[if_pos a]
 ·rw[if_neg (by rw[a];simp),if_pos b]
 ·rw[if_neg (by rw[a];simp),if_neg (by rw[b];simp)]
theorem qM(hk:k<ps.length):fY ps (k+1)=fY ps k+valI (ps[k]'hk).den:=by
 show fY ps k+_=_;rw[List.getElem?_eq_getElem hk];rfl
theorem uH{L:Nat}(h:∀p ∈ ps,p.den.length<=L):∀k,k<=ps.length->(fY ps k).natAbs<10 ^ (L+k)
 |0,_=>by
  show(0:Int).natAbs<_;exact Nat.pow_pos (by decide)
 |k+1,hk=>by
  rw[qM (by omega)];have h1:=uH h k (by omega);have h2:(valI (ps[k]'(by omega)).den).natAbs<10 ^ (L+k):=aH (by have:=h _ (List.getElem_mem (show k<ps.length by omega));omega);exact Nat.lt_of_le_of_lt (Int.natAbs_add_le _ _) (jO h1 h2)
abbrev uI(p:Fr):Value := .agg #[.string (bs p.num),.string (bs p.den)]
theorem dS.take{w:World}(h:dS w A fs)(k:Nat)(hk:k<=fs.length):dS w A (fs.take k):=by
 have hl:(fs.take k).length=k:=by rw[List.length_take];omega
 refine⟨nL bB 2 dE _,fun h0=>?_⟩;obtain⟨b,o,e,hb,hc⟩:=h.2 (by omega);refine⟨b,o,e,hb,fun j u hu=>hc j u ?_⟩;have e2:fs.flatMap bB=(fs.take k).flatMap bB++(fs.drop k).flatMap bB:=by rw[←List.flatMap_append,List.take_append_drop]
 unfold bE at hu ⊢;rw[e2,List.getElem?_append_left (List.getElem?_eq_some_iff.1 hu).1];exact hu
theorem nS(kf:Nat)(cb:Array Value)(ek:∀args w,(callFunc kf args).run Tryz.prog w = .ok (.enter kf args) w)(p:Fr->Bool)(ls:List Fr)(A:Option Addr)(c:Nat)(w:World)(hA:dS w A ls)(hn:ls.length<=1000000)
  (hF:∀x ∈ ls,∀W,Ext w W->Calls Tryz.prog kf (#[uI x]++cb) W fun e w'=>e = .returned (.bool (p x))∧Ext W w') :
  Calls Tryz.prog 78 #[.slice A ls.length c,.func (.func kf) #[] cb] w fun e w'=>e = .returned (.int .i64 (cF p ls))∧Ext w w':=by
 have HA:=qh hA;have HF:=qh hF;clear hA hF;go_enter Tryz.func78,Tryz.ntmps78;go_wp2_with fail;go_loopw [8,5] (fun i _ wr=>∃k:Nat,k<=ls.length∧i = .int .i64 k∧(∀x ∈ ls.take k,p x=false)∧Ext w wr) (fun i _ _=>ls.length-(intOf i).toNat)
 case atStart=>exact⟨0,by omega,rfl,by simp,Ext.refl _⟩
 case round =>
  obtain⟨k,hk,rfl,hz,hx⟩:=hrel;have HZ:=qh hz;have HX:=qh hx;clear hz hx;by_cases hlt:k<ls.length
  ·obtain⟨b,o,rfl,hb,c0,c1⟩:=(HA.out.ext HX.out).at_ hlt;have HC:=qh (HF.out (ls[k]'hlt) (List.getElem_mem _));have HN:Hid (p (ls[k]'hlt)=false->∀x ∈ ls.take (k+1),p x=false):=qh (fun h=>lC hlt HZ.out h);have HI:Hid (p (ls[k]'hlt)=true->cF p ls=k):=qh (fun h=>mI hlt HZ.out h);generalize (ls[k]'hlt)=x at *;go_wp2_with fail;refine(HC.out _ HX.out).mono ?_;rintro e w1⟨rfl,hx1⟩;replace HX:=HX.qt hx1;clear hx1
   cases hp:p x
   ·have HN1:=qh (HN.out hp);clear hp;go_wp2_with fail;go_roundw
    case rel=>exact⟨k+1,by omega,by go_num,HN1.out,HX.out⟩
    case measure=>simp[intOf];omega
   ·have HI1:=qh (HI.out hp);clear hp;go_wp2_with fail;go_ret;exact⟨by rw[HI1.out];rfl,HX.out⟩
  ·have HI:Hid (cF p ls = -1):=qh (lB (by have:=HZ.out;rwa[List.take_of_length_le (by omega)]at this));go_wp2_with fail;go_ret;exact⟨by rw[HI.out];rfl,HX.out⟩
theorem ki(kf:Nat)(cb:Array Value)(ek:∀args w,(callFunc kf args).run Tryz.prog w = .ok (.enter kf args) w)(p:Fr->Bool)(ls:List Fr)(A:Option Addr)(c:Nat)(w:World)(hA:dS w A ls)(hn:ls.length<=1000000)
  (hF:∀x ∈ ls,∀W,Ext w W->Calls Tryz.prog kf (#[uI x]++cb) W fun e w'=>e = .returned (.bool (p x))∧Ext W w') :
  Calls Tryz.prog 73 #[.slice A ls.length c,.func (.func kf) #[] cb] w fun e w'=>e = .returned (.bool (ls.any p))∧Ext w w':=by
 have HI:=qh (nS kf cb ek p ls A c w hA hn hF);have HZ:Hid (decide (0<=cF p ls)=ls.any p):=qh (pA p ls);generalize ls.any p=b at *;generalize cF p ls=z at *;clear hA hF;go_enter Tryz.func73,Tryz.ntmps73;go_wp2_with fail;refine HI.out.mono ?_;rintro e w1⟨rfl,hx1⟩;have HX:=qh hx1;clear hx1;go_wp2_with fail;go_ret;exact⟨by rw[←HZ.out];rfl,HX.out⟩
theorem eS{w:World}{x y:Value}(h:Blk w g 124 #[x,y])(hx:Ext w w'):w'.cell? ⟨g,0,none⟩=some x∧w'.cell? ⟨g,1,none⟩=some y:=by
 have k:=h.ext hx;have h0:=k.cell 0;have h1:=k.cell 1;simp only[List.getElem?_toArray,List.getElem?_cons_zero,List.getElem?_cons_succ]at h0 h1;exact⟨h0,h1⟩
theorem Cx(x:Fr)(G:Nat)(lt qt:Bs)(w:World)(hB:Blk w G 124 #[.string (bs lt),.string (bs qt)]) :
  Calls Tryz.prog 205 #[uI x,.pointer (some ⟨G,0,none⟩)] w fun e w'=>e = .returned (.bool (x.num == lt))∧Ext w w':=by
 have HX:Hid (Ext w (w.alloc (.cells #[.string (bs x.num),.string (bs x.den)] 124))):=qh (Ext.new _ _);have HB:=qh (Blk.new w 124 #[.string (bs x.num),.string (bs x.den)]);have HG:=qh (hB.ext HX.out);have c0:=HB.out.cell 0;have c1:=HG.out.cell 0;simp only[List.getElem?_toArray,List.getElem?_cons_zero]at c0 c1;clear hB;go_enter Tryz.func205,Tryz.ntmps205;go_wp2_with fail;go_ret;exact⟨rfl,HX.out⟩
theorem II(q:Bs)(h1:q.length<=9000)(pos:Bool)(g1 g2:Nat)(w:World)(hE:Env w)(b1:Blk w g1 4 #[.bool pos])(b2:Blk w g2 4 #[.bool false]) :
  Calls Tryz.prog 199 #[.agg #[.string (bs q),.string ⟨#[]⟩],.pointer (some ⟨g1,0,none⟩),.pointer (some ⟨g2,0,none⟩)] w fun e w'=>e = .returned (.int .i64 (cz ⟨q,[]⟩ pos))∧Ext w w':=vH ⟨q,[]⟩ h1 (by simp) pos g1 g2 w hE b1 b2
theorem Cy(f:FactV)(O:Value)(ps:List Fr)(A:Option Addr)(c:Nat)(w:World)(hA:dS w A ps)(hs:∀p ∈ ps,p.num.length<=9000∧p.den.length<=9000)(hn:ps.length<=100000)(hc:ps.length<=c)(hq:f.qty.length<=9000)(hE:Env w) :
  Calls Tryz.prog 135 #[az f (ae A ps.length c) O] w fun e w'=>e = .returned (.int .i64 (eJ ps f.qty))∧Ext w w':=by
 have HE:=qh hE;have HA:=qh hA;have HS:=qh hs;have hp:=Ei ps f.qty;have P1:=qh hp.long;have P2:=qh hp.hit;have P3:=qh hp.short;have P4:=qh hp.ok;generalize eJ ps f.qty=res at *;have HB:=qh (Blk.new w 30 (af f (ae A ps.length c) O));have HX:Hid (Ext w (w.alloc (.cells (af f (ae A ps.length c) O) 30))):=qh (Ext.new _ _);have HQ:=qh hq;clear hA hs hp hq hE;go_enter Tryz.func135,Tryz.ntmps135;obtain⟨-,-,-,-,-,-,-,-,-,x9,-,-,-,-,-,-,-,-,x18,-⟩:=ah HB.out (Ext.refl _);by_cases h64:64<ps.length
 ·have g:decide ((64:Int)<(ps.length:Int))=true:=by rw[decide_eq_true_iff];omega
  have e0:=P1.out h64;subst e0;clear P1 P2 P3 P4;go_wp2_with fail;go_ret;exact⟨rfl,HX.out⟩
 have g:decide ((64:Int)<(ps.length:Int))=false:=by rw[decide_eq_false_iff_not];omega
 replace P2:=qh (P2.out h64);replace P3:=qh (P3.out h64);replace P4:=qh (P4.out h64)
 have HL:Hid (∀k,k<=ps.length->(ofI (fY ps k)).length<=10000):=qh (fun k hk=>by
  have:=bz (uH (L:=9000) (fun p hp=>(HS.out p hp).2) k hk);omega)
 clear P1 x9;have hqs:(bs [])=⟨#[]⟩:=rfl;have H0:Hid (ofI (fY ps 0)=[]):=qh (cP.2 rfl);go_wp2_with fail;generalize w.alloc (.cells (af f (ae A ps.length c) O) 30)=W0 at *;generalize hgx:w.heap.size=gx at *;clear x18 g h64;go_loopw [14,3,4,5,6] (fun i s _ _ _ wr=>∃k:Nat,k<=ps.length∧i = .int .i64 k∧s = .string (bs (ofI (fY ps k)))∧(∀j,j<k->dQ ps j=0)∧Ext W0 wr) (fun i _ _ _ _ _=>ps.length-(intOf i).toNat)
 case atStart=>exact⟨0,by omega,rfl,by rw[H0.out];rfl,fun j hj=>absurd hj (by omega),Ext.refl _⟩
 case round =>
  obtain⟨k,hk,rfl,rfl,hz,hx⟩:=hrel;replace HX:=HX.qt hx;replace HB:=qh (HB.out.ext hx);have HLo:=qh hx;have HZ:=qh hz;clear hx hz;by_cases hlt:k<ps.length
  ·obtain⟨b,o,rfl,hb,c0,c1⟩:=(HA.out.ext HX.out).at_ hlt;have hsz:=HS.out _ (List.getElem_mem hlt);have pk:=Fz hlt;have K1:=qh pk.a;have K2:=qh pk.b;have K3:=qh pk.c;have HT:=qh (qM hlt);have HHit:Hid (dQ ps k≠0->res=dQ ps k):=qh (P2.out k hlt HZ.out)
   have HNx:Hid (dQ ps k=0->∀j,j<k+1->dQ ps j=0):=qh (fun h j hj=>by
    by_cases e:j=k
    ·subst e;exact h
    ·exact HZ.out j (by omega))
   have LOT:=qh (Fy (ps[k]'hlt).num (by omega));have HLM:=qh (fun g1 g2 W hE b1 b2=>II (ps[k]'hlt).den hsz.2 true g1 g2 W hE b1 b2);have ADD:=qh (ii (ofI (fY ps k)) (ps[k]'hlt).den (by have:=HL.out k hk;omega) (by omega));rw[valI_ofI,←HT.out]at ADD;have hki:(k:Int)<(ps.length:Int):=by omega
   have hk0:(0:Int)<=(k:Int):=by omega
   have HTK:=qh ((HA.out).take k hk);have hlk:(ps.take k).length=k:=by rw[List.length_take];omega
   clear pk HT P2 P3 P4 HL;generalize dQ ps k=pe at *;generalize hs1:fY ps (k+1)=s1 at *;have HS1:=qh hs1;clear hs1;generalize ps[k]'hlt=y at *;obtain⟨lt,qt⟩:=y;dsimp only at c0 c1 hsz K1 K2 K3 LOT HLM ADD;have HG:=qh (Blk.new wr 124 #[.string (bs lt),.string (bs qt)]);replace HX:=qh (HX.out.alloc (.cells #[.string (bs lt),.string (bs qt)] 124));replace HLo:=qh (HLo.out.alloc (.cells #[.string (bs lt),.string (bs qt)] 124));replace HB:=qh (HB.out.alloc (.cells #[.string (bs lt),.string (bs qt)] 124));go_upto_region 7 with fail;generalize hG4:wr.heap.size=G4 at *;generalize wr.alloc (.cells #[.string (bs lt),.string (bs qt)] 124)=W4 at *;clear c0 c1 hb;obtain⟨p0,p1⟩:=eS HG.out (Ext.refl _);go_wp2_with fail;refine(LOT.out _ (HE.out.ext HX.out)).mono ?_;rintro e W5⟨rfl,hx1⟩;replace HX:=HX.qt hx1;replace HLo:=HLo.qt hx1;replace HB:=qh (HB.out.ext hx1);replace HG:=qh (HG.out.ext hx1);clear hx1 p0 p1 LOT;obtain⟨p0,p1⟩:=eS HG.out (Ext.refl _);generalize isId lt=id1 at *
   cases id1
   ·have e0:=K1.out (by trivial);have e1:=HHit.out (by rw[e0];decide);rw[e0]at e1;subst e1;clear K1 K2 K3 HHit HNx HLM ADD;go_wp2_with fail;go_ret;exact⟨rfl,HX.out⟩
   have CT:=qh (ki 205 #[.pointer (some ⟨G4,0,none⟩)] (fun _ _=>by rfl) (fun x=>x.num == lt) (ps.take k) (some ⟨b,o,none⟩) c W5 (HTK.out.ext HX.out) (by rw[hlk];omega) (fun x _ W hx=>Cx x G4 lt qt W (HG.out.ext hx)));rw[hlk]at CT;replace K2:=qh (K2.out (by trivial));replace K3:=qh (K3.out (by trivial));rw[oS]at K3;generalize (ps.take k).any (fun x=>x.num == lt)=an at *;obtain⟨-,-,-,-,-,-,-,-,-,-,-,-,-,-,-,-,-,-,x18,-⟩:=ah HB.out (Ext.refl _);clear hlk;have hkc:(k:Int)<=(c:Int):=by omega
   go_wp2_with fail;refine CT.out.mono ?_;rintro e W6⟨rfl,hx1⟩;replace HX:=HX.qt hx1;replace HLo:=HLo.qt hx1;replace HB:=qh (HB.out.ext hx1);replace HG:=qh (HG.out.ext hx1);clear hx1 p0 p1 CT x18 K1;obtain⟨p0,p1⟩:=eS HG.out (Ext.refl _)
   cases an;rotate_left
   ·have e0:=K2.out (by trivial);have e1:=HHit.out (by rw[e0];decide);rw[e0]at e1;subst e1;clear K2 K3 HHit HNx HLM ADD;go_wp2_with fail;go_ret;exact⟨rfl,HX.out⟩
   have e0:=K3.out (by trivial);clear K2 K3;generalize cz ⟨qt,[]⟩ true=le at *;subst e0;go_upto_region 11 with fail;have HD:Hid (Ext W6 W6.drew):=qh (Ext.refl W6).drew
   go_region_held3 (fun w'=>w'.cell? ⟨G4,1,none⟩=some (.string (bs qt)))
    (go_keep)
    (first
     |(go_at_call 129;((with_reducible refine(dC true false _).mono ?_);rintro e w5⟨rfl,hb1,hb2,hx5⟩);(replace HD:=HD.qt hx5);(have HB1:Hid (Blk w5 W6.heap.size 4 #[.bool true]):=qh hb1);(have HB2:Hid (Blk w5 (W6.heap.size+1) 4 #[.bool false]):=qh hb2);(obtain⟨p0,p1⟩:=eS HG.out HD.out);clear hx5 hb1 hb2)
     |(go_at_call 206;((with_reducible refine(mM qt _).mono ?_);rintro e w6⟨rfl,hx6⟩);(replace HD:=HD.qt hx6);(replace HB1:=qh (HB1.out.ext hx6));(replace HB2:=qh (HB2.out.ext hx6));(obtain⟨p0,p1⟩:=eS HG.out HD.out);clear hx6)
     |(go_at_call 199;((with_reducible refine(HLM.out _ _ _ (HE.out.ext (HX.out.trans HD.out)) HB1.out HB2.out).mono ?_);rintro e w7⟨rfl,hx7⟩);(replace HD:=HD.qt hx7);(obtain⟨p0,p1⟩:=eS HG.out HD.out);clear hx7)
     |fail)
   all_goals
    replace HX:=qh (HX.out.trans HD.out);replace HLo:=qh (HLo.out.trans HD.out);replace HB:=qh (HB.out.ext HD.out);clear HB1 HB2 HLM HG HD;by_cases yl:pe=0
    ·have hz1:=qh (HNx.out yl);subst yl;clear HHit HNx;go_wp2_with fail;refine(ADD.out _ (HE.out.ext HX.out)).mono ?_;rintro e W8⟨rfl,hx1⟩;replace HX:=HX.qt hx1;replace HLo:=HLo.qt hx1;clear hx1 ADD;go_wp2_with fail;exact⟨⟨k+1,by omega,by go_num,by rw[HS1.out],hz1.out,HLo.out⟩,by simp[intOf];omega⟩
    ·have e1:=HHit.out yl;have g5:(pe != 0)=true:=by rw[bne_iff_ne];exact yl
     subst e1;clear HHit HNx ADD;go_wp2_with fail;go_ret;exact⟨rfl,HX.out⟩
  ·obtain rfl:k=ps.length:=by omega
   have CMP:=qh (cmpP (ofI (fY ps ps.length)) f.qty (by have:=HL.out ps.length (Nat.le_refl _);omega) (by have:=HQ.out;omega));rw[valI_ofI]at CMP;replace P3:=qh (P3.out HZ.out);replace P4:=qh (P4.out HZ.out);generalize cmpI (fY ps ps.length) (valI f.qty)=cq at *;have hki:¬ ((ps.length:Int)<(ps.length:Int)):=by omega
   obtain⟨_,_,_,_,_,_,_,_,_,x9,_,_,_,_,_,_,_,_,_,_,_⟩:=ah HB.out (Ext.refl _);clear P2 HL hk hlt HZ;go_wp2_with fail;refine(CMP.out _ (HE.out.ext HX.out)).mono ?_;rintro e W8⟨rfl,hx1⟩;replace HX:=HX.qt hx1;clear hx1 CMP;by_cases yq:0<cq
   focus have g5:decide (0<cq)=true:=decide_eq_true yq;have e1:=P3.out yq
   rotate_left
   focus have g5:decide (0<cq)=false:=decide_eq_false yq;have e1:=P4.out (by omega)
   all_goals
    subst e1;clear P3 P4;go_wp2_with fail;go_ret;exact⟨rfl,HX.out⟩
end
section
open Go.RowKit
attribute [local go_sem] size_bs toList_bs
def jp(p:Fr)(q:Bs):Int:=bg (ay p*((valI q:Int):Rat))
theorem sr{p:Fr}{q:Bs}{L:Nat}(h0:0<L)(h1:p.num.length<=L)(h2:p.den.length<=L)(hq:q.length<=L):QB (L+L) (ay p*((valI q:Int):Rat)):=(oC h1 h2 h0).mul (ww h0 (aH hq))
theorem sv{L:Nat}(h0:0<L)(hL:L<=9000)(p:Fr)(q:Bs)(h1:p.num.length<=L)(h2:p.den.length<=L)(hq:q.length<=L):cw 30 #[fv p,.string (bs q)] (.string (bs (ofI (jp p q)))):=by
 intro w hE;have HE:=qh hE;have qq:=ww h0 (aH hq);have l1:=qq.num_len;have l2:=qq.den_len;have qv:=sr h0 h1 h2 hq;have l3:=qv.num_len;have l4:=qv.den_len;have m:=Cq p (cr ((valI q:Int):Rat)) (by omega) (by omega) (by omega) (by omega);rw[kJ]at m;have r:=rU (cr (ay p*((valI q:Int):Rat))) (by omega) (by omega);rw[kJ,show bg (ay p*((valI q:Int):Rat))=jp p q from rfl]at r;have O:=qh (wK q (by omega));have M:=qh m;have R:=qh r;generalize ofI (jp p q)=z at *;generalize cr (ay p*((valI q:Int):Rat))=fp at *;generalize cr ((valI q:Int):Rat)=fq at *;obtain⟨n1,e1⟩:=p;clear m r qq l1 l2 l3 l4 qv hE h1 h2 hq h0 hL;have HB:=qh (Blk.new w 26 #[.string (bs n1),.string (bs e1)]);have HX:Hid (Ext w (w.alloc (.cells #[.string (bs n1),.string (bs e1)] 26))):=qh (Ext.new _ _);have HD:Hid (Ext w (w.alloc (.cells #[.string (bs n1),.string (bs e1)] 26)).drew):=qh HX.out.drew;have HBD:=qh HB.out.drew;go_enter Tryz.func30,Tryz.ntmps30;go_upto_region 1 with fail;go_cut [5] (fun p5 wx=>p5 = .string (bs z)∧Ext w wx)
 case first =>
  obtain⟨r0,r1,_,_⟩:=ar HB.out (Ext.refl _)
  go_region_held3 (fun w'=>w'.cell? ⟨w.heap.size,0,none⟩=some (.string (bs n1))∧w'.cell? ⟨w.heap.size,1,none⟩=some (.string (bs e1)))
   (go_keep)
   (first
    |(go_at_call 101;((with_reducible refine(O.out _ (HE.out.ext HD.out)).mono ?_);rintro e w4⟨rfl,hx⟩);(replace HD:=HD.qt hx);(replace HBD:=qh (HBD.out.ext hx));(obtain⟨y0,y1,_,_⟩:=ar HBD.out (Ext.refl _));clear hx O)
    |(go_at_call 100;((with_reducible refine(M.out _ (HE.out.ext HD.out)).mono ?_);rintro e w5⟨rfl,hx⟩);(replace HD:=HD.qt hx);(replace HBD:=qh (HBD.out.ext hx));(obtain⟨z0,z1,_,_⟩:=ar HBD.out (Ext.refl _));clear hx M)
    |(go_at_call 99;((with_reducible refine(R.out _ (HE.out.ext HD.out)).mono ?_);rintro e w6⟨rfl,hx⟩);(replace HD:=HD.qt hx);(replace HBD:=qh (HBD.out.ext hx));(obtain⟨x0,x1,_,_⟩:=ar HBD.out (Ext.refl _));clear hx R))
  all_goals (go_wp2_with fail;go_meet;exact⟨rfl,HD.out⟩)
 case rest =>
  obtain⟨rfl,hx⟩:=hcut;have HXE:=qh hx;clear hx;go_wp2_with fail;go_ret;exact⟨rfl,HXE.out⟩
end
section
open Go.RowKit Go.Shelf
attribute [local go_sem] size_bs toList_bs
def fH(o:OptV):List Value:=[.string (bs o.other),.string (bs o.r.num),.string (bs o.r.den),.string (bs o.p.num),.string (bs o.p.den),.string (bs o.v.num),.string (bs o.v.den)]
theorem jV(x:OptV):(fH x).length=7:=rfl
def l8(w:World)(A:Option Addr)(os:List OptV):Prop:=Reads w 7 A os.length (os.flatMap fH)
theorem l8.ext{w:World}{os:List OptV}(h:l8 w A os)(he:Ext w w'):l8 w' A os:=Reads.ext h he
theorem l8.at_{w:World}{os:List OptV}(h:l8 w A os)(hk:k<os.length) :
  ∃b o,A=some ⟨b,o,none⟩∧b<w.heap.size∧w.cell? ⟨b,o+k*7,none⟩=some (.string (bs (os[k]'hk).other))∧w.cell? ⟨b,o+k*7+1,none⟩=some (.string (bs (os[k]'hk).r.num))∧w.cell? ⟨b,o+k*7+2,none⟩=some (.string (bs (os[k]'hk).r.den))∧w.cell? ⟨b,o+k*7+3,none⟩=some (.string (bs (os[k]'hk).p.num)) ∧
    w.cell? ⟨b,o+k*7+4,none⟩=some (.string (bs (os[k]'hk).p.den))∧w.cell? ⟨b,o+k*7+5,none⟩=some (.string (bs (os[k]'hk).v.num))∧w.cell? ⟨b,o+k*7+6,none⟩=some (.string (bs (os[k]'hk).v.den)):=by
 obtain⟨b,o,rfl,hb⟩:=Reads.at_ h (by omega)
 have key:∀j (_:j<7),w.cell? ⟨b,o+k*7+j,none⟩=(fH (os[k]'hk))[j]? := fun j hj=>by
  have h1:=iK fH 7 jV os k j hk hj;have hl:j<(fH (os[k]'hk)).length:=by rw[jV];exact hj
  rw[List.getElem?_eq_getElem hl]at h1 ⊢;have h2:=Reads.cell h h1;rw[←Nat.add_assoc]at h2;exact h2
 exact⟨b,o,rfl,hb,key 0 (by decide),key 1 (by decide),key 2 (by decide),key 3 (by decide),key 4 (by decide),key 5 (by decide),key 6 (by decide)⟩
end
end Go.Proofs.YtaegjkllenlfpaaGreatDoor
