/- The seat's texts, part Y16. -/
import Derived.Test.YtaegjkllenlfpaaGreatDoorY15
set_option maxRecDepth 100000
set_option maxHeartbeats 8000000
namespace Go.Proofs.YtaegjkllenlfpaaGreatDoor
open Tryz
variable {k g:Nat}{w':World}{A:Option Addr}{fs ps:List Fr}
section
open Go.RowKit Go.Shelf
attribute [local go_sem] size_bs toList_bs
def qB(f:FactV)(K:Int)(z1 z2:Value):Prop:=∀w:World,(Instr.index 240 (.agg #[Value.string ⟨#[]⟩,Value.string ⟨#[]⟩,Value.string ⟨#[]⟩,Value.string ⟨#[]⟩,Value.string ⟨#[]⟩,Value.string ⟨#[]⟩,Value.string ⟨#[]⟩,Value.string ⟨#[]⟩,Value.string (bs f.qty),Value.string ⟨#[]⟩,Value.string (bs f.amt),Value.string ⟨#[]⟩,Value.string (bs f.fee),Value.string ⟨#[]⟩,Value.string (bs f.price.num),Value.string (bs f.price.den),Value.string (bs f.ratio.num),Value.string (bs f.ratio.den),Value.string (bs f.share.num),Value.string (bs f.share.den),Value.string ⟨#[]⟩,Value.string ⟨#[]⟩,Value.string ⟨#[]⟩,Value.string ⟨#[]⟩,Value.string ⟨#[]⟩,Value.string ⟨#[]⟩]) (.int .i64 K)).run prog w = .ok (.agg #[z1,z2]) w
theorem Ma(f:FactV)(w:World):(Instr.build 240 #[(4,Value.agg #[Value.string (bs f.qty),Value.string ⟨#[]⟩]),(5,Value.agg #[Value.string (bs f.amt),Value.string ⟨#[]⟩]),(6,Value.agg #[Value.string (bs f.fee),Value.string ⟨#[]⟩]),(7,Value.agg #[Value.string (bs f.price.num),Value.string (bs f.price.den)]),(8,Value.agg #[Value.string (bs f.ratio.num),Value.string (bs f.ratio.den)]),(9,Value.agg #[Value.string (bs f.share.num),Value.string (bs f.share.den)])]).run prog w = .ok (Value.agg #[Value.string ⟨#[]⟩,Value.string ⟨#[]⟩,Value.string ⟨#[]⟩,Value.string ⟨#[]⟩,Value.string ⟨#[]⟩,Value.string ⟨#[]⟩,Value.string ⟨#[]⟩,Value.string ⟨#[]⟩,Value.string (bs f.qty),Value.string ⟨#[]⟩,Value.string (bs f.amt),Value.string ⟨#[]⟩,Value.string (bs f.fee),Value.string ⟨#[]⟩,Value.string (bs f.price.num),Value.string (bs f.price.den),Value.string (bs f.ratio.num),Value.string (bs f.ratio.den),Value.string (bs f.share.num),Value.string (bs f.share.den),Value.string ⟨#[]⟩,Value.string ⟨#[]⟩,Value.string ⟨#[]⟩,Value.string ⟨#[]⟩,Value.string ⟨#[]⟩,Value.string ⟨#[]⟩]) w:=by
 kernel_rfl
theorem En(f:FactV):qB f 4 (Value.string (bs f.qty)) (Value.string ⟨#[]⟩):=fun w=>by kernel_rfl
theorem Eo(f:FactV):qB f 5 (Value.string (bs f.amt)) (Value.string ⟨#[]⟩):=fun w=>by kernel_rfl
theorem Ep(f:FactV):qB f 6 (Value.string (bs f.fee)) (Value.string ⟨#[]⟩):=fun w=>by kernel_rfl
theorem Er(f:FactV):qB f 7 (Value.string (bs f.price.num)) (Value.string (bs f.price.den)):=fun w=>by kernel_rfl
theorem Es(f:FactV):qB f 8 (Value.string (bs f.ratio.num)) (Value.string (bs f.ratio.den)):=fun w=>by kernel_rfl
theorem Et(f:FactV):qB f 9 (Value.string (bs f.share.num)) (Value.string (bs f.share.den)):=fun w=>by kernel_rfl
section
variable (f:FactV) (P O:Value)
theorem wN(K:Int)(s1 s2:ByteArray)(hix:qB f K (.string s1) (.string s2))(w:World):Calls prog 137 #[aC f P O,.int .i64 K] w fun e w'=>e = .returned (.agg #[.string s1,.string s2])∧Ext w w':=by
 have HB:=qh ((ID w 30 (ag f P O)).alloc (.cells #[.string ⟨#[]⟩,.string ⟨#[]⟩] 26));have HP:=qh (Mf (w.alloc (.cells (ag f P O) 30)) 26 #[.string ⟨#[]⟩,.string ⟨#[]⟩] (w.heap.size+1) (by simp));have HX:Hid (Ext w ((w.alloc (.cells (ag f P O) 30)).alloc (.cells #[.string ⟨#[]⟩,.string ⟨#[]⟩] 26))):=qh ((Id _ _).alloc _);have HIX:=qh hix;clear hix;go_enter func137,ntmps137;go_upto_region 1 with fail;generalize (w.alloc (.cells (ag f P O) 30)).alloc (.cells #[.string ⟨#[]⟩,.string ⟨#[]⟩] 26)=W at *;refine PR (by kernel_rfl) ?_;replace HB:=qh HB.out.drew;replace HP:=qh HP.out.drew;replace HX:=qh HX.out.drew;change wpAny _ _ _ _ _ _ _ W.drew;generalize W.drew=Wd at *;generalize hX7:w.heap.size=X7 at *
 have l9:∀W,Ext Wd W->(Instr.loadAt 24 (.pointer (some ⟨X7,9,none⟩))).run prog W = .ok (Value.string (bs f.qty)) W:=fun W hx=>by
  obtain⟨x0,x1,x2,x3,x4,x5,x6,x7,x8,x9,x10,x11,x12,x13,x14,x15,x16,x17,x18,x19,x20⟩:=aj HB.out hx;go_simp
 have l10:∀W,Ext Wd W->(Instr.loadAt 24 (.pointer (some ⟨X7,10,none⟩))).run prog W = .ok (Value.string (bs f.amt)) W:=fun W hx=>by
  obtain⟨x0,x1,x2,x3,x4,x5,x6,x7,x8,x9,x10,x11,x12,x13,x14,x15,x16,x17,x18,x19,x20⟩:=aj HB.out hx;go_simp
 have l11:∀W,Ext Wd W->(Instr.loadAt 24 (.pointer (some ⟨X7,11,none⟩))).run prog W = .ok (Value.string (bs f.fee)) W:=fun W hx=>by
  obtain⟨x0,x1,x2,x3,x4,x5,x6,x7,x8,x9,x10,x11,x12,x13,x14,x15,x16,x17,x18,x19,x20⟩:=aj HB.out hx;go_simp
 have l12:∀W,Ext Wd W->(Instr.loadAt 26 (.pointer (some ⟨X7,12,none⟩))).run prog W = .ok (Value.agg #[Value.string (bs f.price.num),Value.string (bs f.price.den)]) W:=fun W hx=>by
  obtain⟨x0,x1,x2,x3,x4,x5,x6,x7,x8,x9,x10,x11,x12,x13,x14,x15,x16,x17,x18,x19,x20⟩:=aj HB.out hx;go_simp
 have l14:∀W,Ext Wd W->(Instr.loadAt 26 (.pointer (some ⟨X7,14,none⟩))).run prog W = .ok (Value.agg #[Value.string (bs f.ratio.num),Value.string (bs f.ratio.den)]) W:=fun W hx=>by
  obtain⟨x0,x1,x2,x3,x4,x5,x6,x7,x8,x9,x10,x11,x12,x13,x14,x15,x16,x17,x18,x19,x20⟩:=aj HB.out hx;go_simp
 have l16:∀W,Ext Wd W->(Instr.loadAt 26 (.pointer (some ⟨X7,16,none⟩))).run prog W = .ok (Value.agg #[Value.string (bs f.share.num),Value.string (bs f.share.den)]) W:=fun W hx=>by
  obtain⟨x0,x1,x2,x3,x4,x5,x6,x7,x8,x9,x10,x11,x12,x13,x14,x15,x16,x17,x18,x19,x20⟩:=aj HB.out hx;go_simp
 have f9:∀W:World,(Instr.fieldAt 30 (.pointer (some ⟨X7,0,none⟩)) 9).run prog W = .ok (.pointer (some ⟨X7,9,none⟩)) W:=fun W=>by go_simp
 have f10:∀W:World,(Instr.fieldAt 30 (.pointer (some ⟨X7,0,none⟩)) 10).run prog W = .ok (.pointer (some ⟨X7,10,none⟩)) W:=fun W=>by go_simp
 have f11:∀W:World,(Instr.fieldAt 30 (.pointer (some ⟨X7,0,none⟩)) 11).run prog W = .ok (.pointer (some ⟨X7,11,none⟩)) W:=fun W=>by go_simp
 have f12:∀W:World,(Instr.fieldAt 30 (.pointer (some ⟨X7,0,none⟩)) 12).run prog W = .ok (.pointer (some ⟨X7,12,none⟩)) W:=fun W=>by go_simp
 have f13:∀W:World,(Instr.fieldAt 30 (.pointer (some ⟨X7,0,none⟩)) 13).run prog W = .ok (.pointer (some ⟨X7,14,none⟩)) W:=fun W=>by go_simp
 have f14:∀W:World,(Instr.fieldAt 30 (.pointer (some ⟨X7,0,none⟩)) 14).run prog W = .ok (.pointer (some ⟨X7,16,none⟩)) W:=fun W=>by go_simp
 have st:∀W,Ext Wd W->(Instr.storeAt 26 (.pointer (some ⟨X7+1,0,none⟩)) (Value.agg #[Value.string s1,Value.string s2])).run prog W = .ok () ((W.setCell ⟨X7+1,0,none⟩ (.string s1)).setCell ⟨X7+1,1,none⟩ (.string s2)):=fun W hx=>by
  obtain⟨p0,p1,q0,q1⟩:=aB HP.out hx;go_simp
 refine en (Inv:=GrInv _ _ (fun s=>(#[Value.pointer (some ⟨X7,9,none⟩),Value.string (bs f.qty),Value.agg #[Value.string (bs f.qty),Value.string ⟨#[]⟩],Value.pointer (some ⟨X7,10,none⟩),Value.string (bs f.amt),Value.agg #[Value.string (bs f.amt),Value.string ⟨#[]⟩],Value.pointer (some ⟨X7,11,none⟩),Value.string (bs f.fee),Value.agg #[Value.string (bs f.fee),Value.string ⟨#[]⟩],Value.pointer (some ⟨X7,12,none⟩),Value.agg #[Value.string (bs f.price.num),Value.string (bs f.price.den)],Value.pointer (some ⟨X7,14,none⟩),Value.agg #[Value.string (bs f.ratio.num),Value.string (bs f.ratio.den)],Value.pointer (some ⟨X7,16,none⟩),Value.agg #[Value.string (bs f.share.num),Value.string (bs f.share.den)],Value.agg #[Value.string ⟨#[]⟩,Value.string ⟨#[]⟩,Value.string ⟨#[]⟩,Value.string ⟨#[]⟩,Value.string ⟨#[]⟩,Value.string ⟨#[]⟩,Value.string ⟨#[]⟩,Value.string ⟨#[]⟩,Value.string (bs f.qty),Value.string ⟨#[]⟩,Value.string (bs f.amt),Value.string ⟨#[]⟩,Value.string (bs f.fee),Value.string ⟨#[]⟩,Value.string (bs f.price.num),Value.string (bs f.price.den),Value.string (bs f.ratio.num),Value.string (bs f.ratio.den),Value.string (bs f.share.num),Value.string (bs f.share.den),Value.string ⟨#[]⟩,Value.string ⟨#[]⟩,Value.string ⟨#[]⟩,Value.string ⟨#[]⟩,Value.string ⟨#[]⟩,Value.string ⟨#[]⟩],Value.int .i64 K,Value.agg #[Value.string s1,Value.string s2]]:Array Value).getD (s-5) undef) 5 18 (fun W=>Ext Wd W) (fun W=>∃W0,Ext Wd W0∧Ext ((W0.setCell ⟨X7+1,0,none⟩ (.string s1)).setCell ⟨X7+1,1,none⟩ (.string s2)) W)) ?hend ?hz ?hstep _ _ _ _ (GrInv.start _ (iD _))
 case hz=>exact fun listed a w' h=>eu (by have:=h.cnt;omega) h.size
 case hend =>
  intro fu listed a w' h hr;obtain⟨ha,hj⟩:=h.fin (by decide) hr (by kernel_rfl);have ha2:a=({ tmps:=#[aC f P O,Value.int .i64 K,Value.pointer (some ⟨X7,0,none⟩),undef,Value.pointer (some ⟨X7+1,0,none⟩),Value.pointer (some ⟨X7,9,none⟩),Value.string (bs f.qty),Value.agg #[Value.string (bs f.qty),Value.string ⟨#[]⟩],Value.pointer (some ⟨X7,10,none⟩),Value.string (bs f.amt),Value.agg #[Value.string (bs f.amt),Value.string ⟨#[]⟩],Value.pointer (some ⟨X7,11,none⟩),Value.string (bs f.fee),Value.agg #[Value.string (bs f.fee),Value.string ⟨#[]⟩],Value.pointer (some ⟨X7,12,none⟩),Value.agg #[Value.string (bs f.price.num),Value.string (bs f.price.den)],Value.pointer (some ⟨X7,14,none⟩),Value.agg #[Value.string (bs f.ratio.num),Value.string (bs f.ratio.den)],Value.pointer (some ⟨X7,16,none⟩),Value.agg #[Value.string (bs f.share.num),Value.string (bs f.share.den)],Value.agg #[Value.string ⟨#[]⟩,Value.string ⟨#[]⟩,Value.string ⟨#[]⟩,Value.string ⟨#[]⟩,Value.string ⟨#[]⟩,Value.string ⟨#[]⟩,Value.string ⟨#[]⟩,Value.string ⟨#[]⟩,Value.string (bs f.qty),Value.string ⟨#[]⟩,Value.string (bs f.amt),Value.string ⟨#[]⟩,Value.string (bs f.fee),Value.string ⟨#[]⟩,Value.string (bs f.price.num),Value.string (bs f.price.den),Value.string (bs f.ratio.num),Value.string (bs f.ratio.den),Value.string (bs f.share.num),Value.string (bs f.share.den),Value.string ⟨#[]⟩,Value.string ⟨#[]⟩,Value.string ⟨#[]⟩,Value.string ⟨#[]⟩,Value.string ⟨#[]⟩,Value.string ⟨#[]⟩],Value.int .i64 K,Value.agg #[Value.string s1,Value.string s2]],defers:=[] }:Act):=ha.trans (by kernel_rfl);clear ha;subst ha2;obtain⟨W0,hx,hx2⟩:=hj;clear h hr;go_wp2_with fail;have HPD:=HP.out.ext hx;have HXD:=HX.out.trans hx;subst hX7;refine MI (ef rfl _ _ (w.heap.size+1) (.string s1) (.string s2) rfl (((HPD.set_ 0 (.string s1)).set_ 1 (.string s2)).ext hx2)) rfl ?_;exact⟨rfl,(HXD.setCell (p:=⟨w.heap.size+1,0,none⟩) (by show w.heap.size<=w.heap.size+1;omega) _).setCell (p:=⟨w.heap.size+1,1,none⟩) (by show w.heap.size<=w.heap.size+1;omega) _ |>.trans hx2⟩
 case hstep =>
  intro fu listed a w' i h hi
  have hW:i<18->Ext Wd w':=fun hi15=>h.before hi hi15 (by decide) (by
   intro L hcl h18;have a17:L 17:=hcl 18 _ ⟨17,.data⟩ rfl h18 (by simp) rfl;have a15:L 15:=hcl 17 _ ⟨15,.data⟩ rfl a17 (by simp) rfl;have a16:L 16:=hcl 17 _ ⟨16,.data⟩ rfl a17 (by simp) rfl;have a2:L 2:=hcl 15 _ ⟨2,.data⟩ rfl a15 (by simp) rfl;have a5:L 5:=hcl 15 _ ⟨5,.data⟩ rfl a15 (by simp) rfl;have a8:L 8:=hcl 15 _ ⟨8,.data⟩ rfl a15 (by simp) rfl;have a10:L 10:=hcl 15 _ ⟨10,.data⟩ rfl a15 (by simp) rfl;have a12:L 12:=hcl 15 _ ⟨12,.data⟩ rfl a15 (by simp) rfl;have a14:L 14:=hcl 15 _ ⟨14,.data⟩ rfl a15 (by simp) rfl;have a1:L 1:=hcl 2 _ ⟨1,.data⟩ rfl a2 (by simp) rfl;have a0:L 0:=hcl 1 _ ⟨0,.data⟩ rfl a1 (by simp) rfl;have a4:L 4:=hcl 5 _ ⟨4,.data⟩ rfl a5 (by simp) rfl;have a3:L 3:=hcl 4 _ ⟨3,.data⟩ rfl a4 (by simp) rfl;have a7:L 7:=hcl 8 _ ⟨7,.data⟩ rfl a8 (by simp) rfl;have a6:L 6:=hcl 7 _ ⟨6,.data⟩ rfl a7 (by simp) rfl;have a9:L 9:=hcl 10 _ ⟨9,.data⟩ rfl a10 (by simp) rfl;have a11:L 11:=hcl 12 _ ⟨11,.data⟩ rfl a12 (by simp) rfl;have a13:L 13:=hcl 14 _ ⟨13,.data⟩ rfl a14 (by simp) rfl;intro i hi;obtain rfl|rfl|rfl|rfl|rfl|rfl|rfl|rfl|rfl|rfl|rfl|rfl|rfl|rfl|rfl|rfl|rfl|rfl:i=0∨i=1∨i=2∨i=3∨i=4∨i=5∨i=6∨i=7∨i=8∨i=9∨i=10∨i=11∨i=12∨i=13∨i=14∨i=15∨i=16∨i=17:=by omega
   ·exact a0
   ·exact a1
   ·exact a2
   ·exact a3
   ·exact a4
   ·exact a5
   ·exact a6
   ·exact a7
   ·exact a8
   ·exact a9
   ·exact a10
   ·exact a11
   ·exact a12
   ·exact a13
   ·exact a14
   ·exact a15
   ·exact a16
   ·exact a17
   )
  have hlt:i<19:=bP hi;have hbz:∀s,s<5->a.tmps.getD s undef=_:=fun s hs=>h.base' (s:=s) (by show s<23;omega) (.inl hs)
  obtain rfl|rfl|rfl|rfl|rfl|rfl|rfl|rfl|rfl|rfl|rfl|rfl|rfl|rfl|rfl|rfl|rfl|rfl|rfl:i=0∨i=1∨i=2∨i=3∨i=4∨i=5∨i=6∨i=7∨i=8∨i=9∨i=10∨i=11∨i=12∨i=13∨i=14∨i=15∨i=16∨i=17∨i=18:=by omega
  ·have hx:=hW (by omega);have e2:a.tmps.getD 2 undef=Value.pointer (some ⟨X7,0,none⟩):=hbz 2 (by omega);refine ar rfl rfl _ ?_ (h.step hi rfl rfl _ (.inl ⟨by decide,id,id⟩));simp[execOp,af,e2,f9]
  ·have hx:=hW (by omega);have e5:a.tmps.getD 5 undef=Value.pointer (some ⟨X7,9,none⟩):=h.need hi rfl 0 (by show 0<19;decide) (by show 5<23;decide) rfl;refine ar rfl rfl _ ?_ (h.step hi rfl rfl _ (.inl ⟨by decide,id,id⟩));simp[execOp,af,e5,l9 _ hx]
  ·have hx:=hW (by omega);have e6:a.tmps.getD 6 undef=Value.string (bs f.qty):=h.need hi rfl 1 (by show 1<19;decide) (by show 6<23;decide) rfl;refine dx rfl rfl (fn:=206) (args:=#[Value.string (bs f.qty)]) ?_ (om f.qty w') ?_
   ·simp[execOp,af,resolve,invoke,e6,Deferred.ofValue];rfl
   ·rintro e w2⟨rfl,hx2⟩;exact⟨_,rfl,h.step hi rfl rfl _ (.inl ⟨by decide,fun hh=>hh.trans hx2,fun⟨W0,h1,h2⟩=>⟨W0,h1,h2.trans hx2⟩⟩)⟩
  ·have hx:=hW (by omega);have e2:a.tmps.getD 2 undef=Value.pointer (some ⟨X7,0,none⟩):=hbz 2 (by omega);refine ar rfl rfl _ ?_ (h.step hi rfl rfl _ (.inl ⟨by decide,id,id⟩));simp[execOp,af,e2,f10]
  ·have hx:=hW (by omega);have e8:a.tmps.getD 8 undef=Value.pointer (some ⟨X7,10,none⟩):=h.need hi rfl 3 (by show 3<19;decide) (by show 8<23;decide) rfl;refine ar rfl rfl _ ?_ (h.step hi rfl rfl _ (.inl ⟨by decide,id,id⟩));simp[execOp,af,e8,l10 _ hx]
  ·have hx:=hW (by omega);have e9:a.tmps.getD 9 undef=Value.string (bs f.amt):=h.need hi rfl 4 (by show 4<19;decide) (by show 9<23;decide) rfl;refine dx rfl rfl (fn:=206) (args:=#[Value.string (bs f.amt)]) ?_ (om f.amt w') ?_
   ·simp[execOp,af,resolve,invoke,e9,Deferred.ofValue];rfl
   ·rintro e w2⟨rfl,hx2⟩;exact⟨_,rfl,h.step hi rfl rfl _ (.inl ⟨by decide,fun hh=>hh.trans hx2,fun⟨W0,h1,h2⟩=>⟨W0,h1,h2.trans hx2⟩⟩)⟩
  ·have hx:=hW (by omega);have e2:a.tmps.getD 2 undef=Value.pointer (some ⟨X7,0,none⟩):=hbz 2 (by omega);refine ar rfl rfl _ ?_ (h.step hi rfl rfl _ (.inl ⟨by decide,id,id⟩));simp[execOp,af,e2,f11]
  ·have hx:=hW (by omega);have e11:a.tmps.getD 11 undef=Value.pointer (some ⟨X7,11,none⟩):=h.need hi rfl 6 (by show 6<19;decide) (by show 11<23;decide) rfl;refine ar rfl rfl _ ?_ (h.step hi rfl rfl _ (.inl ⟨by decide,id,id⟩));simp[execOp,af,e11,l11 _ hx]
  ·have hx:=hW (by omega);have e12:a.tmps.getD 12 undef=Value.string (bs f.fee):=h.need hi rfl 7 (by show 7<19;decide) (by show 12<23;decide) rfl;refine dx rfl rfl (fn:=206) (args:=#[Value.string (bs f.fee)]) ?_ (om f.fee w') ?_
   ·simp[execOp,af,resolve,invoke,e12,Deferred.ofValue];rfl
   ·rintro e w2⟨rfl,hx2⟩;exact⟨_,rfl,h.step hi rfl rfl _ (.inl ⟨by decide,fun hh=>hh.trans hx2,fun⟨W0,h1,h2⟩=>⟨W0,h1,h2.trans hx2⟩⟩)⟩
  ·have hx:=hW (by omega);have e2:a.tmps.getD 2 undef=Value.pointer (some ⟨X7,0,none⟩):=hbz 2 (by omega);refine ar rfl rfl _ ?_ (h.step hi rfl rfl _ (.inl ⟨by decide,id,id⟩));simp[execOp,af,e2,f12]
  ·have hx:=hW (by omega);have e14:a.tmps.getD 14 undef=Value.pointer (some ⟨X7,12,none⟩):=h.need hi rfl 9 (by show 9<19;decide) (by show 14<23;decide) rfl;refine ar rfl rfl _ ?_ (h.step hi rfl rfl _ (.inl ⟨by decide,id,id⟩));simp[execOp,af,e14,l12 _ hx]
  ·have hx:=hW (by omega);have e2:a.tmps.getD 2 undef=Value.pointer (some ⟨X7,0,none⟩):=hbz 2 (by omega);refine ar rfl rfl _ ?_ (h.step hi rfl rfl _ (.inl ⟨by decide,id,id⟩));simp[execOp,af,e2,f13]
  ·have hx:=hW (by omega);have e16:a.tmps.getD 16 undef=Value.pointer (some ⟨X7,14,none⟩):=h.need hi rfl 11 (by show 11<19;decide) (by show 16<23;decide) rfl;refine ar rfl rfl _ ?_ (h.step hi rfl rfl _ (.inl ⟨by decide,id,id⟩));simp[execOp,af,e16,l14 _ hx]
  ·have hx:=hW (by omega);have e2:a.tmps.getD 2 undef=Value.pointer (some ⟨X7,0,none⟩):=hbz 2 (by omega);refine ar rfl rfl _ ?_ (h.step hi rfl rfl _ (.inl ⟨by decide,id,id⟩));simp[execOp,af,e2,f14]
  ·have hx:=hW (by omega);have e18:a.tmps.getD 18 undef=Value.pointer (some ⟨X7,16,none⟩):=h.need hi rfl 13 (by show 13<19;decide) (by show 18<23;decide) rfl;refine ar rfl rfl _ ?_ (h.step hi rfl rfl _ (.inl ⟨by decide,id,id⟩));simp[execOp,af,e18,l16 _ hx]
  ·have hx:=hW (by omega);have e7:a.tmps.getD 7 undef=Value.agg #[Value.string (bs f.qty),Value.string ⟨#[]⟩]:=h.need hi rfl 2 (by show 2<19;decide) (by show 7<23;decide) rfl;have e10:a.tmps.getD 10 undef=Value.agg #[Value.string (bs f.amt),Value.string ⟨#[]⟩]:=h.need hi rfl 5 (by show 5<19;decide) (by show 10<23;decide) rfl;have e13:a.tmps.getD 13 undef=Value.agg #[Value.string (bs f.fee),Value.string ⟨#[]⟩]:=h.need hi rfl 8 (by show 8<19;decide) (by show 13<23;decide) rfl;have e15:a.tmps.getD 15 undef=Value.agg #[Value.string (bs f.price.num),Value.string (bs f.price.den)]:=h.need hi rfl 10 (by show 10<19;decide) (by show 15<23;decide) rfl;have e17:a.tmps.getD 17 undef=Value.agg #[Value.string (bs f.ratio.num),Value.string (bs f.ratio.den)]:=h.need hi rfl 12 (by show 12<19;decide) (by show 17<23;decide) rfl;have e19:a.tmps.getD 19 undef=Value.agg #[Value.string (bs f.share.num),Value.string (bs f.share.den)]:=h.need hi rfl 14 (by show 14<19;decide) (by show 19<23;decide) rfl;refine ar rfl rfl _ ?_ (h.step hi rfl rfl _ (.inl ⟨by decide,id,id⟩));simp[execOp,af,e7,e10,e13,e15,e17,e19,Ma f w']
  ·have hx:=hW (by omega);have e1:a.tmps.getD 1 undef=Value.int .i64 K:=hbz 1 (by omega);refine ar rfl rfl _ ?_ (h.step hi rfl rfl _ (.inl ⟨by decide,id,id⟩));simp[execOp,af,e1]
  ·have hx:=hW (by omega);have e20:a.tmps.getD 20 undef=Value.agg #[Value.string ⟨#[]⟩,Value.string ⟨#[]⟩,Value.string ⟨#[]⟩,Value.string ⟨#[]⟩,Value.string ⟨#[]⟩,Value.string ⟨#[]⟩,Value.string ⟨#[]⟩,Value.string ⟨#[]⟩,Value.string (bs f.qty),Value.string ⟨#[]⟩,Value.string (bs f.amt),Value.string ⟨#[]⟩,Value.string (bs f.fee),Value.string ⟨#[]⟩,Value.string (bs f.price.num),Value.string (bs f.price.den),Value.string (bs f.ratio.num),Value.string (bs f.ratio.den),Value.string (bs f.share.num),Value.string (bs f.share.den),Value.string ⟨#[]⟩,Value.string ⟨#[]⟩,Value.string ⟨#[]⟩,Value.string ⟨#[]⟩,Value.string ⟨#[]⟩,Value.string ⟨#[]⟩]:=h.need hi rfl 15 (by show 15<19;decide) (by show 20<23;decide) rfl;have e21:a.tmps.getD 21 undef=Value.int .i64 K:=h.need hi rfl 16 (by show 16<19;decide) (by show 21<23;decide) rfl;refine ar rfl rfl _ ?_ (h.step hi rfl rfl _ (.inl ⟨by decide,id,id⟩));simp[execOp,af,e20,e21,HIX.out w']
  ·have hx:=h.at_last hi;have e4:a.tmps.getD 4 undef=Value.pointer (some ⟨X7+1,0,none⟩):=hbz 4 (by omega);have e22:a.tmps.getD 22 undef=Value.agg #[Value.string s1,Value.string s2]:=h.need hi rfl 17 (by show 17<19;decide) (by show 22<23;decide) rfl;refine xW rfl rfl ?_ (h.stepN hi rfl rfl (by show 23<=5+18;decide) _ _ (.inr ⟨rfl,_,hx,iD _⟩));simp[execOp,af,e4,e22,st _ hx]
end
end
section
open Go.RowKit
attribute [local go_sem] size_bs toList_bs
theorem Hc(a b:Int):(a == b)=decide (a=b):=by
 by_cases h:a=b
 ·subst h;simp
 ·rw[Nv h,Mt];exact h
theorem Lq(a:Nat):((a:Int) == 0)=decide (a=0):=by
 rw[Hc];by_cases h:a=0
 ·subst h;rfl
 ·rw[Nv h,Nv (by omega)]
def dN(f:FactV)(pn on:Nat):Nat->Bool
 |0=>f.ins.isEmpty
 |1=>f.other.isEmpty
 |2=>f.cur.isEmpty
 |3=>f.tgt.isEmpty
 |4=>f.qty.isEmpty
 |5=>f.amt.isEmpty
 |6=>f.fee.isEmpty
 |7=>f.price.num.isEmpty && f.price.den.isEmpty
 |8=>f.ratio.num.isEmpty && f.ratio.den.isEmpty
 |9=>f.share.num.isEmpty && f.share.den.isEmpty
 |10=>decide (pn=0)
 |11=>decide (on=0)
 |_=>decide (f.choice=0)
section
variable (f:FactV) (pa oa:Option Addr) (pn pc on oc:Nat) (w:World)
abbrev ae(A:Option Addr)(n c:Nat):Value := .slice A n c
theorem Cf(hk:(k=0∨k=1∨k=2∨k=3)∨k=10∨k=11∨k=12):Calls prog 65 #[aC f (ae pa pn pc) (ae oa on oc),.int .i64 (k:Nat)] w fun e w'=>e = .returned (.bool (dN f pn on k))∧Ext w w':=by
 have HB:=qh (ID w 30 (ag f (ae pa pn pc) (ae oa on oc)));have HX:Hid (Ext w (w.alloc (.cells (ag f (ae pa pn pc) (ae oa on oc)) 30))):=qh (Id _ _);rcases hk with (rfl|rfl|rfl|rfl)|rfl|rfl|rfl
 all_goals
  unfold dN;go_enter func65,ntmps65;obtain⟨x0,x1,x2,x3,x4,x5,x6,x7,x8,x9,x10,x11,x12,x13,x14,x15,x16,x17,x18,x19,x20⟩:=aj HB.out (iD _);go_wp2_with fail;go_ret;exact⟨by first|rfl|(show Ending.returned (.bool _)=Ending.returned (.bool (decide _));first|rw[←Lq]|rw[←Hc]),HX.out⟩
theorem jl{s1 s2:Bs}(hk:k=4∨k=5∨k=6∨k=7∨k=8∨k=9)(hix:qB f (k:Nat) (.string (bs s1)) (.string (bs s2)))(hv:dN f pn on k=(s1.isEmpty && s2.isEmpty)):Calls prog 65 #[aC f (ae pa pn pc) (ae oa on oc),.int .i64 (k:Nat)] w fun e w'=>e = .returned (.bool (dN f pn on k))∧Ext w w':=by
 have HB:=qh (ID w 30 (ag f (ae pa pn pc) (ae oa on oc)));have HX:Hid (Ext w (w.alloc (.cells (ag f (ae pa pn pc) (ae oa on oc)) 30))):=qh (Id _ _);have HV:=qh (wN f (ae pa pn pc) (ae oa on oc) (k:Nat) (bs s1) (bs s2) hix (w.alloc (.cells (ag f (ae pa pn pc) (ae oa on oc)) 30)));have hs1:(prog.info? 30).map (·.size)=some (ag f (ae pa pn pc) (ae oa on oc)).toList.length:=by kernel_rfl
 have hrg:=aL HB.out;rw[hv];clear hv hix;rcases hk with rfl|rfl|rfl|rfl|rfl|rfl
 all_goals
  go_enter func65,ntmps65;go_wp2_with (first|refine Oh rfl 30 _ rfl w.heap.size 0 rfl _ _ hrg M3 rfl hs1 ?_|fail);refine HV.out.mono ?_;rintro e v1⟨rfl,hx1⟩;replace HX:=HX.qt hx1;clear hx1;go_wp2_with fail
  all_goals
   go_ret;exact⟨by simp[*],HX.out⟩
end
def bC(f:Fr):List Value:=[.string (bs f.num),.string (bs f.den)]
theorem dF(f:Fr):(bC f).length=2:=rfl
def bH(fs:List Fr):List Value:=fs.flatMap bC
theorem qC(fs:List Fr):(bH fs).length=fs.length*2:=by
 induction fs with
 |nil=>rfl
 |cons x r ih=>simp only[bH,OD,Mp,MG,dF]at ih ⊢;omega
def eH(w:World)(A:Option Addr)(fs:List Fr):Prop:=Reads w 2 A fs.length (bH fs)
theorem eH.ext{w:World}(h:eH w A fs)(he:Ext w w'):eH w' A fs:=Reads.ext h he
theorem eH.at_{w:World}(h:eH w A fs)(hk:k<fs.length) :
  ∃b o,A=some ⟨b,o,none⟩∧b<w.heap.size∧w.cell? ⟨b,o+k*2,none⟩=some (.string (bs (fs[k]'hk).num))∧w.cell? ⟨b,o+k*2+1,none⟩=some (.string (bs (fs[k]'hk).den)):=by
 obtain⟨b,o,rfl,hb⟩:=Reads.at_ h (by omega)
 have key:∀j (_:j<2),w.cell? ⟨b,o+k*2+j,none⟩=(bC (fs[k]'hk))[j]? := fun j hj=>by
  have h1:=ik bC 2 dF fs k j hk hj;have hl:j<(bC (fs[k]'hk)).length:=by rw[dF];exact hj
  rw[Mr hl]at h1 ⊢;have h2:=Reads.cell h h1;rw[←Pg]at h2;exact h2
 exact⟨b,o,rfl,hb,key 0 (by decide),key 1 (by decide)⟩
theorem xX(fs:List Fr)(k:Nat)(x:Fr)(h:k<fs.length):bH (fs.set k x)=((bH fs).set (k*2) (.string (bs x.num))).set (k*2+1) (.string (bs x.den)):=by
 induction fs generalizing k with
 |nil=>simp at h
 |cons z r ih =>
  cases k with
  |zero=>simp[bH,bC]
  |succ k =>
   have:=ih k (by simpa using h);simp only[bH,PN,OD]at this ⊢
   rw[this,show(k+1)*2=(bC z).length+k*2 by rw[dF];omega,Nx _ _ (by omega),Qm,Nx _ _ (by omega),Pg,Qm]
end
section
open Go.RowKit Go.Shelf
attribute [local go_sem] size_bs toList_bs
def dg(fn:Nat->Int):Nat->Int
 |0=>0
 |k+1=>if dg fn k≠0 then dg fn k else fn k
theorem fC{fn:Nat->Int}:∀ {k:Nat},(∀j,j<k->fn j=0)->dg fn k=0
 |0,_=>rfl
 |k+1,h=>by
  have h1:=fC (k:=k) fun j hj=>h j (by omega)
  unfold dg;rw[Mj (by rw[h1];simp)];exact h k (by omega)
theorem iW{fn:Nat->Int}{k:Nat}(h:∀j,j<k->fn j=0)(hk:fn k≠0):∀ {n:Nat},k<n->dg fn n=fn k
 |0,hn=>absurd hn (by omega)
 |n+1,hn=>by
  by_cases e:k=n
  ·subst e;unfold dg;rw[Mj (by rw[fC h];simp)]
  ·have h1:=iW (n:=n) h hk (by omega);unfold dg;rw[Mq (by rw[h1];exact hk),h1]
def dU(ps:List Fr)(k:Nat):Int:=match ps[k]? with
 |some p=>if isId p.num=false then 23 else if(ps.take k).any (fun x=>x.num == p.num)=true then 5 else bU ⟨p.den,[]⟩ true false
 |none=>0
def gY(ps:List Fr):Nat->Int
 |0=>0
 |k+1=>gY ps k+valI ((ps[k]?.map (·.den)).getD [])
def fN(ps:List Fr)(qty:Bs):Int:=if 64<ps.length then 4 else if dg (dU ps) ps.length≠0 then dg (dU ps) ps.length else if 0<cmpI (gY ps ps.length) (valI qty) then 15 else 0
structure PicksP (ps:List Fr) (qty:Bs) (e:Int):Prop where
 long:64<ps.length->e=4
 hit:¬ 64<ps.length->∀k,k<ps.length->(∀j,j<k->dU ps j=0)->dU ps k≠0->e=dU ps k
 short:¬ 64<ps.length->(∀j,j<ps.length->dU ps j=0)->0<cmpI (gY ps ps.length) (valI qty)->e=15
 ok:¬ 64<ps.length->(∀j,j<ps.length->dU ps j=0)->¬ 0<cmpI (gY ps ps.length) (valI qty)->e=0
theorem Hd(ps:List Fr)(qty:Bs):PicksP ps qty (fN ps qty):=by
 refine⟨fun a=>?_,fun a k hk b c=>?_,fun a b c=>?_,fun a b c=>?_⟩
 ·unfold fN;rw[Mq a]
 ·unfold fN;rw[Mj a,Mq (by rw[iW b c hk];exact c),iW b c hk]
 ·unfold fN;rw[Mj a,Mj (by rw[fC b];simp),Mq c]
 ·unfold fN;rw[Mj a,Mj (by rw[fC b];simp),Mj c]
structure PickP (ps:List Fr) (k:Nat) (p:Fr) (e:Int):Prop where
 a:isId p.num=false->e=23
 b:isId p.num=true->(ps.take k).any (fun x=>x.num == p.num)=true->e=5
 c:isId p.num=true->(ps.take k).any (fun x=>x.num == p.num)=false->e=bU ⟨p.den,[]⟩ true false
theorem I9(hk:k<ps.length):PickP ps k (ps[k]'hk) (dU ps k):=by
 unfold dU;rw[Mr hk];dsimp only;refine⟨fun a=>?_,fun a b=>?_,fun a b=>?_⟩
 ·rw[Mq a]
 ·rw[Mj (by rw[a];simp),Mq b]
 ·rw[Mj (by rw[a];simp),Mj (by rw[b];simp)]
theorem sI(hk:k<ps.length):gY ps (k+1)=gY ps k+valI (ps[k]'hk).den:=by
 show gY ps k+_=_;rw[Mr hk];rfl
theorem wO{ps:List Fr}{L:Nat}(h:∀p ∈ ps,p.den.length<=L):∀k,k<=ps.length->(gY ps k).natAbs<10 ^ (L+k)
 |0,_=>by
  show(0:Int).natAbs<_;exact Pf (by decide)
 |k+1,hk=>by
  rw[sI (by omega)];have h1:=wO h k (by omega);have h2:(valI (ps[k]'(by omega)).den).natAbs<10 ^ (L+k):=aG (by have:=h _ (Ml (show k<ps.length by omega));omega);exact NY (Rn _ _) (kz h1 h2)
abbrev wP(p:Fr):Value := .agg #[.string (bs p.num),.string (bs p.den)]
theorem eH.take{w:World}(h:eH w A fs)(k:Nat)(hk:k<=fs.length):eH w A (fs.take k):=by
 have hl:(fs.take k).length=k:=by rw[Mu];omega
 refine⟨py bC 2 dF _,fun h0=>?_⟩;obtain⟨b,o,e,hb,hc⟩:=h.2 (by omega);refine⟨b,o,e,hb,fun j u hu=>hc j u ?_⟩;have e2:fs.flatMap bC=(fs.take k).flatMap bC++(fs.drop k).flatMap bC:=by rw[←List.flatMap_append,MP]
 unfold bH at hu ⊢;rw[e2,OY (Nk.1 hu).1];exact hu
theorem pD(kf:Nat)(cb:Array Value)(ek:∀args w,(callFunc kf args).run prog w = .ok (.enter kf args) w)(p:Fr->Bool)(ls:List Fr)(A:Option Addr)(c:Nat)(w:World)(hA:eH w A ls)(hn:ls.length<=1000000)
  (hF:∀x ∈ ls,∀W,Ext w W->Calls prog kf (#[wP x]++cb) W fun e w'=>e = .returned (.bool (p x))∧Ext W w') :
  Calls prog 78 #[.slice A ls.length c,.func (.func kf) #[] cb] w fun e w'=>e = .returned (.int .i64 (bO p ls))∧Ext w w':=by
 have HA:=qh hA;have HF:=qh hF;clear hA hF;go_enter func78,ntmps78;go_wp2_with fail;go_loopw [8,5] (fun i _ wr=>∃k:Nat,k<=ls.length∧i = .int .i64 k∧(∀x ∈ ls.take k,p x=false)∧Ext w wr) (fun i _ _=>ls.length-(intOf i).toNat)
 case atStart=>exact⟨0,by omega,rfl,by simp,iD _⟩
 case round =>
  obtain⟨k,hk,rfl,hz,hx⟩:=hrel;have HZ:=qh hz;have HX:=qh hx;clear hz hx;by_cases hlt:k<ls.length
  ·obtain⟨b,o,rfl,hb,c0,c1⟩:=(HA.out.ext HX.out).at_ hlt;have HC:=qh (HF.out (ls[k]'hlt) (Ml _));have HN:Hid (p (ls[k]'hlt)=false->∀x ∈ ls.take (k+1),p x=false):=qh (fun h=>kG hlt HZ.out h);have HI:Hid (p (ls[k]'hlt)=true->bO p ls=k):=qh (fun h=>lV hlt HZ.out h);generalize (ls[k]'hlt)=x at *;go_wp2_with fail;refine(HC.out _ HX.out).mono ?_;rintro e w1⟨rfl,hx1⟩;replace HX:=HX.qt hx1;clear hx1
   cases hp:p x
   ·have HN1:=qh (HN.out hp);clear hp;go_wp2_with fail;go_roundw
    case rel=>exact⟨k+1,by omega,by go_num,HN1.out,HX.out⟩
    case measure=>simp[intOf];omega
   ·have HI1:=qh (HI.out hp);clear hp;go_wp2_with fail;go_ret;exact⟨by rw[HI1.out];rfl,HX.out⟩
  ·have HI:Hid (bO p ls = -1):=qh (kF (by have:=HZ.out;rwa[Mv (by omega)]at this));go_wp2_with fail;go_ret;exact⟨by rw[HI.out];rfl,HX.out⟩
theorem li(kf:Nat)(cb:Array Value)(ek:∀args w,(callFunc kf args).run prog w = .ok (.enter kf args) w)(p:Fr->Bool)(ls:List Fr)(A:Option Addr)(c:Nat)(w:World)(hA:eH w A ls)(hn:ls.length<=1000000)
  (hF:∀x ∈ ls,∀W,Ext w W->Calls prog kf (#[wP x]++cb) W fun e w'=>e = .returned (.bool (p x))∧Ext W w') :
  Calls prog 73 #[.slice A ls.length c,.func (.func kf) #[] cb] w fun e w'=>e = .returned (.bool (ls.any p))∧Ext w w':=by
 have HI:=qh (pD kf cb ek p ls A c w hA hn hF);have HZ:Hid (decide (0<=bO p ls)=ls.any p):=qh (nX p ls);generalize ls.any p=b at *;generalize bO p ls=z at *;clear hA hF;go_enter func73,ntmps73;go_wp2_with fail;refine HI.out.mono ?_;rintro e w1⟨rfl,hx1⟩;have HX:=qh hx1;clear hx1;go_wp2_with fail;go_ret;exact⟨by rw[←HZ.out];rfl,HX.out⟩
theorem eZ{w:World}{x y:Value}(h:Blk w g 124 #[x,y])(hx:Ext w w'):w'.cell? ⟨g,0,none⟩=some x∧w'.cell? ⟨g,1,none⟩=some y:=by
 have k:=h.ext hx;have h0:=k.cell 0;have h1:=k.cell 1;simp only[Mk,Mm,Ms]at h0 h1;exact⟨h0,h1⟩
theorem Fb(x:Fr)(G:Nat)(lt qt:Bs)(w:World)(hB:Blk w G 124 #[.string (bs lt),.string (bs qt)]) :
  Calls prog 205 #[wP x,.pointer (some ⟨G,0,none⟩)] w fun e w'=>e = .returned (.bool (x.num == lt))∧Ext w w':=by
 have HX:Hid (Ext w (w.alloc (.cells #[.string (bs x.num),.string (bs x.den)] 124))):=qh (Id _ _);have HB:=qh (ID w 124 #[.string (bs x.num),.string (bs x.den)]);have HG:=qh (hB.ext HX.out);have c0:=HB.out.cell 0;have c1:=HG.out.cell 0;simp only[Mk,Mm]at c0 c1;clear hB;go_enter func205,ntmps205;go_wp2_with fail;go_ret;exact⟨rfl,HX.out⟩
theorem Lr(q:Bs)(h1:q.length<=9000)(pos:Bool)(g1 g2:Nat)(w:World)(hE:Env w)(b1:Blk w g1 4 #[.bool pos])(b2:Blk w g2 4 #[.bool false]) :
  Calls prog 199 #[.agg #[.string (bs q),.string ⟨#[]⟩],.pointer (some ⟨g1,0,none⟩),.pointer (some ⟨g2,0,none⟩)] w fun e w'=>e = .returned (.int .i64 (bR ⟨q,[]⟩ pos))∧Ext w w':=qr ⟨q,[]⟩ h1 (by simp) pos g1 g2 w hE b1 b2
theorem Fc(f:FactV)(O:Value)(ps:List Fr)(A:Option Addr)(c:Nat)(w:World)(hA:eH w A ps)(hs:∀p ∈ ps,p.num.length<=9000∧p.den.length<=9000)(hn:ps.length<=100000)(hc:ps.length<=c)(hq:f.qty.length<=9000)(hE:Env w) :
  Calls prog 135 #[aC f (ae A ps.length c) O] w fun e w'=>e = .returned (.int .i64 (fN ps f.qty))∧Ext w w':=by
 have HE:=qh hE;have HA:=qh hA;have HS:=qh hs;have hp:=Hd ps f.qty;have P1:=qh hp.long;have P2:=qh hp.hit;have P3:=qh hp.short;have P4:=qh hp.ok;generalize fN ps f.qty=res at *;have HB:=qh (ID w 30 (ag f (ae A ps.length c) O));have HX:Hid (Ext w (w.alloc (.cells (ag f (ae A ps.length c) O) 30))):=qh (Id _ _);have HQ:=qh hq;clear hA hs hp hq hE;go_enter func135,ntmps135;obtain⟨-,-,-,-,-,-,-,-,-,x9,-,-,-,-,-,-,-,-,x18,-⟩:=aj HB.out (iD _);by_cases h64:64<ps.length
 ·have g:decide ((64:Int)<(ps.length:Int))=true:=by rw[MA];omega
  have e0:=P1.out h64;subst e0;clear P1 P2 P3 P4;go_wp2_with fail;go_ret;exact⟨rfl,HX.out⟩
 have g:decide ((64:Int)<(ps.length:Int))=false:=by rw[Mi];omega
 replace P2:=qh (P2.out h64);replace P3:=qh (P3.out h64);replace P4:=qh (P4.out h64)
 have HL:Hid (∀k,k<=ps.length->(ofI (gY ps k)).length<=10000):=qh (fun k hk=>by
  have:=bz (wO (L:=9000) (fun p hp=>(HS.out p hp).2) k hk);omega)
 clear P1 x9;have hqs:(bs [])=⟨#[]⟩:=rfl;have H0:Hid (ofI (gY ps 0)=[]):=qh (cK.2 rfl);go_wp2_with fail;generalize w.alloc (.cells (ag f (ae A ps.length c) O) 30)=W0 at *;generalize hgx:w.heap.size=gx at *;clear x18 g h64;go_loopw [14,3,4,5,6] (fun i s _ _ _ wr=>∃k:Nat,k<=ps.length∧i = .int .i64 k∧s = .string (bs (ofI (gY ps k)))∧(∀j,j<k->dU ps j=0)∧Ext W0 wr) (fun i _ _ _ _ _=>ps.length-(intOf i).toNat)
 case atStart=>exact⟨0,by omega,rfl,by rw[H0.out];rfl,fun j hj=>absurd hj (by omega),iD _⟩
 case round =>
  obtain⟨k,hk,rfl,rfl,hz,hx⟩:=hrel;replace HX:=HX.qt hx;replace HB:=qh (HB.out.ext hx);have HLo:=qh hx;have HZ:=qh hz;clear hx hz;by_cases hlt:k<ps.length
  ·obtain⟨b,o,rfl,hb,c0,c1⟩:=(HA.out.ext HX.out).at_ hlt;have hsz:=HS.out _ (Ml hlt);have pk:=I9 hlt;have K1:=qh pk.a;have K2:=qh pk.b;have K3:=qh pk.c;have HT:=qh (sI hlt);have HHit:Hid (dU ps k≠0->res=dU ps k):=qh (P2.out k hlt HZ.out)
   have HNx:Hid (dU ps k=0->∀j,j<k+1->dU ps j=0):=qh (fun h j hj=>by
    by_cases e:j=k
    ·subst e;exact h
    ·exact HZ.out j (by omega))
   have LOT:=qh (I8 (ps[k]'hlt).num (by omega));have HLM:=qh (fun g1 g2 W hE b1 b2=>Lr (ps[k]'hlt).den hsz.2 true g1 g2 W hE b1 b2);have ADD:=qh (iL (ofI (gY ps k)) (ps[k]'hlt).den (by have:=HL.out k hk;omega) (by omega));rw[valI_ofI,←HT.out]at ADD;have hki:(k:Int)<(ps.length:Int):=by omega
   have hk0:(0:Int)<=(k:Int):=by omega
   have HTK:=qh ((HA.out).take k hk);have hlk:(ps.take k).length=k:=by rw[Mu];omega
   clear pk HT P2 P3 P4 HL;generalize dU ps k=pe at *;generalize hs1:gY ps (k+1)=s1 at *;have HS1:=qh hs1;clear hs1;generalize ps[k]'hlt=y at *;obtain⟨lt,qt⟩:=y;dsimp only at c0 c1 hsz K1 K2 K3 LOT HLM ADD;have HG:=qh (ID wr 124 #[.string (bs lt),.string (bs qt)]);replace HX:=qh (HX.out.alloc (.cells #[.string (bs lt),.string (bs qt)] 124));replace HLo:=qh (HLo.out.alloc (.cells #[.string (bs lt),.string (bs qt)] 124));replace HB:=qh (HB.out.alloc (.cells #[.string (bs lt),.string (bs qt)] 124));go_upto_region 7 with fail;generalize hG4:wr.heap.size=G4 at *;generalize wr.alloc (.cells #[.string (bs lt),.string (bs qt)] 124)=W4 at *;clear c0 c1 hb;obtain⟨p0,p1⟩:=eZ HG.out (iD _);go_wp2_with fail;refine(LOT.out _ (HE.out.ext HX.out)).mono ?_;rintro e W5⟨rfl,hx1⟩;replace HX:=HX.qt hx1;replace HLo:=HLo.qt hx1;replace HB:=qh (HB.out.ext hx1);replace HG:=qh (HG.out.ext hx1);clear hx1 p0 p1 LOT;obtain⟨p0,p1⟩:=eZ HG.out (iD _);generalize isId lt=id1 at *
   cases id1
   ·have e0:=K1.out (by trivial);have e1:=HHit.out (by rw[e0];decide);rw[e0]at e1;subst e1;clear K1 K2 K3 HHit HNx HLM ADD;go_wp2_with fail;go_ret;exact⟨rfl,HX.out⟩
   have CT:=qh (li 205 #[.pointer (some ⟨G4,0,none⟩)] (fun _ _=>by rfl) (fun x=>x.num == lt) (ps.take k) (some ⟨b,o,none⟩) c W5 (HTK.out.ext HX.out) (by rw[hlk];omega) (fun x _ W hx=>Fb x G4 lt qt W (HG.out.ext hx)));rw[hlk]at CT;replace K2:=qh (K2.out (by trivial));replace K3:=qh (K3.out (by trivial));rw[qA]at K3;generalize (ps.take k).any (fun x=>x.num == lt)=an at *;obtain⟨-,-,-,-,-,-,-,-,-,-,-,-,-,-,-,-,-,-,x18,-⟩:=aj HB.out (iD _);clear hlk;have hkc:(k:Int)<=(c:Int):=by omega
   go_wp2_with fail;refine CT.out.mono ?_;rintro e W6⟨rfl,hx1⟩;replace HX:=HX.qt hx1;replace HLo:=HLo.qt hx1;replace HB:=qh (HB.out.ext hx1);replace HG:=qh (HG.out.ext hx1);clear hx1 p0 p1 CT x18 K1;obtain⟨p0,p1⟩:=eZ HG.out (iD _)
   cases an;rotate_left
   ·have e0:=K2.out (by trivial);have e1:=HHit.out (by rw[e0];decide);rw[e0]at e1;subst e1;clear K2 K3 HHit HNx HLM ADD;go_wp2_with fail;go_ret;exact⟨rfl,HX.out⟩
   have e0:=K3.out (by trivial);clear K2 K3;generalize bR ⟨qt,[]⟩ true=le at *;subst e0;go_upto_region 11 with fail;have HD:Hid (Ext W6 W6.drew):=qh (iD W6).drew
   go_region_held3 (fun w'=>w'.cell? ⟨G4,1,none⟩=some (.string (bs qt)))
    (go_keep)
    (first
     |(go_at_call 129;((with_reducible refine(jE true false _).mono ?_);rintro e w5⟨rfl,hb1,hb2,hx5⟩);(replace HD:=HD.qt hx5);(have HB1:Hid (Blk w5 W6.heap.size 4 #[.bool true]):=qh hb1);(have HB2:Hid (Blk w5 (W6.heap.size+1) 4 #[.bool false]):=qh hb2);(obtain⟨p0,p1⟩:=eZ HG.out HD.out);clear hx5 hb1 hb2)
     |(go_at_call 206;((with_reducible refine(om qt _).mono ?_);rintro e w6⟨rfl,hx6⟩);(replace HD:=HD.qt hx6);(replace HB1:=qh (HB1.out.ext hx6));(replace HB2:=qh (HB2.out.ext hx6));(obtain⟨p0,p1⟩:=eZ HG.out HD.out);clear hx6)
     |(go_at_call 199;((with_reducible refine(HLM.out _ _ _ (HE.out.ext (HX.out.trans HD.out)) HB1.out HB2.out).mono ?_);rintro e w7⟨rfl,hx7⟩);(replace HD:=HD.qt hx7);(obtain⟨p0,p1⟩:=eZ HG.out HD.out);clear hx7)
     |fail)
   all_goals
    replace HX:=qh (HX.out.trans HD.out);replace HLo:=qh (HLo.out.trans HD.out);replace HB:=qh (HB.out.ext HD.out);clear HB1 HB2 HLM HG HD;by_cases yl:pe=0
    ·have hz1:=qh (HNx.out yl);subst yl;clear HHit HNx;go_wp2_with fail;refine(ADD.out _ (HE.out.ext HX.out)).mono ?_;rintro e W8⟨rfl,hx1⟩;replace HX:=HX.qt hx1;replace HLo:=HLo.qt hx1;clear hx1 ADD;go_wp2_with fail;exact⟨⟨k+1,by omega,by go_num,by rw[HS1.out],hz1.out,HLo.out⟩,by simp[intOf];omega⟩
    ·have e1:=HHit.out yl;have g5:(pe != 0)=true:=by rw[Nc];exact yl
     subst e1;clear HHit HNx ADD;go_wp2_with fail;go_ret;exact⟨rfl,HX.out⟩
  ·obtain rfl:k=ps.length:=by omega
   have CMP:=qh (cmpP (ofI (gY ps ps.length)) f.qty (by have:=HL.out ps.length (Mn _);omega) (by have:=HQ.out;omega));rw[valI_ofI]at CMP;replace P3:=qh (P3.out HZ.out);replace P4:=qh (P4.out HZ.out);generalize cmpI (gY ps ps.length) (valI f.qty)=cq at *;have hki:¬ ((ps.length:Int)<(ps.length:Int)):=by omega
   obtain⟨_,_,_,_,_,_,_,_,_,x9,_,_,_,_,_,_,_,_,_,_,_⟩:=aj HB.out (iD _);clear P2 HL hk hlt HZ;go_wp2_with fail;refine(CMP.out _ (HE.out.ext HX.out)).mono ?_;rintro e W8⟨rfl,hx1⟩;replace HX:=HX.qt hx1;clear hx1 CMP;by_cases yq:0<cq
   focus have g5:decide (0<cq)=true:=Pz yq;have e1:=P3.out yq
   rotate_left
   focus have g5:decide (0<cq)=false:=Nv yq;have e1:=P4.out (by omega)
   all_goals
    subst e1;clear P3 P4;go_wp2_with fail;go_ret;exact⟨rfl,HX.out⟩
end
section
open Go.RowKit
attribute [local go_sem] size_bs toList_bs
end
section
open Go.RowKit Go.Shelf
attribute [local go_sem] size_bs toList_bs
def fO(o:OptV):List Value:=[.string (bs o.other),.string (bs o.r.num),.string (bs o.r.den),.string (bs o.p.num),.string (bs o.p.den),.string (bs o.v.num),.string (bs o.v.den)]
theorem kK(x:OptV):(fO x).length=7:=rfl
def nB(w:World)(A:Option Addr)(os:List OptV):Prop:=Reads w 7 A os.length (os.flatMap fO)
theorem nB.ext{w:World}{os:List OptV}(h:nB w A os)(he:Ext w w'):nB w' A os:=Reads.ext h he
theorem nB.at_{w:World}{os:List OptV}(h:nB w A os)(hk:k<os.length) :
  ∃b o,A=some ⟨b,o,none⟩∧b<w.heap.size∧w.cell? ⟨b,o+k*7,none⟩=some (.string (bs (os[k]'hk).other))∧w.cell? ⟨b,o+k*7+1,none⟩=some (.string (bs (os[k]'hk).r.num))∧w.cell? ⟨b,o+k*7+2,none⟩=some (.string (bs (os[k]'hk).r.den))∧w.cell? ⟨b,o+k*7+3,none⟩=some (.string (bs (os[k]'hk).p.num)) ∧
    w.cell? ⟨b,o+k*7+4,none⟩=some (.string (bs (os[k]'hk).p.den))∧w.cell? ⟨b,o+k*7+5,none⟩=some (.string (bs (os[k]'hk).v.num))∧w.cell? ⟨b,o+k*7+6,none⟩=some (.string (bs (os[k]'hk).v.den)):=by
 obtain⟨b,o,rfl,hb⟩:=Reads.at_ h (by omega)
 have key:∀j (_:j<7),w.cell? ⟨b,o+k*7+j,none⟩=(fO (os[k]'hk))[j]? := fun j hj=>by
  have h1:=ik fO 7 kK os k j hk hj;have hl:j<(fO (os[k]'hk)).length:=by rw[kK];exact hj
  rw[Mr hl]at h1 ⊢;have h2:=Reads.cell h h1;rw[←Pg]at h2;exact h2
 exact⟨b,o,rfl,hb,key 0 (by decide),key 1 (by decide),key 2 (by decide),key 3 (by decide),key 4 (by decide),key 5 (by decide),key 6 (by decide)⟩
end
end Go.Proofs.YtaegjkllenlfpaaGreatDoor
