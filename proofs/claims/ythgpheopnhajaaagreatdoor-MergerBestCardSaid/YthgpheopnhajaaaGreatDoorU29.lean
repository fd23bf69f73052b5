/- The seat's texts, part U29. -/
import Derived.Test.YthgpheopnhajaaaGreatDoorU25
import Derived.Test.YthgpheopnhajaaaGreatDoorU27
import Derived.Test.YthgpheopnhajaaaGreatDoorU28
import Derived.Deep.RegionHeld3
import Derived.Deep.MidRow
set_option maxRecDepth 100000
set_option maxHeartbeats 8000000
namespace Go.Proofs.YthgpheopnhajaaaGreatDoor
section
open Go.RowKit
open Go.Maps (Keyed)
attribute [local go_sem] size_bs toList_bs
def KindsEnds (w:World) (e:Ending) (w':World):Prop:=∃ b n D,e = .returned (.map (some b))∧MapAt w' b n D∧Maps.has D (.int .i64 10)=true∧(∀ z,D.atKey (.int .i64 10) z = .held exK)∧Ext w w'
def HaltAt (p:Prop):Prop:=p
theorem halt_in {p:Prop} (h:HaltAt p):p:=h
theorem halt_out {p:Prop} (h:p):HaltAt p:=h
theorem M_ex {W:World} {b n:Nat} {D:DataW Value} {k:Lit} {v:DataW Value} (h:MapAt W b n (D.put k v)):∃ d,MapAt W b n (D.put k d):=⟨_,h⟩
theorem kindsAll (w:World):Calls Tryz.prog 89 #[] w (KindsEnds w):=by
 have hmm:=@run_makeMap Tryz.prog
 go_enter Tryz.func89,Tryz.ntmps89
 go_wp2_with fail
 refine (fkBetween true false _).mono ?_
 rintro e w1 ⟨rfl,_,_,hx1⟩
 have HX:=Lib.hid hx1
 clear hx1
 go_wp2_with fail
 refine (fkBetween false false _).mono ?_
 rintro e w2 ⟨rfl,_,_,hx1⟩
 replace HX:=Lib.hid (HX.out.trans hx1)
 clear hx1
 have B1:=Lib.hid ((Blk.new w2 LT2 #[limV w.heap.size (w.heap.size+1)]).alloc (.cells #[makerV] FT))
 have B3:=Lib.hid (Blk.newAt (w2.alloc (.cells #[limV w.heap.size (w.heap.size+1)] LT2)) FT #[makerV] (w2.heap.size+1) (by simp))
 replace HX:=Lib.hid ((HX.out.alloc (.cells #[limV w.heap.size (w.heap.size+1)] LT2)).alloc (.cells #[makerV] FT))
 go_upto_region 5 with fail
 generalize hW5:(w2.alloc (.cells #[limV w.heap.size (w.heap.size+1)] LT2)).alloc (.cells #[makerV] FT)=W5 at *
 clear hW5
 generalize limV w.heap.size (w.heap.size+1)=lvP at *
 generalize limV w1.heap.size (w1.heap.size+1)=lvL at *
 generalize w2.heap.size=G at *
 have M:MapAt (W5.alloc (.map #[] 0)) W5.heap.size 0 (.map []):=World.ownsMap_made _ _ _ _
 have hxw:Ext W5 (W5.alloc (.map #[] 0)):=Ext.new _ _
 have K:=keyOK_nil
 have q1:=(B1.out.ext hxw).cell 0
 simp only [List.getElem?_toArray,List.getElem?_cons_zero] at q1
 go_wp2_with (first | (refine wpList_insert_own _ rfl _ _ _ 142 rfl 3 204 keyInt Tryz.underlying142 RK W5.heap.size (0) _ rfl M (by unfold maxLen;omega) (.int .i64 4) _ _ rfl rfl (keyMk 4 (by decide)) _ [] rfl ?_;intro u1 M1 hg;refine halt_in ?_) | fail)
 refine halt_out ?_
 obtain ⟨d1,M2⟩:=M_ex M1
 replace K:=keyOK_put K 4 (by decide) d1
 replace hxw:=hxw.only hg (Nat.le_refl _)
 clear hg M M1
 have M:=M2
 clear M2
 go_wp2_with (first | (refine wpList_insert_own _ rfl _ _ _ 142 rfl 3 204 keyInt Tryz.underlying142 RK W5.heap.size (0+1) _ rfl M (by unfold maxLen;omega) (.int .i64 5) _ _ rfl rfl (keyMk 5 (by decide)) _ [] rfl ?_;intro u2 M1 hg;refine halt_in ?_) | fail)
 refine halt_out ?_
 obtain ⟨d2,M2⟩:=M_ex M1
 replace K:=keyOK_put K 5 (by decide) d2
 replace hxw:=hxw.only hg (Nat.le_refl _)
 clear hg M M1
 have M:=M2
 clear M2
 go_wp2_with (first | (refine wpList_insert_own _ rfl _ _ _ 142 rfl 3 204 keyInt Tryz.underlying142 RK W5.heap.size (0+1+1) _ rfl M (by unfold maxLen;omega) (.int .i64 6) _ _ rfl rfl (keyMk 6 (by decide)) _ [] rfl ?_;intro u3 M1 hg;refine halt_in ?_) | fail)
 refine halt_out ?_
 obtain ⟨d3,M2⟩:=M_ex M1
 replace K:=keyOK_put K 6 (by decide) d3
 replace hxw:=hxw.only hg (Nat.le_refl _)
 clear hg M M1
 have M:=M2
 clear M2
 clear q1
 have HM:=Lib.hid M
 have HK:=Lib.hid K
 have hle:Hid (w.heap.size≤W5.heap.size):=Lib.hid HX.out.size
 replace HX:=Lib.hid (HX.out.trans hxw)
 replace B1:=Lib.hid (B1.out.ext hxw)
 replace B3:=Lib.hid (B3.out.ext hxw)
 clear M K hxw hmm
 go_wp2_with fail
 generalize W5.heap.size=Bt at *
 refine wp_region_any (by kernel_rfl) ?_
 show wpAny Tryz.prog .any kops _ kops.size (Array.replicate kops.size false) _ _
 have hsz:kops.size=124:=by kernel_rfl
 have hacc:((List.range kops.size).all fun i=>match kops[i]? with | some o=>o.after.toList.all (fun e=>decide (e.on<i)) | none=>true)=true:=by kernel_rfl
 refine wpAny_inv (Inv:=fun f listed a w'=>f≤190∧RAt ⟨w,G,G+1,lvP⟩ ksk 65 kops f listed a w') ?_ ?_ ?_ _ _ _ _ ⟨by rw [hsz];omega,none,?_⟩
 ·rintro f listed a w' ⟨hf,bm,h⟩ hr
  have hall:=ready_all hacc hr h.size
  have f0:=h.fits 0 (.inr ⟨123,_,rfl,hall 123 (by omega),rfl⟩)
  obtain ⟨b,e0,eb⟩:=f0
  obtain ⟨h1,n,D,h3,h4,h5⟩:=h.main b eb
  obtain ⟨t1,t2⟩:=h5 (hall 65 (by omega))
  have hx:=h.ext
  have hd:=h.dfr
  clear hall h hr hacc HX HM HK B1 B3 hle
  unfold Exit.then
  dsimp only
  go_wp2_with fail
  have e0:a.tmps.getD 0 undef = .map (some b):=e0
  refine bodyPost_ret (v := .map (some b)) ?_ hd ⟨b,n,D,rfl,h3,t1,t2,hx⟩
  have hres:Tryz.f89.results=#[.tmp 0]:=rfl
  unfold results
  rw [hres]
  simp only [List.mapM_toArray,List.mapM_cons,List.mapM_nil,e0]
  go_simp
 ·rintro listed a w' ⟨_,bm,h⟩
  exact ready_nil (by have:=h.cnt;omega) h.size
 ·rintro f listed a w' i ⟨hf,bm,h⟩ hi
  exact wpOp_mono (fun _ _ h=>⟨by omega,h⟩) (kstAll i (by have:=ready_lt hi;omega) h hi (by omega))
 ·refine ⟨by rw [Array.size_replicate],?_,HX.out.drew,rfl,rfl,rfl,rfl,B1.out.drew,B3.out.drew,?_,(fun b e=>by cases e),fun _=>rfl,?_⟩
  ·rw [Array.toList_replicate,List.count_replicate_self];exact Nat.le_refl _
  ·rintro d (hd | ⟨i,o,ho,hl,hd⟩)
   ·rcases hd with rfl | rfl | rfl | rfl
    ·trivial
    ·rfl
    ·rfl
    ·exact ⟨Bt,rfl,hle.out,by simp,_,_,HM.out.ext (Ext.refl _).drew,by rw [hsz];omega,HK.out⟩
   ·rw [Array.getD_eq_getD_getElem?,Array.getElem?_replicate] at hl
    split at hl <;> cases hl
  ·intro hl
   rw [Array.getD_eq_getD_getElem?,Array.getElem?_replicate] at hl
   split at hl <;> cases hl
end
section
open Go.RowKit
attribute [local go_sem] size_bs toList_bs
abbrev xc (key:Bs) (day:Int) (ins:Bs) (A:Option Addr) (n c:Nat):Array Value :=
 #[.string (bs key),.int .i64 0,.bool false,.int .i64 day,.int .i64 10,.string (bs ins),.string ⟨#[]⟩,.string ⟨#[]⟩,.string ⟨#[]⟩,.string ⟨#[]⟩,.string ⟨#[]⟩,.string ⟨#[]⟩,.string ⟨#[]⟩,.string ⟨#[]⟩,.string ⟨#[]⟩,.string ⟨#[]⟩,.string ⟨#[]⟩,.string ⟨#[]⟩,.slice none 0 0,.slice A n c,.int .i64 0]
abbrev xv (key:Bs) (day:Int) (ins:Bs) (A:Option Addr) (n c:Nat):Value := .agg (xc key day ins A n c)
theorem xBlk {w w':World} {g:Nat} {key ins:Bs} {day:Int} {A:Option Addr} {n c:Nat} (h:Blk w g 30 (xc key day ins A n c)) (hx:Ext w w') :
  w'.cell? ⟨g,0,none⟩=some (.string (bs key))∧w'.cell? ⟨g,1,none⟩=some (.int .i64 0)∧w'.cell? ⟨g,2,none⟩=some (.bool false)∧w'.cell? ⟨g,3,none⟩=some (.int .i64 day)∧w'.cell? ⟨g,4,none⟩=some (.int .i64 10)∧w'.cell? ⟨g,5,none⟩=some (.string (bs ins)) ∧
  w'.cell? ⟨g,6,none⟩=some (.string ⟨#[]⟩)∧w'.cell? ⟨g,7,none⟩=some (.string ⟨#[]⟩)∧w'.cell? ⟨g,8,none⟩=some (.string ⟨#[]⟩)∧w'.cell? ⟨g,9,none⟩=some (.string ⟨#[]⟩)∧w'.cell? ⟨g,10,none⟩=some (.string ⟨#[]⟩)∧w'.cell? ⟨g,11,none⟩=some (.string ⟨#[]⟩) ∧
  w'.cell? ⟨g,12,none⟩=some (.string ⟨#[]⟩)∧w'.cell? ⟨g,13,none⟩=some (.string ⟨#[]⟩)∧w'.cell? ⟨g,14,none⟩=some (.string ⟨#[]⟩)∧w'.cell? ⟨g,15,none⟩=some (.string ⟨#[]⟩)∧w'.cell? ⟨g,16,none⟩=some (.string ⟨#[]⟩)∧w'.cell? ⟨g,17,none⟩=some (.string ⟨#[]⟩) ∧
  w'.cell? ⟨g,18,none⟩=some (.slice none 0 0)∧w'.cell? ⟨g,19,none⟩=some (.slice A n c)∧w'.cell? ⟨g,20,none⟩=some (.int .i64 0):=by
 have k:=h.ext hx
 exact ⟨k.cell 0,k.cell 1,k.cell 2,k.cell 3,k.cell 4,k.cell 5,k.cell 6,k.cell 7,k.cell 8,k.cell 9,k.cell 10,k.cell 11,k.cell 12,k.cell 13,k.cell 14,k.cell 15,k.cell 16,k.cell 17,k.cell 18,k.cell 19,k.cell 20⟩
theorem fkName (s:Bs) (w:World) (hs:s.length≤9000) (h:isName s=true):Calls Tryz.prog 154 #[.string (bs s)] w fun e w'=>e = .returned (.int .i64 0)∧Ext w w':=by
 have HN:=Lib.hid (insName s w (by omega))
 rw [h] at HN
 go_enter Tryz.func154,Tryz.ntmps154
 go_wp2_with fail
 refine HN.out.mono ?_
 rintro e v0 ⟨rfl,hx1⟩
 have HX:=Lib.hid hx1
 clear hx1
 go_wp2_with fail
 go_ret
 exact ⟨rfl,HX.out⟩
theorem fkWhole (w:World):Calls Tryz.prog 221 #[.string ⟨#[]⟩] w fun e w'=>e = .returned (.agg #[.string ⟨#[]⟩,.string ⟨#[]⟩])∧Ext w w':=by
 have HB:=Lib.hid (Blk.new w 26 #[.string ⟨#[]⟩,.string ⟨#[]⟩])
 have HX:Hid (Ext w (w.alloc (.cells #[.string ⟨#[]⟩,.string ⟨#[]⟩] 26))):=Lib.hid (Ext.new _ _)
 go_enter Tryz.func221,Tryz.ntmps221
 obtain ⟨c0,c1,d0,d1⟩:=frBlk HB.out (Ext.refl _)
 go_wp2_with fail
 refine bodyPost_ret (results_fr rfl _ _ w.heap.size (.string ⟨#[]⟩) (.string ⟨#[]⟩) rfl HB.out) rfl ?_
 exact ⟨rfl,HX.out⟩
section
variable (key:Bs) (day:Int) (ins:Bs) (A:Option Addr) (n c:Nat) (w:World)
theorem fkEmpty1:Calls Tryz.prog 91 #[xv key day ins A n c,.int .i64 1] w fun e w'=>e = .returned (.bool true)∧Ext w w':=by
 have HB:=Lib.hid (Blk.new w 30 (xc key day ins A n c))
 have HX:Hid (Ext w (w.alloc (.cells (xc key day ins A n c) 30))):=Lib.hid (Ext.new _ _)
 go_enter Tryz.func91,Tryz.ntmps91
 obtain ⟨x0,x1,x2,x3,x4,x5,x6,x7,x8,x9,x10,x11,x12,x13,x14,x15,x16,x17,x18,x19,x20⟩:=xBlk HB.out (Ext.refl _)
 go_wp2_with fail
 go_ret
 exact ⟨rfl,HX.out⟩
theorem fkEmpty2:Calls Tryz.prog 91 #[xv key day ins A n c,.int .i64 2] w fun e w'=>e = .returned (.bool true)∧Ext w w':=by
 have HB:=Lib.hid (Blk.new w 30 (xc key day ins A n c))
 have HX:Hid (Ext w (w.alloc (.cells (xc key day ins A n c) 30))):=Lib.hid (Ext.new _ _)
 go_enter Tryz.func91,Tryz.ntmps91
 obtain ⟨x0,x1,x2,x3,x4,x5,x6,x7,x8,x9,x10,x11,x12,x13,x14,x15,x16,x17,x18,x19,x20⟩:=xBlk HB.out (Ext.refl _)
 go_wp2_with fail
 go_ret
 exact ⟨rfl,HX.out⟩
theorem fkEmpty3:Calls Tryz.prog 91 #[xv key day ins A n c,.int .i64 3] w fun e w'=>e = .returned (.bool true)∧Ext w w':=by
 have HB:=Lib.hid (Blk.new w 30 (xc key day ins A n c))
 have HX:Hid (Ext w (w.alloc (.cells (xc key day ins A n c) 30))):=Lib.hid (Ext.new _ _)
 go_enter Tryz.func91,Tryz.ntmps91
 obtain ⟨x0,x1,x2,x3,x4,x5,x6,x7,x8,x9,x10,x11,x12,x13,x14,x15,x16,x17,x18,x19,x20⟩:=xBlk HB.out (Ext.refl _)
 go_wp2_with fail
 go_ret
 exact ⟨rfl,HX.out⟩
theorem fkEmpty10:Calls Tryz.prog 91 #[xv key day ins A n c,.int .i64 10] w fun e w'=>e = .returned (.bool true)∧Ext w w':=by
 have HB:=Lib.hid (Blk.new w 30 (xc key day ins A n c))
 have HX:Hid (Ext w (w.alloc (.cells (xc key day ins A n c) 30))):=Lib.hid (Ext.new _ _)
 go_enter Tryz.func91,Tryz.ntmps91
 obtain ⟨x0,x1,x2,x3,x4,x5,x6,x7,x8,x9,x10,x11,x12,x13,x14,x15,x16,x17,x18,x19,x20⟩:=xBlk HB.out (Ext.refl _)
 go_wp2_with fail
 go_ret
 exact ⟨rfl,HX.out⟩
theorem fkEmpty12:Calls Tryz.prog 91 #[xv key day ins A n c,.int .i64 12] w fun e w'=>e = .returned (.bool true)∧Ext w w':=by
 have HB:=Lib.hid (Blk.new w 30 (xc key day ins A n c))
 have HX:Hid (Ext w (w.alloc (.cells (xc key day ins A n c) 30))):=Lib.hid (Ext.new _ _)
 go_enter Tryz.func91,Tryz.ntmps91
 obtain ⟨x0,x1,x2,x3,x4,x5,x6,x7,x8,x9,x10,x11,x12,x13,x14,x15,x16,x17,x18,x19,x20⟩:=xBlk HB.out (Ext.refl _)
 go_wp2_with fail
 go_ret
 exact ⟨rfl,HX.out⟩
end
end
section
open Go.RowKit Go.Shelf
attribute [local go_sem] size_bs toList_bs
def ixOK (K:Int):Prop:=∀ w:World,(Instr.index 251 (.agg #[Value.string ⟨#[]⟩,Value.string ⟨#[]⟩,Value.string ⟨#[]⟩,Value.string ⟨#[]⟩,Value.string ⟨#[]⟩,Value.string ⟨#[]⟩,Value.string ⟨#[]⟩,Value.string ⟨#[]⟩,Value.string ⟨#[]⟩,Value.string ⟨#[]⟩,Value.string ⟨#[]⟩,Value.string ⟨#[]⟩,Value.string ⟨#[]⟩,Value.string ⟨#[]⟩,Value.string ⟨#[]⟩,Value.string ⟨#[]⟩,Value.string ⟨#[]⟩,Value.string ⟨#[]⟩,Value.string ⟨#[]⟩,Value.string ⟨#[]⟩,Value.string ⟨#[]⟩,Value.string ⟨#[]⟩,Value.string ⟨#[]⟩,Value.string ⟨#[]⟩,Value.string ⟨#[]⟩,Value.string ⟨#[]⟩]) (.int .i64 K)).run Tryz.prog w = .ok (.agg #[Value.string ⟨#[]⟩,Value.string ⟨#[]⟩]) w
theorem ix26 (w:World):(Instr.build 251 #[(4,Value.agg #[Value.string ⟨#[]⟩,Value.string ⟨#[]⟩]),(5,Value.agg #[Value.string ⟨#[]⟩,Value.string ⟨#[]⟩]),(6,Value.agg #[Value.string ⟨#[]⟩,Value.string ⟨#[]⟩]),(7,Value.agg #[Value.string ⟨#[]⟩,Value.string ⟨#[]⟩]),(8,Value.agg #[Value.string ⟨#[]⟩,Value.string ⟨#[]⟩]),(9,Value.agg #[Value.string ⟨#[]⟩,Value.string ⟨#[]⟩])]).run Tryz.prog w = .ok (Value.agg #[Value.string ⟨#[]⟩,Value.string ⟨#[]⟩,Value.string ⟨#[]⟩,Value.string ⟨#[]⟩,Value.string ⟨#[]⟩,Value.string ⟨#[]⟩,Value.string ⟨#[]⟩,Value.string ⟨#[]⟩,Value.string ⟨#[]⟩,Value.string ⟨#[]⟩,Value.string ⟨#[]⟩,Value.string ⟨#[]⟩,Value.string ⟨#[]⟩,Value.string ⟨#[]⟩,Value.string ⟨#[]⟩,Value.string ⟨#[]⟩,Value.string ⟨#[]⟩,Value.string ⟨#[]⟩,Value.string ⟨#[]⟩,Value.string ⟨#[]⟩,Value.string ⟨#[]⟩,Value.string ⟨#[]⟩,Value.string ⟨#[]⟩,Value.string ⟨#[]⟩,Value.string ⟨#[]⟩,Value.string ⟨#[]⟩]) w:=by
 rfl
theorem fkIx4:ixOK 4:=fun w=>by rfl
theorem fkIx5:ixOK 5:=fun w=>by rfl
theorem fkIx6:ixOK 6:=fun w=>by rfl
theorem fkIx7:ixOK 7:=fun w=>by rfl
theorem fkIx8:ixOK 8:=fun w=>by rfl
theorem fkIx9:ixOK 9:=fun w=>by rfl
theorem fact_range {w:World} {g:Nat} {cs:Array Value} (h:Blk w g 30 cs):w.rangeAt g 0 cs.toList:=fun j v hv=>by rw [Nat.zero_add,h.cell j,← Array.getElem?_toList];exact hv
section
variable (key:Bs) (day:Int) (ins:Bs) (A:Option Addr) (n c:Nat)
theorem fkValue (K:Int) (hix:ixOK K) (w:World):Calls Tryz.prog 158 #[xv key day ins A n c,.int .i64 K] w fun e w'=>e = .returned (.agg #[.string ⟨#[]⟩,.string ⟨#[]⟩])∧Ext w w':=by
 have HB:=Lib.hid ((Blk.new w 30 (xc key day ins A n c)).alloc (.cells #[.string ⟨#[]⟩,.string ⟨#[]⟩] 26))
 have HP:=Lib.hid (Blk.newAt (w.alloc (.cells (xc key day ins A n c) 30)) 26 #[.string ⟨#[]⟩,.string ⟨#[]⟩] (w.heap.size+1) (by simp))
 have HX:Hid (Ext w ((w.alloc (.cells (xc key day ins A n c) 30)).alloc (.cells #[.string ⟨#[]⟩,.string ⟨#[]⟩] 26))):=Lib.hid ((Ext.new _ _).alloc _)
 have HIX:=Lib.hid hix
 clear hix
 go_enter Tryz.func158,Tryz.ntmps158
 go_upto_region 1 with fail
 generalize (w.alloc (.cells (xc key day ins A n c) 30)).alloc (.cells #[.string ⟨#[]⟩,.string ⟨#[]⟩] 26)=W at *
 refine wp_region_any (by kernel_rfl) ?_
 replace HB:=Lib.hid HB.out.drew
 replace HP:=Lib.hid HP.out.drew
 replace HX:=Lib.hid HX.out.drew
 change wpAny _ _ _ _ _ _ _ W.drew
 generalize W.drew=Wd at *
 generalize hX7:w.heap.size=X7 at *
 have l9:∀ W,Ext Wd W→(Instr.loadAt 24 (.pointer (some ⟨X7,9,none⟩))).run Tryz.prog W = .ok (Value.string ⟨#[]⟩) W:=fun W hx=>by
  obtain ⟨x0,x1,x2,x3,x4,x5,x6,x7,x8,x9,x10,x11,x12,x13,x14,x15,x16,x17,x18,x19,x20⟩:=xBlk HB.out hx
  go_simp
 have l10:∀ W,Ext Wd W→(Instr.loadAt 24 (.pointer (some ⟨X7,10,none⟩))).run Tryz.prog W = .ok (Value.string ⟨#[]⟩) W:=fun W hx=>by
  obtain ⟨x0,x1,x2,x3,x4,x5,x6,x7,x8,x9,x10,x11,x12,x13,x14,x15,x16,x17,x18,x19,x20⟩:=xBlk HB.out hx
  go_simp
 have l11:∀ W,Ext Wd W→(Instr.loadAt 24 (.pointer (some ⟨X7,11,none⟩))).run Tryz.prog W = .ok (Value.string ⟨#[]⟩) W:=fun W hx=>by
  obtain ⟨x0,x1,x2,x3,x4,x5,x6,x7,x8,x9,x10,x11,x12,x13,x14,x15,x16,x17,x18,x19,x20⟩:=xBlk HB.out hx
  go_simp
 have l12:∀ W,Ext Wd W→(Instr.loadAt 26 (.pointer (some ⟨X7,12,none⟩))).run Tryz.prog W = .ok (Value.agg #[Value.string ⟨#[]⟩,Value.string ⟨#[]⟩]) W:=fun W hx=>by
  obtain ⟨x0,x1,x2,x3,x4,x5,x6,x7,x8,x9,x10,x11,x12,x13,x14,x15,x16,x17,x18,x19,x20⟩:=xBlk HB.out hx
  go_simp
 have l14:∀ W,Ext Wd W→(Instr.loadAt 26 (.pointer (some ⟨X7,14,none⟩))).run Tryz.prog W = .ok (Value.agg #[Value.string ⟨#[]⟩,Value.string ⟨#[]⟩]) W:=fun W hx=>by
  obtain ⟨x0,x1,x2,x3,x4,x5,x6,x7,x8,x9,x10,x11,x12,x13,x14,x15,x16,x17,x18,x19,x20⟩:=xBlk HB.out hx
  go_simp
 have l16:∀ W,Ext Wd W→(Instr.loadAt 26 (.pointer (some ⟨X7,16,none⟩))).run Tryz.prog W = .ok (Value.agg #[Value.string ⟨#[]⟩,Value.string ⟨#[]⟩]) W:=fun W hx=>by
  obtain ⟨x0,x1,x2,x3,x4,x5,x6,x7,x8,x9,x10,x11,x12,x13,x14,x15,x16,x17,x18,x19,x20⟩:=xBlk HB.out hx
  go_simp
 have f9:∀ W:World,(Instr.fieldAt 30 (.pointer (some ⟨X7,0,none⟩)) 9).run Tryz.prog W = .ok (.pointer (some ⟨X7,9,none⟩)) W:=fun W=>by go_simp
 have f10:∀ W:World,(Instr.fieldAt 30 (.pointer (some ⟨X7,0,none⟩)) 10).run Tryz.prog W = .ok (.pointer (some ⟨X7,10,none⟩)) W:=fun W=>by go_simp
 have f11:∀ W:World,(Instr.fieldAt 30 (.pointer (some ⟨X7,0,none⟩)) 11).run Tryz.prog W = .ok (.pointer (some ⟨X7,11,none⟩)) W:=fun W=>by go_simp
 have f12:∀ W:World,(Instr.fieldAt 30 (.pointer (some ⟨X7,0,none⟩)) 12).run Tryz.prog W = .ok (.pointer (some ⟨X7,12,none⟩)) W:=fun W=>by go_simp
 have f13:∀ W:World,(Instr.fieldAt 30 (.pointer (some ⟨X7,0,none⟩)) 13).run Tryz.prog W = .ok (.pointer (some ⟨X7,14,none⟩)) W:=fun W=>by go_simp
 have f14:∀ W:World,(Instr.fieldAt 30 (.pointer (some ⟨X7,0,none⟩)) 14).run Tryz.prog W = .ok (.pointer (some ⟨X7,16,none⟩)) W:=fun W=>by go_simp
 have st:∀ W,Ext Wd W→(Instr.storeAt 26 (.pointer (some ⟨X7+1,0,none⟩)) (Value.agg #[Value.string ⟨#[]⟩,Value.string ⟨#[]⟩])).run Tryz.prog W = .ok () ((W.setCell ⟨X7+1,0,none⟩ (.string ⟨#[]⟩)).setCell ⟨X7+1,1,none⟩ (.string ⟨#[]⟩)):=fun W hx=>by
  obtain ⟨p0,p1,q0,q1⟩:=frBlk HP.out hx
  go_simp
 refine wpAny_inv (Inv:=GrInv _ _ (fun s=>(#[Value.pointer (some ⟨X7,9,none⟩),Value.string ⟨#[]⟩,Value.agg #[Value.string ⟨#[]⟩,Value.string ⟨#[]⟩],Value.pointer (some ⟨X7,10,none⟩),Value.string ⟨#[]⟩,Value.agg #[Value.string ⟨#[]⟩,Value.string ⟨#[]⟩],Value.pointer (some ⟨X7,11,none⟩),Value.string ⟨#[]⟩,Value.agg #[Value.string ⟨#[]⟩,Value.string ⟨#[]⟩],Value.pointer (some ⟨X7,12,none⟩),Value.agg #[Value.string ⟨#[]⟩,Value.string ⟨#[]⟩],Value.pointer (some ⟨X7,14,none⟩),Value.agg #[Value.string ⟨#[]⟩,Value.string ⟨#[]⟩],Value.pointer (some ⟨X7,16,none⟩),Value.agg #[Value.string ⟨#[]⟩,Value.string ⟨#[]⟩],Value.agg #[Value.string ⟨#[]⟩,Value.string ⟨#[]⟩,Value.string ⟨#[]⟩,Value.string ⟨#[]⟩,Value.string ⟨#[]⟩,Value.string ⟨#[]⟩,Value.string ⟨#[]⟩,Value.string ⟨#[]⟩,Value.string ⟨#[]⟩,Value.string ⟨#[]⟩,Value.string ⟨#[]⟩,Value.string ⟨#[]⟩,Value.string ⟨#[]⟩,Value.string ⟨#[]⟩,Value.string ⟨#[]⟩,Value.string ⟨#[]⟩,Value.string ⟨#[]⟩,Value.string ⟨#[]⟩,Value.string ⟨#[]⟩,Value.string ⟨#[]⟩,Value.string ⟨#[]⟩,Value.string ⟨#[]⟩,Value.string ⟨#[]⟩,Value.string ⟨#[]⟩,Value.string ⟨#[]⟩,Value.string ⟨#[]⟩],Value.int .i64 K,Value.agg #[Value.string ⟨#[]⟩,Value.string ⟨#[]⟩]]:Array Value).getD (s-5) undef) 5 18 (fun W=>Ext Wd W) (fun W=>∃ W0,Ext Wd W0∧Ext ((W0.setCell ⟨X7+1,0,none⟩ (.string ⟨#[]⟩)).setCell ⟨X7+1,1,none⟩ (.string ⟨#[]⟩)) W)) ?hend ?hz ?hstep _ _ _ _ (GrInv.start _ (Ext.refl _))
 case hz=>exact fun listed a w' h=>ready_nil (by have:=h.cnt;omega) h.size
 case hend =>
  intro f listed a w' h hr
  obtain ⟨ha,hj⟩:=h.fin (by decide) hr (by kernel_rfl)
  have ha2:a=({ tmps:=#[xv key day ins A n c,Value.int .i64 K,Value.pointer (some ⟨X7,0,none⟩),undef,Value.pointer (some ⟨X7+1,0,none⟩),Value.pointer (some ⟨X7,9,none⟩),Value.string ⟨#[]⟩,Value.agg #[Value.string ⟨#[]⟩,Value.string ⟨#[]⟩],Value.pointer (some ⟨X7,10,none⟩),Value.string ⟨#[]⟩,Value.agg #[Value.string ⟨#[]⟩,Value.string ⟨#[]⟩],Value.pointer (some ⟨X7,11,none⟩),Value.string ⟨#[]⟩,Value.agg #[Value.string ⟨#[]⟩,Value.string ⟨#[]⟩],Value.pointer (some ⟨X7,12,none⟩),Value.agg #[Value.string ⟨#[]⟩,Value.string ⟨#[]⟩],Value.pointer (some ⟨X7,14,none⟩),Value.agg #[Value.string ⟨#[]⟩,Value.string ⟨#[]⟩],Value.pointer (some ⟨X7,16,none⟩),Value.agg #[Value.string ⟨#[]⟩,Value.string ⟨#[]⟩],Value.agg #[Value.string ⟨#[]⟩,Value.string ⟨#[]⟩,Value.string ⟨#[]⟩,Value.string ⟨#[]⟩,Value.string ⟨#[]⟩,Value.string ⟨#[]⟩,Value.string ⟨#[]⟩,Value.string ⟨#[]⟩,Value.string ⟨#[]⟩,Value.string ⟨#[]⟩,Value.string ⟨#[]⟩,Value.string ⟨#[]⟩,Value.string ⟨#[]⟩,Value.string ⟨#[]⟩,Value.string ⟨#[]⟩,Value.string ⟨#[]⟩,Value.string ⟨#[]⟩,Value.string ⟨#[]⟩,Value.string ⟨#[]⟩,Value.string ⟨#[]⟩,Value.string ⟨#[]⟩,Value.string ⟨#[]⟩,Value.string ⟨#[]⟩,Value.string ⟨#[]⟩,Value.string ⟨#[]⟩,Value.string ⟨#[]⟩],Value.int .i64 K,Value.agg #[Value.string ⟨#[]⟩,Value.string ⟨#[]⟩]],defers:=[] }:Act):=ha.trans (by kernel_rfl)
  clear ha
  subst ha2
  obtain ⟨W0,hx,hx2⟩:=hj
  clear h hr
  go_wp2_with fail
  have HPD:=HP.out.ext hx
  have HXD:=HX.out.trans hx
  subst hX7
  refine bodyPost_ret (results_fr rfl _ _ (w.heap.size+1) (.string ⟨#[]⟩) (.string ⟨#[]⟩) rfl (((HPD.set_ 0 (.string ⟨#[]⟩)).set_ 1 (.string ⟨#[]⟩)).ext hx2)) rfl ?_
  exact ⟨rfl,(HXD.setCell (p:=⟨w.heap.size+1,0,none⟩) (by show w.heap.size≤w.heap.size+1;omega) _).setCell (p:=⟨w.heap.size+1,1,none⟩) (by show w.heap.size≤w.heap.size+1;omega) _ |>.trans hx2⟩
 case hstep =>
  intro f listed a w' i h hi
  have hW:i<18→Ext Wd w':=fun hi15=>h.before hi hi15 (by decide) (by
   intro L hcl h18
   have a17:L 17:=hcl 18 _ ⟨17,.data⟩ rfl h18 (by simp) rfl
   have a15:L 15:=hcl 17 _ ⟨15,.data⟩ rfl a17 (by simp) rfl
   have a16:L 16:=hcl 17 _ ⟨16,.data⟩ rfl a17 (by simp) rfl
   have a2:L 2:=hcl 15 _ ⟨2,.data⟩ rfl a15 (by simp) rfl
   have a5:L 5:=hcl 15 _ ⟨5,.data⟩ rfl a15 (by simp) rfl
   have a8:L 8:=hcl 15 _ ⟨8,.data⟩ rfl a15 (by simp) rfl
   have a10:L 10:=hcl 15 _ ⟨10,.data⟩ rfl a15 (by simp) rfl
   have a12:L 12:=hcl 15 _ ⟨12,.data⟩ rfl a15 (by simp) rfl
   have a14:L 14:=hcl 15 _ ⟨14,.data⟩ rfl a15 (by simp) rfl
   have a1:L 1:=hcl 2 _ ⟨1,.data⟩ rfl a2 (by simp) rfl
   have a0:L 0:=hcl 1 _ ⟨0,.data⟩ rfl a1 (by simp) rfl
   have a4:L 4:=hcl 5 _ ⟨4,.data⟩ rfl a5 (by simp) rfl
   have a3:L 3:=hcl 4 _ ⟨3,.data⟩ rfl a4 (by simp) rfl
   have a7:L 7:=hcl 8 _ ⟨7,.data⟩ rfl a8 (by simp) rfl
   have a6:L 6:=hcl 7 _ ⟨6,.data⟩ rfl a7 (by simp) rfl
   have a9:L 9:=hcl 10 _ ⟨9,.data⟩ rfl a10 (by simp) rfl
   have a11:L 11:=hcl 12 _ ⟨11,.data⟩ rfl a12 (by simp) rfl
   have a13:L 13:=hcl 14 _ ⟨13,.data⟩ rfl a14 (by simp) rfl
   intro i hi
   obtain rfl | rfl | rfl | rfl | rfl | rfl | rfl | rfl | rfl | rfl | rfl | rfl | rfl | rfl | rfl | rfl | rfl | rfl:i=0∨i=1∨i=2∨i=3∨i=4∨i=5∨i=6∨i=7∨i=8∨i=9∨i=10∨i=11∨i=12∨i=13∨i=14∨i=15∨i=16∨i=17:=by omega
   ·exact a0
   ·exact a1
   ·exact a2
   ·exact a3
   ·exact a4
   ·exact a5
   ·exact a6
   ·exact a7
   ·exact a8
   ·exact a9
   ·exact a10
   ·exact a11
   ·exact a12
   ·exact a13
   ·exact a14
   ·exact a15
   ·exact a16
   ·exact a17
   )
  have hlt:i<19:=ready_lt hi
  have hbz:∀ s,s<5→a.tmps.getD s undef=_:=fun s hs=>h.base' (s:=s) (by show s<23;omega) (.inl hs)
  obtain rfl | rfl | rfl | rfl | rfl | rfl | rfl | rfl | rfl | rfl | rfl | rfl | rfl | rfl | rfl | rfl | rfl | rfl | rfl:i=0∨i=1∨i=2∨i=3∨i=4∨i=5∨i=6∨i=7∨i=8∨i=9∨i=10∨i=11∨i=12∨i=13∨i=14∨i=15∨i=16∨i=17∨i=18:=by omega
  ·have hx:=hW (by omega)
   have e2:a.tmps.getD 2 undef=Value.pointer (some ⟨X7,0,none⟩):=hbz 2 (by omega)
   refine stepP_read rfl rfl _ ?_ (h.step hi rfl rfl _ (.inl ⟨by decide,id,id⟩))
   simp [execOp,eval_tmpM,e2,f9]
  ·have hx:=hW (by omega)
   have e5:a.tmps.getD 5 undef=Value.pointer (some ⟨X7,9,none⟩):=h.need hi rfl 0 (by show 0<19;decide) (by show 5<23;decide) rfl
   refine stepP_read rfl rfl _ ?_ (h.step hi rfl rfl _ (.inl ⟨by decide,id,id⟩))
   simp [execOp,eval_tmpM,e5,l9 _ hx]
  ·have hx:=hW (by omega)
   have e6:a.tmps.getD 6 undef=Value.string ⟨#[]⟩:=h.need hi rfl 1 (by show 1<19;decide) (by show 6<23;decide) rfl
   refine stepP_call rfl rfl (fn:=221) (args:=#[Value.string ⟨#[]⟩]) ?_ (fkWhole w') ?_
   ·simp [execOp,eval_tmpM,resolve,invoke,e6,Deferred.ofValue]
    rfl
   ·rintro e w2 ⟨rfl,hx2⟩
    exact ⟨_,rfl,h.step hi rfl rfl _ (.inl ⟨by decide,fun hh=>hh.trans hx2,fun ⟨W0,h1,h2⟩=>⟨W0,h1,h2.trans hx2⟩⟩)⟩
  ·have hx:=hW (by omega)
   have e2:a.tmps.getD 2 undef=Value.pointer (some ⟨X7,0,none⟩):=hbz 2 (by omega)
   refine stepP_read rfl rfl _ ?_ (h.step hi rfl rfl _ (.inl ⟨by decide,id,id⟩))
   simp [execOp,eval_tmpM,e2,f10]
  ·have hx:=hW (by omega)
   have e8:a.tmps.getD 8 undef=Value.pointer (some ⟨X7,10,none⟩):=h.need hi rfl 3 (by show 3<19;decide) (by show 8<23;decide) rfl
   refine stepP_read rfl rfl _ ?_ (h.step hi rfl rfl _ (.inl ⟨by decide,id,id⟩))
   simp [execOp,eval_tmpM,e8,l10 _ hx]
  ·have hx:=hW (by omega)
   have e9:a.tmps.getD 9 undef=Value.string ⟨#[]⟩:=h.need hi rfl 4 (by show 4<19;decide) (by show 9<23;decide) rfl
   refine stepP_call rfl rfl (fn:=221) (args:=#[Value.string ⟨#[]⟩]) ?_ (fkWhole w') ?_
   ·simp [execOp,eval_tmpM,resolve,invoke,e9,Deferred.ofValue]
    rfl
   ·rintro e w2 ⟨rfl,hx2⟩
    exact ⟨_,rfl,h.step hi rfl rfl _ (.inl ⟨by decide,fun hh=>hh.trans hx2,fun ⟨W0,h1,h2⟩=>⟨W0,h1,h2.trans hx2⟩⟩)⟩
  ·have hx:=hW (by omega)
   have e2:a.tmps.getD 2 undef=Value.pointer (some ⟨X7,0,none⟩):=hbz 2 (by omega)
   refine stepP_read rfl rfl _ ?_ (h.step hi rfl rfl _ (.inl ⟨by decide,id,id⟩))
   simp [execOp,eval_tmpM,e2,f11]
  ·have hx:=hW (by omega)
   have e11:a.tmps.getD 11 undef=Value.pointer (some ⟨X7,11,none⟩):=h.need hi rfl 6 (by show 6<19;decide) (by show 11<23;decide) rfl
   refine stepP_read rfl rfl _ ?_ (h.step hi rfl rfl _ (.inl ⟨by decide,id,id⟩))
   simp [execOp,eval_tmpM,e11,l11 _ hx]
  ·have hx:=hW (by omega)
   have e12:a.tmps.getD 12 undef=Value.string ⟨#[]⟩:=h.need hi rfl 7 (by show 7<19;decide) (by show 12<23;decide) rfl
   refine stepP_call rfl rfl (fn:=221) (args:=#[Value.string ⟨#[]⟩]) ?_ (fkWhole w') ?_
   ·simp [execOp,eval_tmpM,resolve,invoke,e12,Deferred.ofValue]
    rfl
   ·rintro e w2 ⟨rfl,hx2⟩
    exact ⟨_,rfl,h.step hi rfl rfl _ (.inl ⟨by decide,fun hh=>hh.trans hx2,fun ⟨W0,h1,h2⟩=>⟨W0,h1,h2.trans hx2⟩⟩)⟩
  ·have hx:=hW (by omega)
   have e2:a.tmps.getD 2 undef=Value.pointer (some ⟨X7,0,none⟩):=hbz 2 (by omega)
   refine stepP_read rfl rfl _ ?_ (h.step hi rfl rfl _ (.inl ⟨by decide,id,id⟩))
   simp [execOp,eval_tmpM,e2,f12]
  ·have hx:=hW (by omega)
   have e14:a.tmps.getD 14 undef=Value.pointer (some ⟨X7,12,none⟩):=h.need hi rfl 9 (by show 9<19;decide) (by show 14<23;decide) rfl
   refine stepP_read rfl rfl _ ?_ (h.step hi rfl rfl _ (.inl ⟨by decide,id,id⟩))
   simp [execOp,eval_tmpM,e14,l12 _ hx]
  ·have hx:=hW (by omega)
   have e2:a.tmps.getD 2 undef=Value.pointer (some ⟨X7,0,none⟩):=hbz 2 (by omega)
   refine stepP_read rfl rfl _ ?_ (h.step hi rfl rfl _ (.inl ⟨by decide,id,id⟩))
   simp [execOp,eval_tmpM,e2,f13]
  ·have hx:=hW (by omega)
   have e16:a.tmps.getD 16 undef=Value.pointer (some ⟨X7,14,none⟩):=h.need hi rfl 11 (by show 11<19;decide) (by show 16<23;decide) rfl
   refine stepP_read rfl rfl _ ?_ (h.step hi rfl rfl _ (.inl ⟨by decide,id,id⟩))
   simp [execOp,eval_tmpM,e16,l14 _ hx]
  ·have hx:=hW (by omega)
   have e2:a.tmps.getD 2 undef=Value.pointer (some ⟨X7,0,none⟩):=hbz 2 (by omega)
   refine stepP_read rfl rfl _ ?_ (h.step hi rfl rfl _ (.inl ⟨by decide,id,id⟩))
   simp [execOp,eval_tmpM,e2,f14]
  ·have hx:=hW (by omega)
   have e18:a.tmps.getD 18 undef=Value.pointer (some ⟨X7,16,none⟩):=h.need hi rfl 13 (by show 13<19;decide) (by show 18<23;decide) rfl
   refine stepP_read rfl rfl _ ?_ (h.step hi rfl rfl _ (.inl ⟨by decide,id,id⟩))
   simp [execOp,eval_tmpM,e18,l16 _ hx]
  ·have hx:=hW (by omega)
   have e7:a.tmps.getD 7 undef=Value.agg #[Value.string ⟨#[]⟩,Value.string ⟨#[]⟩]:=h.need hi rfl 2 (by show 2<19;decide) (by show 7<23;decide) rfl
   have e10:a.tmps.getD 10 undef=Value.agg #[Value.string ⟨#[]⟩,Value.string ⟨#[]⟩]:=h.need hi rfl 5 (by show 5<19;decide) (by show 10<23;decide) rfl
   have e13:a.tmps.getD 13 undef=Value.agg #[Value.string ⟨#[]⟩,Value.string ⟨#[]⟩]:=h.need hi rfl 8 (by show 8<19;decide) (by show 13<23;decide) rfl
   have e15:a.tmps.getD 15 undef=Value.agg #[Value.string ⟨#[]⟩,Value.string ⟨#[]⟩]:=h.need hi rfl 10 (by show 10<19;decide) (by show 15<23;decide) rfl
   have e17:a.tmps.getD 17 undef=Value.agg #[Value.string ⟨#[]⟩,Value.string ⟨#[]⟩]:=h.need hi rfl 12 (by show 12<19;decide) (by show 17<23;decide) rfl
   have e19:a.tmps.getD 19 undef=Value.agg #[Value.string ⟨#[]⟩,Value.string ⟨#[]⟩]:=h.need hi rfl 14 (by show 14<19;decide) (by show 19<23;decide) rfl
   refine stepP_read rfl rfl _ ?_ (h.step hi rfl rfl _ (.inl ⟨by decide,id,id⟩))
   simp [execOp,eval_tmpM,e7,e10,e13,e15,e17,e19,ix26]
  ·have hx:=hW (by omega)
   have e1:a.tmps.getD 1 undef=Value.int .i64 K:=hbz 1 (by omega)
   refine stepP_read rfl rfl _ ?_ (h.step hi rfl rfl _ (.inl ⟨by decide,id,id⟩))
   simp [execOp,eval_tmpM,e1]
  ·have hx:=hW (by omega)
   have e20:a.tmps.getD 20 undef=Value.agg #[Value.string ⟨#[]⟩,Value.string ⟨#[]⟩,Value.string ⟨#[]⟩,Value.string ⟨#[]⟩,Value.string ⟨#[]⟩,Value.string ⟨#[]⟩,Value.string ⟨#[]⟩,Value.string ⟨#[]⟩,Value.string ⟨#[]⟩,Value.string ⟨#[]⟩,Value.string ⟨#[]⟩,Value.string ⟨#[]⟩,Value.string ⟨#[]⟩,Value.string ⟨#[]⟩,Value.string ⟨#[]⟩,Value.string ⟨#[]⟩,Value.string ⟨#[]⟩,Value.string ⟨#[]⟩,Value.string ⟨#[]⟩,Value.string ⟨#[]⟩,Value.string ⟨#[]⟩,Value.string ⟨#[]⟩,Value.string ⟨#[]⟩,Value.string ⟨#[]⟩,Value.string ⟨#[]⟩,Value.string ⟨#[]⟩]:=h.need hi rfl 15 (by show 15<19;decide) (by show 20<23;decide) rfl
   have e21:a.tmps.getD 21 undef=Value.int .i64 K:=h.need hi rfl 16 (by show 16<19;decide) (by show 21<23;decide) rfl
   refine stepP_read rfl rfl _ ?_ (h.step hi rfl rfl _ (.inl ⟨by decide,id,id⟩))
   simp [execOp,eval_tmpM,e20,e21,HIX.out w']
  ·have hx:=h.at_last hi
   have e4:a.tmps.getD 4 undef=Value.pointer (some ⟨X7+1,0,none⟩):=hbz 4 (by omega)
   have e22:a.tmps.getD 22 undef=Value.agg #[Value.string ⟨#[]⟩,Value.string ⟨#[]⟩]:=h.need hi rfl 17 (by show 17<19;decide) (by show 22<23;decide) rfl
   refine stepP_skip rfl rfl ?_ (h.stepN hi rfl rfl (by show 23≤5+18;decide) _ _ (.inr ⟨rfl,_,hx,Ext.refl _⟩))
   simp [execOp,eval_tmpM,e4,e22,st _ hx]
theorem fkEmpty4 (w:World):Calls Tryz.prog 91 #[xv key day ins A n c,.int .i64 4] w fun e w'=>e = .returned (.bool true)∧Ext w w':=by
 have HB:=Lib.hid (Blk.new w 30 (xc key day ins A n c))
 have HX:Hid (Ext w (w.alloc (.cells (xc key day ins A n c) 30))):=Lib.hid (Ext.new _ _)
 have HV:=Lib.hid (fkValue key day ins A n c 4 fkIx4 (w.alloc (.cells (xc key day ins A n c) 30)))
 have hs1:(Tryz.prog.info? 30).map (·.size)=some (xc key day ins A n c).toList.length:=by kernel_rfl
 have hrg:=fact_range HB.out
 go_enter Tryz.func91,Tryz.ntmps91
 go_wp2_with (first | refine wpList_load_mid rfl 30 _ rfl w.heap.size 0 rfl _ _ hrg Tryz.underlying30 rfl hs1 ?_ | fail)
 refine HV.out.mono ?_
 rintro e v1 ⟨rfl,hx1⟩
 replace HX:=Lib.hid (HX.out.trans hx1)
 clear hx1
 go_wp2_with fail
 go_ret
 exact ⟨rfl,HX.out⟩
theorem fkEmpty5 (w:World):Calls Tryz.prog 91 #[xv key day ins A n c,.int .i64 5] w fun e w'=>e = .returned (.bool true)∧Ext w w':=by
 have HB:=Lib.hid (Blk.new w 30 (xc key day ins A n c))
 have HX:Hid (Ext w (w.alloc (.cells (xc key day ins A n c) 30))):=Lib.hid (Ext.new _ _)
 have HV:=Lib.hid (fkValue key day ins A n c 5 fkIx5 (w.alloc (.cells (xc key day ins A n c) 30)))
 have hs1:(Tryz.prog.info? 30).map (·.size)=some (xc key day ins A n c).toList.length:=by kernel_rfl
 have hrg:=fact_range HB.out
 go_enter Tryz.func91,Tryz.ntmps91
 go_wp2_with (first | refine wpList_load_mid rfl 30 _ rfl w.heap.size 0 rfl _ _ hrg Tryz.underlying30 rfl hs1 ?_ | fail)
 refine HV.out.mono ?_
 rintro e v1 ⟨rfl,hx1⟩
 replace HX:=Lib.hid (HX.out.trans hx1)
 clear hx1
 go_wp2_with fail
 go_ret
 exact ⟨rfl,HX.out⟩
theorem fkEmpty6 (w:World):Calls Tryz.prog 91 #[xv key day ins A n c,.int .i64 6] w fun e w'=>e = .returned (.bool true)∧Ext w w':=by
 have HB:=Lib.hid (Blk.new w 30 (xc key day ins A n c))
 have HX:Hid (Ext w (w.alloc (.cells (xc key day ins A n c) 30))):=Lib.hid (Ext.new _ _)
 have HV:=Lib.hid (fkValue key day ins A n c 6 fkIx6 (w.alloc (.cells (xc key day ins A n c) 30)))
 have hs1:(Tryz.prog.info? 30).map (·.size)=some (xc key day ins A n c).toList.length:=by kernel_rfl
 have hrg:=fact_range HB.out
 go_enter Tryz.func91,Tryz.ntmps91
 go_wp2_with (first | refine wpList_load_mid rfl 30 _ rfl w.heap.size 0 rfl _ _ hrg Tryz.underlying30 rfl hs1 ?_ | fail)
 refine HV.out.mono ?_
 rintro e v1 ⟨rfl,hx1⟩
 replace HX:=Lib.hid (HX.out.trans hx1)
 clear hx1
 go_wp2_with fail
 go_ret
 exact ⟨rfl,HX.out⟩
theorem fkEmpty7 (w:World):Calls Tryz.prog 91 #[xv key day ins A n c,.int .i64 7] w fun e w'=>e = .returned (.bool true)∧Ext w w':=by
 have HB:=Lib.hid (Blk.new w 30 (xc key day ins A n c))
 have HX:Hid (Ext w (w.alloc (.cells (xc key day ins A n c) 30))):=Lib.hid (Ext.new _ _)
 have HV:=Lib.hid (fkValue key day ins A n c 7 fkIx7 (w.alloc (.cells (xc key day ins A n c) 30)))
 have hs1:(Tryz.prog.info? 30).map (·.size)=some (xc key day ins A n c).toList.length:=by kernel_rfl
 have hrg:=fact_range HB.out
 go_enter Tryz.func91,Tryz.ntmps91
 go_wp2_with (first | refine wpList_load_mid rfl 30 _ rfl w.heap.size 0 rfl _ _ hrg Tryz.underlying30 rfl hs1 ?_ | fail)
 refine HV.out.mono ?_
 rintro e v1 ⟨rfl,hx1⟩
 replace HX:=Lib.hid (HX.out.trans hx1)
 clear hx1
 go_wp2_with fail
 go_ret
 exact ⟨rfl,HX.out⟩
theorem fkEmpty8 (w:World):Calls Tryz.prog 91 #[xv key day ins A n c,.int .i64 8] w fun e w'=>e = .returned (.bool true)∧Ext w w':=by
 have HB:=Lib.hid (Blk.new w 30 (xc key day ins A n c))
 have HX:Hid (Ext w (w.alloc (.cells (xc key day ins A n c) 30))):=Lib.hid (Ext.new _ _)
 have HV:=Lib.hid (fkValue key day ins A n c 8 fkIx8 (w.alloc (.cells (xc key day ins A n c) 30)))
 have hs1:(Tryz.prog.info? 30).map (·.size)=some (xc key day ins A n c).toList.length:=by kernel_rfl
 have hrg:=fact_range HB.out
 go_enter Tryz.func91,Tryz.ntmps91
 go_wp2_with (first | refine wpList_load_mid rfl 30 _ rfl w.heap.size 0 rfl _ _ hrg Tryz.underlying30 rfl hs1 ?_ | fail)
 refine HV.out.mono ?_
 rintro e v1 ⟨rfl,hx1⟩
 replace HX:=Lib.hid (HX.out.trans hx1)
 clear hx1
 go_wp2_with fail
 go_ret
 exact ⟨rfl,HX.out⟩
theorem fkEmpty9 (w:World):Calls Tryz.prog 91 #[xv key day ins A n c,.int .i64 9] w fun e w'=>e = .returned (.bool true)∧Ext w w':=by
 have HB:=Lib.hid (Blk.new w 30 (xc key day ins A n c))
 have HX:Hid (Ext w (w.alloc (.cells (xc key day ins A n c) 30))):=Lib.hid (Ext.new _ _)
 have HV:=Lib.hid (fkValue key day ins A n c 9 fkIx9 (w.alloc (.cells (xc key day ins A n c) 30)))
 have hs1:(Tryz.prog.info? 30).map (·.size)=some (xc key day ins A n c).toList.length:=by kernel_rfl
 have hrg:=fact_range HB.out
 go_enter Tryz.func91,Tryz.ntmps91
 go_wp2_with (first | refine wpList_load_mid rfl 30 _ rfl w.heap.size 0 rfl _ _ hrg Tryz.underlying30 rfl hs1 ?_ | fail)
 refine HV.out.mono ?_
 rintro e v1 ⟨rfl,hx1⟩
 replace HX:=Lib.hid (HX.out.trans hx1)
 clear hx1
 go_wp2_with fail
 go_ret
 exact ⟨rfl,HX.out⟩
end
end
end Go.Proofs.YthgpheopnhajaaaGreatDoor
