/- The seat's texts, part U24. -/
import Derived.Test.YthgpheopnhajaaaGreatDoorU20
import Derived.Test.YthgpheopnhajaaaGreatDoorU23
import Derived.Deep.MidRow
import Derived.Orders
set_option maxRecDepth 100000
set_option maxHeartbeats 8000000
namespace Go.Proofs.YthgpheopnhajaaaGreatDoor
section
open Go.RowKit
attribute [local go_sem] size_bs toList_bs
theorem kcl_one (word:Bs) (cl:Int) (bits:List Bool) (num:Value) (code:Bool) (hn:num.oneCell'=true):(kcl word cl bits num code).toArray.all (·.oneCell')=true:=by
 unfold kcl
 simp [Value.oneCell']
 exact hn
theorem kcl_len (word:Bs) (cl:Int) (bits:List Bool) (num:Value) (code:Bool) (h:bits.length=13):(kcl word cl bits num code).length=17:=by
 unfold kcl;simp [h]
theorem kind_range {w:World} {g:Nat} {xs:List Value} (h:Blk w g 144 xs.toArray):w.rangeAt g 0 xs:=fun j v hv=>by rw [Nat.zero_add,h.cell j,List.getElem?_toArray];exact hv
theorem kind_there {w:World} {g n:Nat} {xs:List Value} (h:Blk w g 144 xs.toArray) (hx:n=xs.length):w.there g 0 n:=fun j hj=>by
 have hj2:j<xs.length:=by omega
 rw [Nat.zero_add,h.cell j,h.frozen j,List.getElem?_toArray,List.getElem?_eq_getElem hj2]
 exact ⟨rfl,rfl⟩
theorem kindsNil (word:Bs) (cl:Int) (ms:List Nat) (A:Option Addr) (c:Nat) (w:World) (hM:RdI w A ms) (hb:∀ x ∈ ms,x<13) (hn:ms.length≤1000) :
  Calls Tryz.prog 151 #[.string (bs word),.int .i64 cl,.map none,.slice A ms.length c] w fun e w'=>e = .returned (kv word cl (setAll ms no13) (.map none) false)∧Ext w w':=by
 have HM:=Lib.hid hM
 have HB:=Lib.hid hb
 obtain ⟨bits,hbits⟩:∃ b,b=no13:=⟨_,rfl⟩
 have HL:Hid (bits.length=13):=Lib.hid (by rw [hbits];rfl)
 have G8:=Lib.hid ((Blk.new w 144 (kcl [] 0 no13 (.map none) false).toArray).alloc (.cells (kcl word cl bits (.map none) false).toArray 144))
 have G9:=Lib.hid (Blk.newAt (w.alloc (.cells (kcl [] 0 no13 (.map none) false).toArray 144)) 144 (kcl word cl bits (.map none) false).toArray (w.heap.size+1) (by simp))
 have HX:Hid (Ext w ((w.alloc (.cells (kcl [] 0 no13 (.map none) false).toArray 144)).alloc (.cells (kcl word cl bits (.map none) false).toArray 144))):=Lib.hid ((Ext.new _ _).alloc _)
 have hrg:∀ wx:World,(Instr.range 142 (.map none)).run Tryz.prog wx=_:=fun wx=>run_range_nilMap wx 142 3 204 Tryz.underlying142
 have hnx:∀ (wx:World) ty,(Instr.next (.pointer (some ⟨wx.heap.size,0,none⟩)) false ty).run Tryz.prog (wx.alloc (.mapIter none 0 #[] 0))=_:=fun wx ty=>run_next_nilMap wx ty 0 0 #[]
 rw [hbits] at G8 G9 HX
 clear hM hb
 go_enter Tryz.func151,Tryz.ntmps151
 go_upto_region 2 with fail
 dsimp only [kcl,no13,List.map_cons,List.map_nil,List.cons_append,List.nil_append] at G8 G9 HX
 generalize hW2:(w.alloc (.cells #[Value.string { data:=#[] },Value.int IntKind.i64 0,Value.bool false,Value.bool false,Value.bool false,Value.bool false,Value.bool false,Value.bool false,Value.bool false,Value.bool false,Value.bool false,Value.bool false,Value.bool false,Value.bool false,Value.bool false,Value.map none,Value.bool false] 144)).alloc
      (Obj.cells #[Value.string (bs word),Value.int IntKind.i64 cl,Value.bool false,Value.bool false,Value.bool false,Value.bool false,Value.bool false,Value.bool false,Value.bool false,Value.bool false,Value.bool false,Value.bool false,Value.bool false,Value.bool false,Value.bool false,Value.map none,Value.bool false] 144)=W2
 replace HX:Hid (Ext w W2):=by rw [← hW2];exact HX
 replace G8:Hid (Blk W2 w.heap.size 144 (kcl [] 0 no13 (.map none) false).toArray):=by rw [← hW2];exact G8
 replace G9:Hid (Blk W2 (w.heap.size+1) 144 (kcl word cl bits (.map none) false).toArray):=by rw [← hW2,hbits];exact G9
 have hrg2:=hrg W2
 have hnx2:=hnx W2
 clear hW2 hrg hnx
 go_wp2_with fail
 refine wp_loop_rounds 1 ?_
 rw [rounds_succ]
 go_wp2_with fail
 replace HX:=Lib.hid (HX.out.alloc (.mapIter none 0 #[] 0))
 replace G8:=Lib.hid (G8.out.alloc (.mapIter none 0 #[] 0))
 replace G9:=Lib.hid (G9.out.alloc (.mapIter none 0 #[] 0))
 clear hrg2 hnx2
 go_loopw [28,12] (fun i _ wr=>∃ k:Nat,k≤ms.length∧i = .int .i64 k∧Ext w wr∧Blk wr w.heap.size 144 (kcl [] 0 no13 (.map none) false).toArray∧Blk wr (w.heap.size+1) 144 (kcl word cl (setAll (ms.take k) bits) (.map none) false).toArray) (fun i _ _=>ms.length-(intOf i).toNat)
 case atStart=>exact ⟨0,by omega,rfl,HX.out,G8.out,G9.out⟩
 case round =>
  clear HX G8 G9
  obtain ⟨k,hk,rfl,hx,h8,h9⟩:=hrel
  have HX:=Lib.hid hx
  have G8:=Lib.hid h8
  have G9:=Lib.hid h9
  clear hx h8 h9
  by_cases hlt:k<ms.length
  ·obtain ⟨b,o,rfl,hb,c0⟩:=(HM.out.ext HX.out).at_ hlt
   have hx13:=HB.out _ (List.getElem_mem hlt)
   have hlen:(setAll (ms.take k) bits).length=13:=by rw [setAll_len];exact HL.out
   have hs:setAll (ms.take (k+1)) bits=(setAll (ms.take k) bits).set (ms[k]'hlt) true:=setAll_succ hlt bits
   have N9:=G9.out.set_ (2+ms[k]'hlt) (.bool true)
   rw [kcl_set _ _ _ _ _ _ _ (by omega),← hs] at N9
   have q0:=G9.out.cell (2+ms[k]'hlt)
   rw [kcl_at _ _ _ _ _ _ (by omega)] at q0
   have f:=fun k=>G9.out.frozen k
   obtain ⟨bb,q⟩:∃ bb,wr.cell? ⟨w.heap.size+1,2+ms[k]'hlt,none⟩=some (.bool bb):=⟨_,q0⟩
   clear q0
   have N9h:=Lib.hid N9
   clear N9 hs
   generalize ms[k]'hlt=x at *
   have hki:(k:Int)<(ms.length:Int):=by omega
   have hx1:(x:Int)<13:=by omega
   have N8:=Lib.hid (G8.out.far (p:=⟨w.heap.size+1,2+x,none⟩) (by simp) (.bool true))
   have NX:=Lib.hid (HX.out.setCell (p:=⟨w.heap.size+1,2+x,none⟩) (by simp) (.bool true))
   clear hlen
   go_wp2_with fail
   exact ⟨⟨k+1,by omega,by go_num,NX.out,N8.out,N9h.out⟩,by simp [intOf];omega⟩
  ·obtain rfl:k=ms.length:=by omega
   have hlen:(setAll (ms.take ms.length) bits).length=13:=by rw [setAll_len];exact HL.out
   rw [List.take_length] at G9 hlen
   have hrg:=kind_range G9.out
   have hth:wr.there w.heap.size 0 (kcl word cl (setAll ms bits) (.map none) false).toArray.size:=kind_there G8.out (by rw [List.size_toArray,kcl_len _ _ _ _ _ hlen];rfl)
   have hs1:(Tryz.prog.info? 144).map (·.size)=some (kcl word cl (setAll ms bits) (.map none) false).length:=by rw [kcl_len _ _ _ _ _ hlen];kernel_rfl
   have hs2:(Tryz.prog.info? 144).map (·.size)=some (kcl word cl (setAll ms bits) (.map none) false).toArray.size:=hs1
   have hoc:=kcl_one word cl (setAll ms bits) (.map none) false rfl
   have O8:=Lib.hid (kind_over G8.out (ys:=kcl word cl (setAll ms bits) (.map none) false) (by unfold kcl;simp [hlen,no13]))
   have HS:=Lib.hid (ext_sets (kcl word cl (setAll ms bits) (.map none) false) 0 wr () HX.out (Nat.le_refl _))
   have HR:=Lib.hid hlen
   clear hlen hk hlt HB HM G8 G9
   go_wp2_with (first | refine wpList_load_mid rfl 144 _ rfl (w.heap.size+1) 0 rfl _ _ hrg Tryz.underlying144 rfl hs1 ?_ | refine wpList_store_mid rfl 144 _ _ rfl w.heap.size 0 _ rfl rfl hth hs2 hoc ?_ | fail)
   refine bodyPost_ret (results_kind rfl _ _ w.heap.size HR.out rfl O8.out) rfl ?_
   exact ⟨by rw [hbits],HS.out⟩
end
section
open Go.RowKit
open Go.Maps (Keyed)
attribute [local go_sem] size_bs toList_bs
theorem wpList_next_k {P:Program} (w:World) {ops:Array Oper} {rest:List Oper} {o:Oper} {a:Act} {Q:Exit→Act→World→Prop}
  (hg:o.guard=none) (it:Operand) (hop:o.op=Op.next it false) (k:TypeId) (K:Keyed P k) (hk:P.underlying k=some (.int .i64))
  (b r n:Nat) (D:DataW Value) (left:Lit→Bool) (cnt:Nat) (hit:a.eval it = .pointer (some ⟨r,0,none⟩)) (h:w.ranges P k RK b r n D left cnt)
  (hDone:wpList P ops Q rest (a.put o.dst (.tuple #[.bool false])) w)
  (hMore:∀ (x:Int) (c:Value) (w':World) (cnt':Nat),left (.int .i64 x)=true→w'.ranges P k RK b r n D (fun z=>left z && !z.sameKey (.int .i64 x)) cnt'→cnt'<cnt →
   w.grownBy w' (some r)→(Instr.entry (.pointer (some ⟨r,0,none⟩))).run P w' = .ok (.tuple #[.int .i64 x,c]) w'→wpList P ops Q rest (a.put o.dst (.tuple #[.bool true,.int .i64 x,c])) w') :
  wpList P ops Q (o :: rest) a w :=
 wpList_next_ranges w hg it hop k K RK (Value.int .i64) (fun v=>v) (fun key kl hkey=>by obtain ⟨x,rfl,_⟩:=Maps.keyOf_int_inv hk hkey;exact ⟨x,rfl⟩) (fun v y hv=>⟨v,rfl⟩)
  b r n D left cnt hit h (fun _ _=>hDone) (fun x c kl y w' cnt' hkey hlk hv hat hrg hlt hgr hsz hen=>by
    obtain ⟨x',ex,rfl,hwx⟩:=Maps.keyOf_int_inv hk hkey
    cases ex
    exact hMore x c w' cnt' hlk hrg hlt hgr hen)
theorem kindsMap (word:Bs) (cl:Int) (bm n:Nat) (D:DataW Value) (ms:List Nat) (A:Option Addr) (c:Nat) (w:World) (hD:MapAt w bm n D) (hk:∀ x:Int,Maps.has D (.int .i64 x)=true→0≤x∧x<13) (hM:RdI w A ms) (hb:∀ x ∈ ms,x<13) (hn:ms.length≤1000) :
  Calls Tryz.prog 151 #[.string (bs word),.int .i64 cl,.map (some bm),.slice A ms.length c] w fun e w'=>∃ bits,bits.length=13∧e = .returned (kv word cl bits (.map (some bm)) false)∧Ext w w':=by
 have HM:=Lib.hid hM
 have HB:=Lib.hid hb
 have HK:=Lib.hid hk
 have HBM:=Lib.hid hD.lt
 have G8:=Lib.hid ((Blk.new w 144 (kcl [] 0 no13 (.map none) false).toArray).alloc (.cells (kcl word cl no13 (.map (some bm)) false).toArray 144))
 have G9:=Lib.hid (Blk.newAt (w.alloc (.cells (kcl [] 0 no13 (.map none) false).toArray 144)) 144 (kcl word cl no13 (.map (some bm)) false).toArray (w.heap.size+1) (by simp))
 have HX:Hid (Ext w ((w.alloc (.cells (kcl [] 0 no13 (.map none) false).toArray 144)).alloc (.cells (kcl word cl no13 (.map (some bm)) false).toArray 144))):=Lib.hid ((Ext.new _ _).alloc _)
 have HD:=Lib.hid (hD.ext HX.out)
 clear hM hb hk hD
 go_enter Tryz.func151,Tryz.ntmps151
 go_upto_region 2 with fail
 dsimp only [kcl,no13,List.map_cons,List.map_nil,List.cons_append,List.nil_append] at G8 G9 HX HD
 generalize hW2:(w.alloc (.cells #[Value.string { data:=#[] },Value.int IntKind.i64 0,Value.bool false,Value.bool false,Value.bool false,Value.bool false,Value.bool false,Value.bool false,Value.bool false,Value.bool false,Value.bool false,Value.bool false,Value.bool false,Value.bool false,Value.bool false,Value.map none,Value.bool false] 144)).alloc
      (Obj.cells #[Value.string (bs word),Value.int IntKind.i64 cl,Value.bool false,Value.bool false,Value.bool false,Value.bool false,Value.bool false,Value.bool false,Value.bool false,Value.bool false,Value.bool false,Value.bool false,Value.bool false,Value.bool false,Value.bool false,Value.map (some bm),Value.bool false] 144)=W2
 replace HX:Hid (Ext w W2):=by rw [← hW2];exact HX
 replace HD:Hid (MapAt W2 bm n D):=by rw [← hW2];exact HD
 replace G8:Hid (Blk W2 w.heap.size 144 (kcl [] 0 no13 (.map none) false).toArray):=by rw [← hW2];exact G8
 replace G9:Hid (Blk W2 (w.heap.size+1) 144 (kcl word cl no13 (.map (some bm)) false).toArray):=by rw [← hW2];exact G9
 clear hW2
 have hD2:=HD.out
 go_wp2_with (first | (at_range;refine wpList_range_own _ rfl _ 142 rfl 3 204 keyInt Tryz.underlying142 RK bm n D rfl hD2 ?_;intro w0 hrg0 hg0 hs0) | fail)
 replace HX:=Lib.hid (HX.out.trans ⟨hg0.os,hg0.tape,hg0.output,hg0.size,fun i hi=>hg0.block i hi (by simp)⟩)
 have hlt2:=G9.out.lt
 have hb2:=HD.out.lt
 replace G8:Hid (Blk w0 w.heap.size _ _):=Lib.hid ((hg0.block _ G8.out.lt (by simp)).trans G8.out)
 replace G9:Hid (Blk w0 (w.heap.size+1) _ _):=Lib.hid ((hg0.block _ G9.out.lt (by simp)).trans G9.out)
 have HR0:=Lib.hid hrg0
 clear hD2 hrg0 hg0 hs0 HD
 generalize W2.heap.size=R at *
 go_frame
 go_loopw [19,10] (fun _ _ wr=>∃ left cnt bits,wr.ranges Tryz.prog 3 RK bm R n D left cnt∧bits.length=13∧(∀ kl,left kl=true→Maps.has D kl=true)∧Blk wr w.heap.size 144 (kcl [] 0 no13 (.map none) false).toArray∧Blk wr (w.heap.size+1) 144 (kcl word cl bits (.map (some bm)) false).toArray∧Ext w wr) (fun _ _ wr=>wr.rangeLeft bm R)
 case atStart=>exact ⟨_,_,no13,HR0.out,rfl,fun _ h=>h,G8.out,G9.out,HX.out⟩
 case round =>
  clear HX G8 G9 HR0
  obtain ⟨left,cnt,bits,hrg,hbl,hlh,h8,h9,hx⟩:=hrel
  have HX:=Lib.hid hx
  have G8:=Lib.hid h8
  have G9:=Lib.hid h9
  have HL:=Lib.hid hbl
  have HH:=Lib.hid hlh
  clear hx h8 h9 hbl hlh
  go_wp2_with (first | (at_next;refine wpList_next_k _ rfl _ rfl 3 keyInt Tryz.underlying3 bm R n D left cnt rfl hrg ?_ ?_) | fail)
  ·clear hrg HH HK
   go_loopw [28,12] (fun i _ wr=>∃ k:Nat,k≤ms.length∧i = .int .i64 k∧Ext w wr∧Blk wr w.heap.size 144 (kcl [] 0 no13 (.map none) false).toArray∧Blk wr (w.heap.size+1) 144 (kcl word cl (setAll (ms.take k) bits) (.map (some bm)) false).toArray) (fun i _ _=>ms.length-(intOf i).toNat)
   case atStart=>exact ⟨0,by omega,rfl,HX.out,G8.out,G9.out⟩
   case round =>
    clear HX G8 G9
    obtain ⟨k,hk,rfl,hx,h8,h9⟩:=hrel
    have HX:=Lib.hid hx
    have G8:=Lib.hid h8
    have G9:=Lib.hid h9
    clear hx h8 h9
    by_cases hlt:k<ms.length
    ·obtain ⟨b,o,rfl,hb,c0⟩:=(HM.out.ext HX.out).at_ hlt
     have hx13:=HB.out _ (List.getElem_mem hlt)
     have hlen:(setAll (ms.take k) bits).length=13:=by rw [setAll_len];exact HL.out
     have hs:setAll (ms.take (k+1)) bits=(setAll (ms.take k) bits).set (ms[k]'hlt) true:=setAll_succ hlt bits
     have N9:=G9.out.set_ (2+ms[k]'hlt) (.bool true)
     rw [kcl_set _ _ _ _ _ _ _ (by omega),← hs] at N9
     have q0:=G9.out.cell (2+ms[k]'hlt)
     rw [kcl_at _ _ _ _ _ _ (by omega)] at q0
     have f:=fun k=>G9.out.frozen k
     obtain ⟨bb,q⟩:∃ bb,wr.cell? ⟨w.heap.size+1,2+ms[k]'hlt,none⟩=some (.bool bb):=⟨_,q0⟩
     clear q0
     have N9h:=Lib.hid N9
     clear N9 hs
     generalize ms[k]'hlt=x at *
     have hki:(k:Int)<(ms.length:Int):=by omega
     have hx1:(x:Int)<13:=by omega
     have N8:=Lib.hid (G8.out.far (p:=⟨w.heap.size+1,2+x,none⟩) (by simp) (.bool true))
     have NX:=Lib.hid (HX.out.setCell (p:=⟨w.heap.size+1,2+x,none⟩) (by simp) (.bool true))
     clear hlen
     go_wp2_with fail
     exact ⟨⟨k+1,by omega,by go_num,NX.out,N8.out,N9h.out⟩,by simp [intOf];omega⟩
    ·obtain rfl:k=ms.length:=by omega
     have hlen:(setAll (ms.take ms.length) bits).length=13:=by rw [setAll_len];exact HL.out
     rw [List.take_length] at G9 hlen
     have hrg:=kind_range G9.out
     have hth:wr.there w.heap.size 0 (kcl word cl (setAll ms bits) (.map (some bm)) false).toArray.size:=kind_there G8.out (by rw [List.size_toArray,kcl_len _ _ _ _ _ hlen];rfl)
     have hs1:(Tryz.prog.info? 144).map (·.size)=some (kcl word cl (setAll ms bits) (.map (some bm)) false).length:=by rw [kcl_len _ _ _ _ _ hlen];kernel_rfl
     have hs2:(Tryz.prog.info? 144).map (·.size)=some (kcl word cl (setAll ms bits) (.map (some bm)) false).toArray.size:=hs1
     have hoc:=kcl_one word cl (setAll ms bits) (.map (some bm)) false rfl
     have O8:=Lib.hid (kind_over G8.out (ys:=kcl word cl (setAll ms bits) (.map (some bm)) false) (by unfold kcl;simp [hlen,no13]))
     have HS:=Lib.hid (ext_sets (kcl word cl (setAll ms bits) (.map (some bm)) false) 0 wr () HX.out (Nat.le_refl _))
     have HR:=Lib.hid hlen
     clear hlen hk hlt HB HM G8 G9
     go_wp2_with (first | refine wpList_load_mid rfl 144 _ rfl (w.heap.size+1) 0 rfl _ _ hrg Tryz.underlying144 rfl hs1 ?_ | refine wpList_store_mid rfl 144 _ _ rfl w.heap.size 0 _ rfl rfl hth hs2 hoc ?_ | fail)
     refine bodyPost_ret (results_kind rfl _ _ w.heap.size HR.out rfl O8.out) rfl ?_
     exact ⟨_,HR.out,rfl,HS.out⟩
  ·intro x cv w1 cnt1 hlk hrg1 hlt1 hg1 hen
   obtain ⟨hx0,hx1⟩:=HK.out x (HH.out _ hlk)
   obtain ⟨j,rfl⟩:∃ j:Nat,x=j:=⟨x.toNat,by omega⟩
   have hn9:w.heap.size+1≠R:=by omega
   have hn8:w.heap.size≠R:=by omega
   have hbn:bm≠w.heap.size+1:=by have:=HBM.out;omega
   have g9:Blk w1 (w.heap.size+1) 144 (kcl word cl bits (.map (some bm)) false).toArray:=(hg1.block _ G9.out.lt (by simpa using hn9)).trans G9.out
   have g8:Blk w1 w.heap.size 144 (kcl [] 0 no13 (.map none) false).toArray:=(hg1.block _ G8.out.lt (by simpa using hn8)).trans G8.out
   have N9:=g9.set_ (2+j) (.bool true)
   rw [kcl_set _ _ _ _ _ _ _ (by rw [HL.out];omega)] at N9
   have q0:=g9.cell (2+j)
   rw [kcl_at _ _ _ _ _ _ (by rw [HL.out];omega)] at q0
   obtain ⟨bb,q⟩:∃ bb,w1.cell? ⟨w.heap.size+1,2+j,none⟩=some (.bool bb):=⟨_,q0⟩
   have f:=fun k=>g9.frozen k
   have N8h:=Lib.hid (g8.far (p:=⟨w.heap.size+1,2+j,none⟩) (by simp) (.bool true))
   have N9h:=Lib.hid N9
   have hRw:w.heap.size≤R:=by omega
   have hx2:Ext w w1:=HX.out.only hg1 hRw
   have NX:=Lib.hid (hx2.setCell (p:=⟨w.heap.size+1,2+j,none⟩) (by simp) (.bool true))
   have HRG:Hid (World.ranges (w1.setCell ⟨w.heap.size+1,2+j,none⟩ (.bool true)) Tryz.prog 3 RK bm R n D (fun z=>left z && !z.sameKey (.int .i64 (j:Int))) cnt1) :=
    Lib.hid (hrg1.kept ((Only.refl (w.heap.size+1) w1).setCell (2+j) (.bool true)) (by simpa using hbn) (by simpa using fun h:R=w.heap.size+1=>hn9 h.symm))
   have HNL:Hid (∀ kl,(left kl && !kl.sameKey (.int .i64 (j:Int)))=true→Maps.has D kl=true):=Lib.hid (fun kl h=>HH.out kl (by simp only [Bool.and_eq_true] at h;exact h.1))
   have hlen:(bits.set j true).length=13:=by rw [List.length_set];exact HL.out
   have hmeas:World.rangeLeft (w1.setCell ⟨w.heap.size+1,2+j,none⟩ (.bool true)) bm R<wr.rangeLeft bm R:=by rw [HRG.out.left_eq,hrg.left_eq];exact hlt1
   clear N9 q0 g9 g8 hx2 hrg hrg1 hg1 HX G8 G9 HH hlk HK HL HM
   have hj1:(j:Int)<13:=by omega
   go_wp2_with fail
   exact ⟨⟨_,_,_,HRG.out,hlen,HNL.out,N8h.out,N9h.out,NX.out⟩,hmeas⟩
end
section
open Go.RowKit
open Go.Maps (Keyed)
attribute [local go_sem] size_bs toList_bs
def KeyOK (D:DataW Value):Prop:=∀ x:Int,Maps.has D (.int .i64 x)=true→0≤x∧x<13
theorem keyOK_nil:KeyOK (.map []):=fun x h=>by simp [Maps.has] at h
theorem keyOK_put {D:DataW Value} (h:KeyOK D) (k:Int) (h0:0≤k∧k<13) (d:DataW Value):KeyOK (D.put (.int .i64 k) d):=fun x hx=>by
 by_cases e:x=k
 ·subst e;exact h0
 ·rw [Maps.has_put_other (by simpa using e)] at hx
  exact h x hx
theorem keyWf (k:Int) (h:0≤k∧k<100):(Lit.int .i64 k).wf=true:=WalkArith.wf_i64 (by omega)
theorem keyMk (k:Int) (h:0≤k∧k<100):keyOf Tryz.prog 3 (.int .i64 k)=some (.int .i64 k):=Go.Maps.keyOf_int_mk Tryz.underlying3 (keyWf k h)
theorem moreOf {w:World} (cs:List Value) (ms:List Nat) (h:cs=icells ms):RdI (w.alloc (.cells cs.toArray 3)) (some ⟨w.heap.size,0,none⟩) ms:=by
 subst h
 exact Reads.lit (by simp [icells])
def KindEnds (w:World) (e:Ending) (w':World):Prop:=∃ word cl bits num code,bits.length=13∧num.oneCell'=true∧e = .returned (kv word cl bits num code)∧Ext w w'
abbrev makerV:Value := .func (.func 151) #[] #[]
abbrev FT:TypeId:=207
abbrev LT2:TypeId:=204
theorem kinds2 (word:Bs) (g3 g1:Nat) (lv:Value) (w:World) (b3:Blk w g3 FT #[makerV]) (b1:Blk w g1 LT2 #[lv]) :
  Calls Tryz.prog 152 #[.string (bs word),.pointer (some ⟨g3,0,none⟩),.pointer (some ⟨g1,0,none⟩)] w (KindEnds w):=by
 have hmm:=@run_makeMap Tryz.prog
 have HX:Hid (Ext w (w.alloc (.cells (kcl [] 0 no13 (.map none) false).toArray 144))):=Lib.hid (Ext.new _ _)
 have G4:=Lib.hid (Blk.new w 144 (kcl [] 0 no13 (.map none) false).toArray)
 have B3:=Lib.hid (b3.ext HX.out)
 have B1:=Lib.hid (b1.ext HX.out)
 dsimp only [kcl,no13,List.map_cons,List.map_nil,List.cons_append,List.nil_append] at HX G4 B3 B1
 clear b3 b1
 go_enter Tryz.func152,Tryz.ntmps152
 go_upto_region 1 with fail
 generalize hW2:(w.alloc (.cells #[Value.string { data:=#[] },Value.int IntKind.i64 0,Value.bool false,Value.bool false,Value.bool false,Value.bool false,Value.bool false,Value.bool false,Value.bool false,Value.bool false,Value.bool false,Value.bool false,Value.bool false,Value.bool false,Value.bool false,Value.map none,Value.bool false] 144))=W2
 replace HX:Hid (Ext w W2):=by rw [← hW2];exact HX
 replace G4:Hid (Blk W2 w.heap.size 144 (kcl [] 0 no13 (.map none) false).toArray):=by rw [← hW2];exact G4
 replace B3:Hid (Blk W2 g3 FT #[makerV]):=by rw [← hW2];exact B3
 replace B1:Hid (Blk W2 g1 LT2 #[lv]):=by rw [← hW2];exact B1
 clear hW2
 have q3:=B3.out.cell 0
 have q1:=(B1.out.alloc (.map #[] 0)).cell 0
 simp only [List.getElem?_toArray,List.getElem?_cons_zero] at q3 q1
 have M0:MapAt (W2.alloc (.map #[] 0)) W2.heap.size 0 (.map []):=World.ownsMap_made _ _ _ _
 go_wp2_with (first | (refine wpList_insert_own _ rfl _ _ _ 142 rfl 3 204 keyInt Tryz.underlying142 RK W2.heap.size 0 _ rfl M0 (by decide) (.int .i64 5) _ _ rfl rfl (keyMk 5 (by decide)) _ [] rfl ?_;intro w1 M1 hg1) | fail)
 have hx1:Ext W2 w1:=(Ext.new W2 _).only hg1 (Nat.le_refl _)
 replace HX:=Lib.hid (HX.out.trans hx1)
 replace G4:=Lib.hid (G4.out.ext hx1)
 have HM1:=Lib.hid M1
 have HC:=Lib.hid (kindsMap word 2 W2.heap.size (0+1) _ [2] (some ⟨w1.heap.size,0,none⟩) 1 _ (MapAt.ext M1 (Ext.new w1 _)) (keyOK_put keyOK_nil 5 (by decide) _) (moreOf [.int .i64 2] [2] rfl) (by decide) (by decide))
 clear M0 M1 hg1 hx1 q1 q3 B3 B1
 go_wp2_with fail
 refine HC.out.mono ?_
 rintro e w2 ⟨bits,hl,rfl,hx2⟩
 have hx3:=(Ext.new w1 _).trans hx2
 replace HX:=Lib.hid (HX.out.trans hx3)
 replace G4:=Lib.hid (G4.out.ext hx3)
 clear hx2 hx3 HC hmm
 have hth:w2.there w.heap.size 0 (kcl word 2 bits (.map (some W2.heap.size)) false).toArray.size:=kind_there G4.out (by rw [List.size_toArray,kcl_len _ _ _ _ _ hl];rfl)
 have hs2:(Tryz.prog.info? 144).map (·.size)=some (kcl word 2 bits (.map (some W2.heap.size)) false).toArray.size:=by rw [List.size_toArray,kcl_len _ _ _ _ _ hl];kernel_rfl
 have hoc:=kcl_one word 2 bits (.map (some W2.heap.size)) false rfl
 have O4:=Lib.hid (kind_over G4.out (ys:=kcl word 2 bits (.map (some W2.heap.size)) false) (by rw [kcl_len _ _ _ _ _ hl];rfl))
 have HS:=Lib.hid (ext_sets (kcl word 2 bits (.map (some W2.heap.size)) false) 0 w2 () HX.out (Nat.le_refl _))
 go_wp2_with (first | refine wpList_store_mid rfl 144 _ _ rfl w.heap.size 0 _ rfl rfl hth hs2 hoc ?_ | fail)
 refine bodyPost_ret (results_kind rfl _ _ w.heap.size hl rfl O4.out) rfl ?_
 exact ⟨_,_,_,_,_,hl,rfl,rfl,HS.out⟩
theorem kinds3 (word:Bs) (cl:Int) (bits:List Bool) (num:Value) (code:Bool) (w:World) (hl:bits.length=13) (hn:num.oneCell'=true) :
  Calls Tryz.prog 153 #[kv word cl bits num code] w (KindEnds w):=by
 obtain ⟨b0,b1,b2,b3,b4,b5,b6,b7,b8,b9,b10,b11,b12,rfl⟩:=len13 hl
 have HX:Hid (Ext w ((w.alloc (.cells (kcl word cl [b0,b1,b2,b3,b4,b5,b6,b7,b8,b9,b10,b11,b12] num code).toArray 144)).alloc (.cells (kcl [] 0 no13 (.map none) false).toArray 144))):=Lib.hid ((Ext.new _ _).alloc _)
 have G1:=Lib.hid ((Blk.new w 144 (kcl word cl [b0,b1,b2,b3,b4,b5,b6,b7,b8,b9,b10,b11,b12] num code).toArray).alloc (.cells (kcl [] 0 no13 (.map none) false).toArray 144))
 have G2:=Lib.hid (Blk.newAt (w.alloc (.cells (kcl word cl [b0,b1,b2,b3,b4,b5,b6,b7,b8,b9,b10,b11,b12] num code).toArray 144)) 144 (kcl [] 0 no13 (.map none) false).toArray (w.heap.size+1) (by simp))
 have HN:=Lib.hid hn
 have HL:=Lib.hid hl
 clear hn hl
 dsimp only [kcl,no13,List.map_cons,List.map_nil,List.cons_append,List.nil_append] at HX G1 G2
 have hkv:kv word cl [b0,b1,b2,b3,b4,b5,b6,b7,b8,b9,b10,b11,b12] num code = .agg #[.string (bs word),.int .i64 cl,.bool b0,.bool b1,.bool b2,.bool b3,.bool b4,.bool b5,.bool b6,.bool b7,.bool b8,.bool b9,.bool b10,.bool b11,.bool b12,num,.bool code]:=rfl
 rw [hkv]
 clear hkv
 go_enter Tryz.func153,Tryz.ntmps153
 go_upto_region 1 with fail
 generalize hW2:((w.alloc (.cells #[Value.string (bs word),Value.int IntKind.i64 cl,Value.bool b0,Value.bool b1,Value.bool b2,Value.bool b3,Value.bool b4,Value.bool b5,Value.bool b6,Value.bool b7,Value.bool b8,Value.bool b9,Value.bool b10,Value.bool b11,Value.bool b12,num,Value.bool code] 144)).alloc (.cells #[Value.string { data:=#[] },Value.int IntKind.i64 0,Value.bool false,Value.bool false,Value.bool false,Value.bool false,Value.bool false,Value.bool false,Value.bool false,Value.bool false,Value.bool false,Value.bool false,Value.bool false,Value.bool false,Value.bool false,Value.map none,Value.bool false] 144))=W2
 replace HX:Hid (Ext w W2):=by rw [← hW2];exact HX
 replace G1:Hid (Blk W2 w.heap.size 144 (kcl word cl [b0,b1,b2,b3,b4,b5,b6,b7,b8,b9,b10,b11,b12] num code).toArray):=by rw [← hW2];exact G1
 replace G2:Hid (Blk W2 (w.heap.size+1) 144 (kcl [] 0 no13 (.map none) false).toArray):=by rw [← hW2];exact G2
 clear hW2
 have q16:=G1.out.cell 16
 rw [kcl_code _ _ _ _ _ HL.out] at q16
 have f16:=G1.out.frozen 16
 have N1:Hid (Blk (W2.setCell ⟨w.heap.size,16,none⟩ (.bool true)) w.heap.size 144 (kcl word cl [b0,b1,b2,b3,b4,b5,b6,b7,b8,b9,b10,b11,b12] num true).toArray):=Lib.hid (G1.out.set_ 16 (.bool true))
 have N2:=Lib.hid (G2.out.far (p:=⟨w.heap.size,16,none⟩) (by simp) (.bool true))
 have NX:=Lib.hid (HX.out.setCell (p:=⟨w.heap.size,16,none⟩) (Nat.le_refl _) (.bool true))
 clear HX G1 G2
 go_upto_region 2 with fail
 generalize W2.setCell ⟨w.heap.size,16,none⟩ (.bool true)=W3 at *
 clear q16 f16
 have hrg:=kind_range N1.out
 have hth:W3.there (w.heap.size+1) 0 (kcl word cl [b0,b1,b2,b3,b4,b5,b6,b7,b8,b9,b10,b11,b12] num true).toArray.size:=kind_there N2.out (by rfl)
 have hs1:(Tryz.prog.info? 144).map (·.size)=some (kcl word cl [b0,b1,b2,b3,b4,b5,b6,b7,b8,b9,b10,b11,b12] num true).length:=by rw [kcl_len _ _ _ _ _ HL.out];kernel_rfl
 have hs2:(Tryz.prog.info? 144).map (·.size)=some (kcl word cl [b0,b1,b2,b3,b4,b5,b6,b7,b8,b9,b10,b11,b12] num true).toArray.size:=hs1
 have hoc:=kcl_one word cl [b0,b1,b2,b3,b4,b5,b6,b7,b8,b9,b10,b11,b12] num true HN.out
 have O2:=Lib.hid (kind_over N2.out (ys:=kcl word cl [b0,b1,b2,b3,b4,b5,b6,b7,b8,b9,b10,b11,b12] num true) (by rfl))
 have HS:=Lib.hid (ext_sets (kcl word cl [b0,b1,b2,b3,b4,b5,b6,b7,b8,b9,b10,b11,b12] num true) 0 W3 () NX.out (Nat.le_succ _))
 go_wp2_with (first | refine wpList_load_mid rfl 144 _ rfl w.heap.size 0 rfl _ _ hrg Tryz.underlying144 rfl hs1 ?_ | refine wpList_store_mid rfl 144 _ _ rfl (w.heap.size+1) 0 _ rfl rfl hth hs2 hoc ?_ | fail)
 refine bodyPost_ret (results_kind rfl _ _ (w.heap.size+1) HL.out rfl O2.out) rfl ?_
 exact ⟨_,_,_,_,_,HL.out,HN.out,rfl,HS.out⟩
end
section
open Go.RowKit
section
variable {P:Program} {ops:Array Oper} {Q:Exit→Act→World→Prop} {md:Region.Mode}
theorem wpAny_inv {Inv:Nat→Array Bool→Act→World→Prop} (hend:∀ f listed a w,Inv f listed a w→Region.ready md ops listed=[]→Q .normal a w)
  (hz:∀ listed a w,Inv 0 listed a w→Region.ready md ops listed=[])
  (hstep:∀ f listed a w i,Inv (f+1) listed a w→i ∈ Region.ready md ops listed→wpOp P ops Q i (Inv f (listed.setIfInBounds i true)) a w) :
  ∀ f listed a w,Inv f listed a w→wpAny P md ops Q f listed a w
 |0,listed,a,w,h=>⟨hz listed a w h,hend 0 listed a w h (hz listed a w h)⟩
 |f+1,listed,a,w,h=>⟨hend (f+1) listed a w h,fun i hi=>wpOp_mono (fun a' w' h'=>wpAny_inv hend hz hstep f _ a' w' h') (hstep f listed a w i h hi)⟩
theorem ready_lt {listed:Array Bool} {i:Nat} (hi:i ∈ Region.ready md ops listed):i<ops.size:=by
 unfold Region.ready at hi
 rw [List.mem_filter,List.mem_range] at hi
 exact hi.1
theorem ready_not {listed:Array Bool} {i:Nat} (hi:i ∈ Region.ready md ops listed):listed.getD i true=false:=by
 unfold Region.ready at hi
 rw [List.mem_filter,Bool.and_eq_true] at hi
 simpa using hi.2.1
theorem ready_pred {listed:Array Bool} {i p:Nat} (hi:i ∈ Region.ready md ops listed) {o:Oper} (ho:ops[i]? = some o) (hp:(o.after.toList.any fun e=>e.on == p && Region.binds md e)=true):listed.getD p false=true:=by
 unfold Region.ready at hi
 rw [List.mem_filter,Bool.and_eq_true,ho] at hi
 have h:=hi.2.2
 simp only [Option.map_some,Option.getD_some] at h
 rw [List.any_eq_true] at hp
 obtain ⟨e,he,hp⟩:=hp
 rw [Array.all_eq_true_iff_forall_mem] at h
 have:=h e (Array.mem_toList_iff.1 he)
 simp only [Bool.and_eq_true,beq_iff_eq] at hp
 rw [hp.2] at this
 simp only [Bool.not_true,Bool.false_or] at this
 rw [hp.1] at this
 exact this
theorem ready_nil {listed:Array Bool} (h:listed.toList.count false=0) (_hs:listed.size=ops.size):Region.ready md ops listed=[]:=by
 unfold Region.ready
 rw [List.filter_eq_nil_iff]
 intro i hi hc
 rw [Bool.and_eq_true] at hc
 have h1:listed.getD i true=false:=by simpa using hc.1
 rw [List.count_eq_zero] at h
 apply h
 unfold Array.getD at h1
 split at h1
 ·rename_i hlt
  have:listed[i]=false:=h1
  rw [← this]
  exact Array.mem_toList_iff.2 (Array.getElem_mem hlt)
 ·cases h1
theorem count_set {listed:Array Bool} {i:Nat} (hi:listed.getD i true=false):(listed.setIfInBounds i true).toList.count false+1=listed.toList.count false:=by
 unfold Array.getD at hi
 split at hi
 ·rename_i hlt
  have e:listed.toList[i]'(by simpa using hlt)=false:=by rw [Array.getElem_toList];exact hi
  rw [Array.toList_setIfInBounds,List.count_set (by simpa using hlt),e]
  have h0:0<listed.toList.count false:=by
   rw [List.count_pos_iff,← e]
   exact List.getElem_mem _
  have h1:((true:Bool) == false)=false:=rfl
  simp only [beq_self_eq_true,h1,if_true,Bool.false_eq_true,if_false]
  omega
 ·cases hi
theorem listed_set {listed:Array Bool} {i j:Nat} (h:(listed.setIfInBounds i true).getD j false=true):j=i∨listed.getD j false=true:=by
 by_cases e:j=i
 ·exact .inl e
 ·right
  unfold Array.getD at h ⊢
  split at h
  ·rename_i hlt
   rw [Array.size_setIfInBounds] at hlt
   rw [dif_pos hlt]
   have h2:(listed.setIfInBounds i true)[j]'(by rw [Array.size_setIfInBounds];exact hlt)=true:=h
   rw [Array.getElem_setIfInBounds_ne _ (by omega)] at h2
   exact h2
  ·cases h
theorem ready_all {listed:Array Bool} (hacc:((List.range ops.size).all fun i=>match ops[i]? with | some o=>o.after.toList.all (fun e=>decide (e.on<i)) | none=>true)=true) (h:Region.ready md ops listed=[]) (hs:listed.size=ops.size) :
  ∀ i,i<ops.size→listed.getD i false=true:=by
 intro i
 induction i using Nat.strongRecOn with
 |ind i ih =>
  intro hi
  cases hl:listed.getD i false
  ·exfalso
   have hl2:listed.getD i true=false:=by
    have hlt:i<listed.size:=by omega
    rw [Array.getD_eq_getD_getElem?,Array.getElem?_eq_getElem hlt] at hl ⊢
    exact hl
   rw [List.all_eq_true] at hacc
   have h1:=hacc i (List.mem_range.2 hi)
   have:i ∈ Region.ready md ops listed:=by
    unfold Region.ready
    rw [List.mem_filter,Bool.and_eq_true]
    refine ⟨List.mem_range.2 hi,by rw [hl2];rfl,?_⟩
    rw [Array.getElem?_eq_getElem hi] at h1 ⊢
    simp only [Option.map_some,Option.getD_some]
    rw [Array.all_eq_true_iff_forall_mem]
    intro e he
    rw [List.all_eq_true] at h1
    have h2:=of_decide_eq_true (h1 e (Array.mem_toList_iff.2 he))
    rw [ih e.on h2 (by omega),Bool.or_true]
   rw [h] at this
   cases this
  ·rfl
end
end
section
open Go.RowKit Go.Shelf
attribute [local go_sem] size_bs toList_bs Oper.semAt_some
abbrev svC (x:LotV) (n p k:Bs):Array Value:=#[.string (bs x.id),.string (bs x.ins),.int .i64 x.acq,.int .i64 x.opn,.string (bs x.q),.string (bs x.c),.string (bs x.u),.string (bs n),.string (bs p),.string (bs k)]
abbrev sv (x:LotV) (n p k:Bs):Value := .agg (svC x n p k)
theorem eval_tmpM (a:Act) (m:Nat):a.eval (.tmp m)=a.tmps.getD m undef:=rfl
theorem actOf_none {base:Array Value} {who:Nat→Option Nat} {val:Nat→Value} {m:Nat}:actOf base who val (Array.replicate m false)={ tmps:=base,defers:=[] }:=by
 have key:(actOf base who val (Array.replicate m false)).tmps=base:=by
  unfold actOf
  dsimp only
  apply Array.ext
  ·simp
  ·intro s h1 h2
   rw [Array.getElem_ofFn]
   have hb:base.getD s undef=base[s]:=by rw [Array.getD_eq_getD_getElem?,Array.getElem?_eq_getElem h2];rfl
   cases hq:who s with
   |none=>exact hb
   |some i =>
    dsimp only
    have hl:(Array.replicate m false).getD i false=false:=by
     rw [Array.getD_eq_getD_getElem?,Array.getElem?_replicate]
     split <;> rfl
    rw [hl,if_neg (by decide)]
    exact hb
 show ({ tmps:=(actOf base who val (Array.replicate m false)).tmps,defers:=[] }:Act)=_
 rw [key]
def whoOf (d m:Nat) (s:Nat):Option Nat:=if d≤s∧s<d+m then some (s-d) else none
theorem whoOf_at {d m i:Nat} (h:i<m):whoOf d m (d+i)=some i:=by
 unfold whoOf;rw [if_pos ⟨by omega,by omega⟩];congr 1;omega
theorem whoOf_inj {d m i s:Nat} (h:whoOf d m s=some i):s=d+i:=by
 unfold whoOf at h
 split at h
 ·injection h with h;omega
 ·cases h
theorem setT {m i:Nat} (_h:i<m):(Array.ofFn (n:=m) fun j=>decide (j.val<i)).setIfInBounds i true=Array.ofFn (n:=m) fun j=>decide (j.val<i+1):=by
 apply Array.ext
 ·simp
 ·intro s h1 h2
  have hs:s<m:=by simpa using h2
  rw [Array.getElem_setIfInBounds (by simpa using hs),Array.getElem_ofFn,Array.getElem_ofFn]
  by_cases e:i=s
  ·subst e;rw [if_pos rfl];simp
  ·rw [if_neg e];simp;omega
theorem actOf_all {base:Array Value} {val:Nat→Value} {d m:Nat}:∀ i,i≤m→actOf base (whoOf d m) val (Array.ofFn (n:=m) fun j=>decide (j.val<i))=(List.range i).foldl (fun a j=>a.put (some (d+j)) (val (d+j))) { tmps:=base,defers:=[] }
 |0,_=>by
  have e:(Array.ofFn (n:=m) fun j=>decide (j.val<0))=Array.replicate m false:=by
   apply Array.ext
   ·simp
   ·intro s h1 h2;simp
  rw [e,actOf_none]
  rfl
 |i+1,h=>by
  rw [List.range_succ,List.foldl_append,← actOf_all (m:=m) i (by omega),← setT (m:=m) (i:=i) (by omega)]
  exact (actOf_put (whoOf_at (by omega)) (fun s hs=>whoOf_inj hs) (by simp;omega)).symm
theorem actOf_end {base:Array Value} {val:Nat→Value} {d m:Nat}:actOf base (whoOf d m) val (Array.replicate m true)=(List.range m).foldl (fun a j=>a.put (some (d+j)) (val (d+j))) { tmps:=base,defers:=[] }:=by
 rw [← actOf_all (m:=m) m (Nat.le_refl _)]
 congr 1
 apply Array.ext
 ·simp
 ·intro s h1 h2;simp
section
variable {F:Fence} {n:Nat} {P:Program} {ops:Array Oper} {Q:Exit→Act→World→Prop}
theorem up_listed {listed:Array Bool} {i j:Nat} (h:listed.getD j false=true):(listed.setIfInBounds i true).getD j false=true:=by
 rw [Array.getD_eq_getD_getElem?] at h ⊢
 rw [Array.getElem?_setIfInBounds]
 split
 ·rename_i e
  subst e
  split
  ·rfl
  ·rename_i hge
   rw [Array.getElem?_eq_none (by omega)] at h
   cases h
 ·exact h
theorem stepIn_round (hfn:∀ k,F.fn k) (hdp:F.depth.isSome=false) (hro:F.round=none) {i:Nat} {o:Oper} {K:Act→World→Prop} {a:Act} {w:World} (ho:ops[i]? = some o) (hg:o.guard=none) (l fn:Nat) (tmps:Array Value) (assign body:Code) {R:Ending→World→Prop}
  (hrun:(execOp a.eval o).run P w = .ok (.round l fn tmps assign body) w) (hR:RoundIn F (n-1) P l fn tmps assign body w R) (hK:∀ e W,R e W→∃ v,e = .returned v∧K (a.put o.dst v) W):wpOpIn F n P ops Q i K a w:=by
 unfold wpOpIn
 rw [ho]
 dsimp only
 rw [if_pos (by simp [Region.wanted,hg])]
 refine ⟨fun f _=>hfn f,?_⟩
 rw [hro]
 show Oper.uponIn F n P o a K Q ((execOp a.eval o).run P w)
 rw [hrun]
 refine ⟨fun h=>(by rw [hdp] at h;cases h),hR.mono ?_⟩
 intro e W hr
 obtain ⟨v,rfl,hk⟩:=hK e W hr
 exact hk
structure ChInv (ops:Array Oper) (base:Array Value) (val:Nat→Value) (d c:Nat) (W:World) (J:World→Prop) (f:Nat) (listed:Array Bool) (a:Act) (w:World):Prop where
 size:listed.size=ops.size
 cnt:listed.toList.count false≤f
 act:a=actOf base (whoOf d ops.size) val listed
 cl:∀ i o e,ops[i]? = some o→listed.getD i false=true→e ∈ o.after.toList→Region.binds .any e=true→listed.getD e.on false=true
 wld:(listed.getD c false=false∧w=W)∨(listed.getD c false=true∧J w)
section
variable {base:Array Value} {val:Nat→Value} {d c f i:Nat} {W w:World} {J:World→Prop} {listed:Array Bool} {a:Act} {o:Oper}
theorem ChInv.need (h:ChInv ops base val d c W J (f+1) listed a w) (hd:d+ops.size≤base.size) (hi:i ∈ Region.ready .any ops listed) (ho:ops[i]? = some o) (p:Nat) (hps:p<ops.size) (hp:(o.after.toList.any fun e=>e.on == p && Region.binds .any e)=true):a.tmps.getD (d+p) undef=val (d+p):=by
 rw [h.act]
 exact actOf_val (by omega) (whoOf_at hps) (ready_pred hi ho hp)
theorem ChInv.base' (h:ChInv ops base val d c W J f listed a w) {s:Nat} (hs:s<base.size) (hn:s<d∨d+ops.size≤s):a.tmps.getD s undef=base.getD s undef:=by
 rw [h.act]
 exact actOf_base hs (by unfold whoOf;rw [if_neg (by omega)])
theorem ChInv.step (h:ChInv ops base val d c W J (f+1) listed a w) (hi:i ∈ Region.ready .any ops listed) (ho:ops[i]? = some o) (hdst:o.dst=some (d+i)) (w':World) (hw:(i≠c∧w'=w)∨(i=c∧J w')) :
  ChInv ops base val d c W J f (listed.setIfInBounds i true) (a.put o.dst (val (d+i))) w':=by
 have hlt:=ready_lt hi
 have hs:=h.size
 have hc:=count_set (ready_not hi)
 have hcn:=h.cnt
 refine ⟨by rw [Array.size_setIfInBounds];exact hs,by omega,?_,?_,?_⟩
 ·rw [hdst,h.act]
  exact actOf_put (whoOf_at hlt) (fun s hs=>whoOf_inj hs) (by omega)
 ·intro j oj e hj hl he hb
  rcases listed_set hl with e1 | e1
  ·subst e1
   rw [ho] at hj
   cases hj
   refine up_listed (ready_pred hi ho ?_)
   rw [List.any_eq_true]
   exact ⟨e,he,by rw [hb];simp⟩
  ·exact up_listed (h.cl j oj e hj e1 he hb)
 ·rcases hw with ⟨hne,rfl⟩ | ⟨rfl,hj⟩
  ·rcases h.wld with ⟨h1,h2⟩ | ⟨h1,h2⟩
   ·left
    refine ⟨?_,h2⟩
    cases hq:(listed.setIfInBounds i true).getD c false
    ·rfl
    ·rcases listed_set hq with e | e
     ·exact absurd e.symm hne
     ·rw [h1] at e;cases e
   ·exact .inr ⟨up_listed h1,h2⟩
  ·right
   refine ⟨?_,hj⟩
   rw [Array.getD_eq_getD_getElem?,Array.getElem?_setIfInBounds_self_of_lt (by omega)]
   rfl
theorem ChInv.before (h:ChInv ops base val d c W J f listed a w) (hi:i ∈ Region.ready .any ops listed) (hic:i<c) (_hsz:c<ops.size)
  (hdep:∀ L:Nat→Prop,(∀ i o e,ops[i]? = some o→L i→e ∈ o.after.toList→Region.binds .any e=true→L e.on)→L c→∀ i,i<c→L i):w=W:=by
 rcases h.wld with ⟨_,h2⟩ | ⟨h1,_⟩
 ·exact h2
 ·have:=hdep (fun i=>listed.getD i false=true) (fun i o e ho hl he hb=>h.cl i o e ho hl he hb) h1 i hic
  have hn:=ready_not hi
  rw [Array.getD_eq_getD_getElem?] at this hn
  have hlt:=ready_lt hi
  have hs:=h.size
  rw [Array.getElem?_eq_getElem (by omega)] at this hn
  exact absurd (hn.symm.trans this) (by decide)
theorem ChInv.at_call (h:ChInv ops base val d c W J f listed a w) (hi:c ∈ Region.ready .any ops listed):w=W:=by
 rcases h.wld with ⟨_,h2⟩ | ⟨h1,_⟩
 ·exact h2
 ·have hn:=ready_not hi
  have hlt:=ready_lt hi
  have hs:=h.size
  rw [Array.getD_eq_getD_getElem?] at h1 hn
  rw [Array.getElem?_eq_getElem (by omega)] at h1 hn
  exact absurd (hn.symm.trans h1) (by decide)
theorem ChInv.start (J:World→Prop):ChInv ops base val d c W J ops.size (Array.replicate ops.size false) { tmps:=base,defers:=[] } W:=by
 have hf:∀ i,(Array.replicate ops.size false).getD i false=false:=fun i=>by
  rw [Array.getD_eq_getD_getElem?,Array.getElem?_replicate]
  split <;> rfl
 refine ⟨by simp,by rw [Array.toList_replicate,List.count_replicate_self];exact Nat.le_refl _,actOf_none.symm,?_,.inl ⟨hf c,rfl⟩⟩
 intro i o e _ hl
 rw [hf i] at hl;cases hl
theorem ChInv.fin (h:ChInv ops base val d c W J f listed a w) (hc:c<ops.size) (hr:Region.ready .any ops listed=[])
  (hacc:((List.range ops.size).all fun i=>match ops[i]? with | some o=>o.after.toList.all (fun e=>decide (e.on<i)) | none=>true)=true) :
  a=(List.range ops.size).foldl (fun a j=>a.put (some (d+j)) (val (d+j))) { tmps:=base,defers:=[] }∧J w:=by
 have hall:=ready_all hacc hr h.size
 refine ⟨?_,?_⟩
 ·rw [h.act,all_true h.size hall,actOf_end]
 ·rcases h.wld with ⟨h1,_⟩ | ⟨_,h2⟩
  ·rw [hall c hc] at h1;cases h1
  ·exact h2
end
end
end
end Go.Proofs.YthgpheopnhajaaaGreatDoor
