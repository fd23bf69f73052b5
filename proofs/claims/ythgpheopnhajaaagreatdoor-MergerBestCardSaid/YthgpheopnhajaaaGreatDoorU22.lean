/- The seat's texts, part U22. -/
import Derived.Test.YthgpheopnhajaaaGreatDoorU11
import Derived.Test.YthgpheopnhajaaaGreatDoorU21
import Derived.Shelf.SlGeneric
import Derived.Shelf.SlSortCmp.NoneTotal
import Derived.Ground.SlsfProg
import Derived.Test.YthgpheopnhajaaaGreatDoorProg
import Derived.Deep.RegionHeld3
set_option maxRecDepth 100000
set_option maxHeartbeats 8000000
namespace Go.Proofs
open Go.Shelf
def Tryz.sortL_ren:Go.Shelf.Ren:=⟨fun | 6=>311 | 15=>326 | 14=>325 | 28=>342 | 29=>293 | 20=>334 | 21=>335 | 22=>336 | 23=>337 | 24=>338 | 25=>339 | 26=>340 | 27=>341 | 46=>343 | 47=>344 | 48=>345 | 49=>346 | 50=>347 | 57=>348 | n=>n,fun | 22=>206 | 24=>3 | 25=>316 | 3=>3 | 39=>238 | 0=>0 | 53=>280 | 55=>183 | 4=>4 | 46=>334 | 45=>333 | 50=>72 | 5=>5 | 9=>9 | 66=>339 | 70=>343 | 76=>345 | 77=>346 | n=>n,fun | n=>n⟩
theorem Tryz.sortL:Go.Proofs.SlLaysF.n6 Tryz.prog Tryz.sortL_ren:={
 mixed:=by kernel_rfl
 f6:=⟨Tryz.f311.name,by decide,Tryz.func311.trans (congrArg some (by kernel_rfl))⟩
 f14:=⟨Tryz.f325.name,by decide,Tryz.func325.trans (congrArg some (by kernel_rfl))⟩
 f15:=Tryz.func326.trans (congrArg some (by kernel_rfl))
 f20:=⟨Tryz.f334.name,by decide,Tryz.func334.trans (congrArg some (by kernel_rfl))⟩
 f21:=⟨Tryz.f335.name,by decide,Tryz.func335.trans (congrArg some (by kernel_rfl))⟩
 f22:=⟨Tryz.f336.name,by decide,Tryz.func336.trans (congrArg some (by kernel_rfl))⟩
 f23:=⟨Tryz.f337.name,by decide,Tryz.func337.trans (congrArg some (by kernel_rfl))⟩
 f24:=⟨Tryz.f338.name,by decide,Tryz.func338.trans (congrArg some (by kernel_rfl))⟩
 f25:=⟨Tryz.f339.name,by decide,Tryz.func339.trans (congrArg some (by kernel_rfl))⟩
 f26:=⟨Tryz.f340.name,by decide,Tryz.func340.trans (congrArg some (by kernel_rfl))⟩
 f27:=⟨Tryz.f341.name,by decide,Tryz.func341.trans (congrArg some (by kernel_rfl))⟩
 f28:=Tryz.func342.trans (congrArg some (by kernel_rfl))
 f29:=Tryz.func293.trans (congrArg some (by kernel_rfl))
 f46:=⟨Tryz.f343.name,by decide,Tryz.func343.trans (congrArg some (by kernel_rfl))⟩
 f47:=Tryz.func344.trans (congrArg some (by kernel_rfl))
 f48:=Tryz.func345.trans (congrArg some (by kernel_rfl))
 f49:=⟨Tryz.f346.name,by decide,Tryz.func346.trans (congrArg some (by kernel_rfl))⟩
 f50:=⟨Tryz.f347.name,by decide,Tryz.func347.trans (congrArg some (by kernel_rfl))⟩
 f57:=⟨Tryz.f348.name,by decide,Tryz.func348.trans (congrArg some (by kernel_rfl))⟩
 t0:=Tryz.underlying0
 a0:=Tryz.isAgg0
 z0:=Tryz.sizeOf0
 v0:=Tryz.zeroValue0
 t3:=Tryz.underlying3
 a3:=Tryz.isAgg3
 z3:=Tryz.sizeOf3
 v3:=Tryz.zeroValue3
 t4:=Tryz.underlying4
 a4:=Tryz.isAgg4
 z4:=Tryz.sizeOf4
 v4:=Tryz.zeroValue4
 t5:=Tryz.underlying5
 a5:=Tryz.isAgg5
 z5:=Tryz.sizeOf5
 v5:=Tryz.zeroValue5
 t9:=Tryz.underlying9
 a9:=Tryz.isAgg9
 z9:=Tryz.sizeOf9
 v9:=Tryz.zeroValue9
 t22:=Tryz.underlying206
 a22:=Tryz.isAgg206
 z22:=Tryz.sizeOf206
 v22:=Tryz.zeroValue206
 a24:=Tryz.isAgg3
 z24:=Tryz.sizeOf3
 t25:=Tryz.underlying316
 a25:=Tryz.isAgg316
 z25:=Tryz.sizeOf316
 v25:=Tryz.zeroValue316
 t39:=Tryz.underlying238
 a39:=Tryz.isAgg238
 z39:=Tryz.sizeOf238
 v39:=Tryz.zeroValue238
 t45:=Tryz.underlying333
 a45:=Tryz.isAgg333
 z45:=Tryz.sizeOf333
 v45:=Tryz.zeroValue333
 t46:=Tryz.underlying334
 a46:=Tryz.isAgg334
 z46:=Tryz.sizeOf334
 v46:=Tryz.zeroValue334
 t50:=Tryz.underlying72
 a50:=Tryz.isAgg72
 z50:=Tryz.sizeOf72
 v50:=Tryz.zeroValue72
 t53:=Tryz.underlying280
 a53:=Tryz.isAgg280
 z53:=Tryz.sizeOf280
 v53:=Tryz.zeroValue280
 t55:=Tryz.underlying183
 a55:=Tryz.isAgg183
 z55:=Tryz.sizeOf183
 v55:=Tryz.zeroValue183
 t66:=Tryz.underlying339
 a66:=Tryz.isAgg339
 z66:=Tryz.sizeOf339
 v66:=Tryz.zeroValue339
 t70:=Tryz.underlying343
 a70:=Tryz.isAgg343
 z70:=Tryz.sizeOf343
 v70:=Tryz.zeroValue343
 t76:=Tryz.underlying345
 a76:=Tryz.isAgg345
 z76:=Tryz.sizeOf345
 v76:=Tryz.zeroValue345
 t77:=Tryz.underlying346
 a77:=Tryz.isAgg346
 z77:=Tryz.sizeOf346
 v77:=Tryz.zeroValue346 }
end Go.Proofs
namespace Go.Proofs.YthgpheopnhajaaaGreatDoor
section
open Go.RowKit Go.Shelf
attribute [local go_sem] size_bs toList_bs
def orI (x y:Int):Int:=if x≠0 then x else y
theorem orInt (x y:Int) (b:Nat) (t:TypeId) (w:World) (hB:Blk w b t #[.int .i64 x,.int .i64 y]) :
  Calls Tryz.prog 313 #[.slice (some ⟨b,0,none⟩) 2 2] w fun e w'=>e = .returned (.int .i64 (orI x y))∧w'=w:=by
 have c0:=hB.cell 0
 have c1:=hB.cell 1
 simp only [List.getElem?_toArray,List.getElem?_cons_zero,List.getElem?_cons_succ] at c0 c1
 have HB:=Lib.hid hB
 clear hB
 by_cases hx:x=0
 ·by_cases hy:y=0
  ·subst hx hy
   go_enter Tryz.func313,Tryz.ntmps313
   go_wp2_with fail
   refine wp_loop_rounds 3 ?_
   rw [rounds_succ]
   go_wp2_with fail
   rw [rounds_succ]
   go_wp2_with fail
   rw [rounds_succ]
   go_wp2_with fail
   go_ret
   exact ⟨rfl,rfl⟩
  ·subst hx
   have HO:Hid (orI 0 y=y):=Lib.hid (by unfold orI;simp)
   have g:(y != 0)=true:=by simp [hy]
   clear hy
   go_enter Tryz.func313,Tryz.ntmps313
   go_wp2_with fail
   refine wp_loop_rounds 3 ?_
   rw [rounds_succ]
   go_wp2_with fail
   rw [rounds_succ]
   go_wp2_with fail
   go_ret
   exact ⟨by rw [HO.out];rfl,rfl⟩
 ·have HO:Hid (orI x y=x):=Lib.hid (by unfold orI;simp [hx])
  have g:(x != 0)=true:=by simp [hx]
  clear hx
  go_enter Tryz.func313,Tryz.ntmps313
  go_wp2_with fail
  refine wp_loop_rounds 3 ?_
  rw [rounds_succ]
  go_wp2_with fail
  go_ret
  exact ⟨by rw [HO.out];rfl,rfl⟩
theorem cmpInt_eq (x y:Int):Lib.compareInt x y=cmpI x y:=by unfold Lib.compareInt cmpI;split <;> (try split) <;> (try split) <;> omega
theorem boxCell {W:World} {g:Nat} {t:TypeId} {v:Value} (h:Blk W g t #[v]):W.cell? ⟨g,0,none⟩=some v:=by
 have:=h.cell 0
 simpa using this
theorem posLess (rs:List Bs) (hs:∀ x ∈ rs,x.length≤100000) (A:Option Addr) (c g:Nat) (i k:Nat) (hi:i<rs.length) (hk:k<rs.length) (w:World) (hE:Env w) (hB:Blk w g 106 #[.slice A rs.length c]) (hA:RdS w A rs) :
  Calls Tryz.prog 312 #[.int .i64 i,.int .i64 k,.pointer (some ⟨g,0,none⟩)] w fun e w'=>e = .returned (.int .i64 (orI (cmpI (valI (rs[k]'hk)) (valI (rs[i]'hi))) (cmpI i k)))∧Ext w w':=by
 have hc:=cmpP (rs[k]'hk) (rs[i]'hi) (hs _ (List.getElem_mem _)) (hs _ (List.getElem_mem _))
 have HC:=Lib.hid hc
 have HD:=Lib.hid (fun W=>Tryz.cmp_Compare_int (i:Int) (k:Int) W)
 simp only [cmpInt_eq] at HD
 have HO:=Lib.hid (fun W b hb=>orInt (cmpI (valI (rs[k]'hk)) (valI (rs[i]'hi))) (cmpI i k) b 3 W hb)
 obtain ⟨b,o,rfl,hb,ci⟩:=hA.at_ hi
 obtain ⟨b',o',he,hb',ck⟩:=hA.at_ hk
 injection he with he
 injection he with e1 e2 _
 subst e1 e2
 have HE:=Lib.hid hE
 have HB:=Lib.hid hB
 have HA:=Lib.hid hA
 have hii:(i:Int)<(rs.length:Int):=by omega
 have hkk:(k:Int)<(rs.length:Int):=by omega
 have hi0:(0:Int)≤(i:Int):=by omega
 have hk0:(0:Int)≤(k:Int):=by omega
 have q0:=boxCell hB
 have hg:=hB.lt
 have HCELL:Hid (∀ W,Ext w W→W.cell? ⟨g,0,none⟩=some (.slice (some ⟨b,o,none⟩) rs.length c)∧W.cell? ⟨b,o+i,none⟩=some (.string (bs (rs[i]'hi)))∧W.cell? ⟨b,o+k,none⟩=some (.string (bs (rs[k]'hk)))∧g≠W.heap.size∧b≠W.heap.size∧W.heap.size≠g∧W.heap.size≠b):=Lib.hid (fun W hx=>⟨(hx.cell (p:=⟨g,0,none⟩) hg).trans q0,(hx.cell (p:=⟨b,o+i,none⟩) hb).trans ci,(hx.cell (p:=⟨b,o+k,none⟩) hb).trans ck,by have:=hx.size;omega,by have:=hx.size;omega,by have:=hx.size;omega,by have:=hx.size;omega⟩)
 have hgn:g≠w.heap.size:=by omega
 have hbn:b≠w.heap.size:=by omega
 clear hc hE hB hA hs hb'
 generalize orI (cmpI (valI (rs[k]'hk)) (valI (rs[i]'hi))) (cmpI i k)=z at *
 generalize cmpI (valI (rs[k]'hk)) (valI (rs[i]'hi))=z1 at *
 generalize cmpI (i:Int) (k:Int)=z2 at *
 generalize rs[k]'hk=rk at *
 generalize rs[i]'hi=ri at *
 have HX:Hid (Ext w w):=Lib.hid (Ext.refl w)
 go_enter Tryz.func312,Tryz.ntmps312
 go_wp2_with fail
 replace HX:Hid (Ext w w.drew):=Lib.hid HX.out.drew
 go_region_held3 (fun w'=>w'.cell? ⟨g,0,none⟩=some (.slice (some ⟨b,o,none⟩) rs.length c)∧w'.cell? ⟨b,o+i,none⟩=some (.string (bs ri))∧w'.cell? ⟨b,o+k,none⟩=some (.string (bs rk)))
  (go_keep)
  (first
   |(go_at_call 20;((with_reducible refine (HC.out _ (HE.out.ext HX.out)).mono ?_);rintro e w1 ⟨rfl,hx⟩);(replace HX:=Lib.hid (HX.out.trans hx));(obtain ⟨q1,q2,q3,q4,q5,q6,q7⟩:=HCELL.out _ HX.out);clear hx HC)
   |(go_at_call 314;((with_reducible refine (HD.out _).mono ?_);rintro e w2 ⟨rfl,rfl⟩);clear HD)
   |(go_at_call 313;((with_reducible refine (HO.out _ _ (Blk.new _ _ _)).mono ?_);rintro e w3 ⟨rfl,rfl⟩);(replace HX:=Lib.hid (HX.out.alloc (.cells #[.int .i64 z1,.int .i64 z2] 3)));clear HO))
 all_goals
  go_wp2_with fail
  go_ret
  exact ⟨rfl,HX.out⟩
end
section
open Go.RowKit Go.Shelf Go.Sort
theorem ext_grow {w w':World} (h:Ext w w') (hd:w.drawn≤w'.drawn):∃ q os,w'=grow (w.drewN q) os:=by
 refine ⟨w'.drawn-w.drawn,w'.heap.extract w.heap.size w'.heap.size,?_⟩
 have hh:w'.heap=w.heap++w'.heap.extract w.heap.size w'.heap.size:=by
  apply Array.ext_getElem?
  intro i
  have hs:=h.size
  rw [Array.getElem?_append]
  split
  ·rename_i hi;exact h.block i hi
  ·rename_i hi
   rw [Array.getElem?_extract]
   split
   ·congr 1;omega
   ·rw [Array.getElem?_eq_none];omega
 have ho:=h.os
 have ht:=h.tape
 have hu:=h.output
 cases w
 cases w'
 simp only [grow,World.drewN] at *
 subst ho ht hu
 congr 1
 omega
theorem sort_only {α:Type} [Inhabited α] (enc:α→Value) (w:World) (blk off m:Nat) (dk:Array α) (os:Array Obj):Only blk w (sortWorld enc w blk off m dk os):=by
 refine ⟨rfl,rfl,rfl,?_,?_⟩
 ·simp [sortWorld,grow,putRow,mapBlock,Sort.ahead]
 ·intro k hk hne
  have hne:blk≠k:=fun e=>hne (by rw [e])
  simp only [sortWorld,grow,putRow,mapBlock,Sort.ahead]
  rw [Array.getElem?_append_left (by simpa using hk),Array.getElem?_modify,if_neg hne]
theorem cfR_or (rs:List Bs) (x y:Fin (rs.map valI).length) (hx:x.val<rs.length) (hy:y.val<rs.length):cfR (rs.map valI) x y=orI (cmpI (valI (rs[y.val]'hy)) (valI (rs[x.val]'hx))) (cmpI (x.val:Int) (y.val:Int)):=by
 unfold cfR orI
 simp only [Fin.getElem_fin,List.getElem_map]
theorem swoR (r:List Int):SWO (ltOf (cfR r)):=by
 have e:ltOf (cfR r)=ltR r:=rfl
 rw [e]
 refine ⟨?_,?_,?_⟩
 ·intro x;rw [← Bool.not_eq_true,ltR_iff];omega
 ·intro x y z;rw [ltR_iff,ltR_iff,ltR_iff];omega
 ·intro x y z;rw [← Bool.not_eq_true,← Bool.not_eq_true,← Bool.not_eq_true,ltR_iff,ltR_iff,ltR_iff];omega
theorem posSort (rs:List Bs) (hs:∀ x ∈ rs,x.length≤100000) (h0:0<rs.length) (hn:rs.length≤100000) (A:Option Addr) (c g bI cap:Nat) (w:World) (hK:∀ W,Only bI w W→Env W∧Blk W g 106 #[.slice A rs.length c]∧RdS W A rs)
  (hI:RowI w bI cap (List.range rs.length)) :
  Calls Tryz.prog 311 #[.slice (some ⟨bI,0,none⟩) rs.length cap,.func (.func 312) #[] #[.pointer (some ⟨g,0,none⟩)]] w fun e w' =>
   e = .returned (.tuple #[])∧Only bI w w'∧RdI w' (some ⟨bI,0,none⟩) ((ordR (rs.map valI)).map (·.val)):=by
 have hl:(rs.map valI).length=rs.length:=List.length_map ..
 haveI:Inhabited (Fin (rs.map valI).length):=⟨⟨0,by omega⟩⟩
 let enc:Fin (rs.map valI).length→Value:=fun i => .int .i64 (i.val:Int)
 have hsz:(List.finRange (rs.map valI).length).toArray.size=rs.length:=by simp
 have hH:Holds enc w bI 0 (List.finRange (rs.map valI).length).toArray:=by
  intro j hj
  rw [hsz] at hj
  refine ⟨?_,hI.frozen _⟩
  rw [Nat.zero_add,hI.cell (k:=j) (x:=j) (by simp [hj])]
  rw [getElem!_pos _ j (by rw [hsz];exact hj)]
  simp [enc]
 have hcmp:CmpLays1 Tryz.prog 312 #[.pointer (some ⟨g,0,none⟩)] enc (cfR (rs.map valI)) bI 0 (List.finRange (rs.map valI).length).toArray.size w:=by
  intro m os dk _ x y
  obtain ⟨hE,hB,hA⟩:=hK _ (sort_only enc w bI 0 m dk os)
  refine (calls_drawn (posLess rs hs A c g x.val y.val (by omega) (by omega) _ hE hB hA)).mono ?_
  rintro e w' ⟨⟨rfl,hx'⟩,hd⟩
  exact ⟨by rw [cfR_or rs x y (by omega) (by omega)],ext_grow hx' (hd _ rfl)⟩
 have h:=Any.slices_SortFunc_total Tryz.sortL enc (fun _=>rfl) (cfR (rs.map valI)) (swoR _) 312 #[.pointer (some ⟨g,0,none⟩)] bI 0 cap (List.finRange (rs.map valI).length).toArray w (fun _ _=>by rfl) hcmp hH hI.lt (by rw [hsz];omega) (by
  intro x y h1 h2
  have e:ltOf (cfR (rs.map valI))=ltR (rs.map valI):=rfl
  rw [e,← Bool.not_eq_true,ltR_iff] at h1 h2
  apply Fin.ext
  omega)
 rw [hsz] at h
 refine h.mono ?_
 rintro e w' ⟨rfl,m,os,rfl⟩
 refine ⟨rfl,sort_only _ _ _ _ _ _ _,?_⟩
 have hl2:(ordR (rs.map valI)).length=rs.length:=by rw [ordR_len,hl]
 have hh:=holds_sortWorld enc w bI 0 m _ (ordR (rs.map valI)).toArray os hI.lt hH (by simp [hl2])
 have ho:=sort_only enc w bI 0 m (ordR (rs.map valI)).toArray os
 refine ⟨by simp [icells],fun _=>⟨bI,0,rfl,Nat.lt_of_lt_of_le hI.lt ho.size,?_⟩⟩
 intro j u hu
 have hj:j<(ordR (rs.map valI)).length:=by
  have:=(List.getElem?_eq_some_iff.1 hu).1
  simpa [icells] using this
 have:=(hh j (by simpa using hj)).1
 refine (show _=_ from this).trans ?_
 rw [← hu,getElem!_pos _ j (by simpa using hj)]
 simp [icells,enc,hj]
end
section
open Go.RowKit
attribute [local go_sem] size_bs toList_bs
def RowS (w:World) (g cap:Nat) (gs:List Bs):Prop:=∃ cur,Row w g 24 1 gs.length cap (scells gs) cur
section
variable {w w':World} {g cap:Nat} {gs:List Bs}
theorem RowS.cell (h:RowS w g cap gs) {k:Nat} {x:Bs} (hk:gs[k]? = some x):w.cell? ⟨g,k,none⟩=some (.string (bs x)):=by
 obtain ⟨cur,h⟩:=h;exact h.cell (by simp [scells,hk])
theorem RowS.frozen (h:RowS w g cap gs) (k:Nat):w.frozen? ⟨g,k,none⟩=false:=by
 obtain ⟨cur,h⟩:=h;exact h.frozen k
theorem RowS.lt (h:RowS w g cap gs):g<w.heap.size:=by obtain ⟨cur,h⟩:=h;exact h.blk.lt
theorem RowS.reads (h:RowS w g cap gs):RdS w (some ⟨g,0,none⟩) gs:=by obtain ⟨cur,h⟩:=h;exact h.reads
theorem RowS.ext (h:RowS w g cap gs) (hx:Ext w w'):RowS w' g cap gs:=by obtain ⟨cur,h⟩:=h;exact ⟨cur,h.ext hx⟩
theorem RowS.set_ (h:RowS w g cap gs) (k:Nat) (x:Bs):RowS (w.setCell ⟨g,k,none⟩ (.string (bs x))) g cap (gs.set k x):=by
 obtain ⟨cur,h⟩:=h
 have h1:=h.blk.set_ k (.string (bs x))
 rw [List.setIfInBounds_toArray] at h1
 refine ⟨cur.set k (.string (bs x)),h1,by simp [scells],by simpa using h.le,h.big,by simpa using h.full,?_⟩
 rw [List.length_set,List.take_set,h.take];simp [scells,List.map_set]
theorem RowS.far (h:RowS w g cap gs) {g':Nat} (hne:g≠g') (k:Nat) (u:Value):RowS (w.setCell ⟨g',k,none⟩ u) g cap gs:=by
 obtain ⟨cur,h⟩:=h
 exact ⟨cur,{ h with blk:=h.blk.far (p:=⟨g',k,none⟩) hne u }⟩
theorem RowS.only (h:RowS w g cap gs) {g':Nat} (ho:Only g' w w') (hne:g≠g'):RowS w' g cap gs:=by
 obtain ⟨cur,h⟩:=h
 exact ⟨cur,{ h with blk:=(ho.block g h.blk.lt (by intro e;injection e with e;exact hne e)).trans h.blk }⟩
theorem RowS.new {n:Nat} (hn:n≤3000000) (h:Blk w g 24 (List.replicate n (Value.string ⟨#[]⟩)).toArray):RowS w g n (List.replicate n []):=by
 refine ⟨List.replicate n (.string ⟨#[]⟩),h,by simp [scells],by simp,by unfold maxLen;simp;omega,by simp,?_⟩
 simp only [List.length_replicate,Nat.mul_one,List.take_replicate,Nat.min_self,scells,List.map_replicate];rfl
end
theorem RowI.new {w:World} {g n:Nat} (hn:n≤3000000) (h:Blk w g 3 (List.replicate n (Value.int .i64 0)).toArray):RowI w g n (List.replicate n 0) :=
 ⟨List.replicate n (.int .i64 0),h,by rw [icells_rep];simp,by simp,by unfold maxLen;simp;omega,by simp,by rw [icells_rep];simp⟩
theorem strInfo:(Tryz.prog.info? 24).map (fun i=>(i.zero,i.size,i.bytes))=some (some (.string ⟨#[]⟩),1,16):=by kernel_rfl
theorem makeS (n:Nat) (hn:n≤3000000) (w:World):(Instr.makeSlice 106 (.int .i64 (n:Int)) (.int .i64 (n:Int))).run Tryz.prog w = .ok (.slice (some ⟨w.heap.size,0,none⟩) n n) (w.alloc (.cells (List.replicate n (Value.string ⟨#[]⟩)).toArray 24)):=by
 obtain ⟨i0,hI,hz0,hz1,hz2⟩:=info_parts strInfo
 have h:=run_make (P:=Tryz.prog) w 106 24 i0 _ Tryz.underlying106 hI hz0 .i64 .i64 (n:Int) (n:Int) (by omega) (by omega) (by rw [hz2];omega) (by omega)
 rw [hz1,Int.toNat_natCast,Nat.mul_one] at h
 have e:madeCells (Value.string ⟨#[]⟩).cells n=(List.replicate n (Value.string ⟨#[]⟩)).toArray:=by
  rw [← toList_madeCells_one];rfl
 rw [e] at h
 exact h
theorem makeI2 (n:Nat) (hn:n≤3000000) (w:World):(Instr.makeSlice 206 (.int .i64 (n:Int)) (.int .i64 (n:Int))).run Tryz.prog w = .ok (.slice (some ⟨w.heap.size,0,none⟩) n n) (w.alloc (.cells (List.replicate n (Value.int .i64 0)).toArray 3)):=by
 obtain ⟨i0,hI,hz0,hz1,hz2⟩:=info_parts i64Info
 have h:=run_make (P:=Tryz.prog) w 206 3 i0 _ Tryz.underlying206 hI hz0 .i64 .i64 (n:Int) (n:Int) (by omega) (by omega) (by rw [hz2];omega) (by omega)
 rw [hz1,Int.toNat_natCast,Nat.mul_one] at h
 have e:madeCells (Value.int .i64 0).cells n=(List.replicate n (Value.int .i64 0)).toArray:=by
  rw [← toList_madeCells_one];rfl
 rw [e] at h
 exact h
def mixL {α:Type} (l:List α) (d:α) (k:Nat):List α:=l.take k++List.replicate (l.length-k) d
section
variable {α:Type} {l:List α} {d:α} {k:Nat}
theorem mixL_len (hk:k≤l.length):(mixL l d k).length=l.length:=by simp [mixL];omega
theorem mixL_zero:mixL l d 0=List.replicate l.length d:=by simp [mixL]
theorem mixL_full:mixL l d l.length=l:=by simp [mixL]
theorem mixL_at (hk:k<l.length):(mixL l d k)[k]? = some d:=by
 have e:(l.take k).length=k:=by rw [List.length_take];omega
 unfold mixL
 rw [List.getElem?_append_right (by omega),e,Nat.sub_self,List.getElem?_replicate,if_pos (by omega)]
theorem mixL_set (hk:k<l.length):(mixL l d k).set k (l[k]'hk)=mixL l d (k+1):=by
 have e:(l.take k).length=k:=by rw [List.length_take];omega
 unfold mixL
 rw [List.set_append_right _ _ (by omega),e,Nat.sub_self,List.take_succ_eq_append_getElem hk,List.append_assoc]
 congr 1
 obtain ⟨m,hm⟩:∃ m,l.length-k=m+1:=⟨l.length-k-1,by omega⟩
 rw [hm,show l.length-(k+1)=m by omega,List.replicate_succ]
 rfl
end
def ThreeAt (n:Nat) (w:World) (s6 s7:Value) (wx:World):Prop :=
 ∃ P R G,s6 = .slice (some ⟨P,0,none⟩) n n∧s7 = .pointer (some ⟨G,0,none⟩)∧P≠R∧P≠G∧R≠G∧w.heap.size≤P∧w.heap.size≤R∧w.heap.size≤G ∧
   RowS wx P n (List.replicate n [])∧RowS wx R n (List.replicate n [])∧Blk wx G 106 #[.slice (some ⟨R,0,none⟩) n n]∧Ext w wx
end
section
open Go.RowKit Go.Shelf
attribute [local go_sem] size_bs toList_bs
theorem Blk.only' {w w':World} {g g':Nat} {t:TypeId} {cs:Array Value} (h:Blk w g t cs) (ho:Only g' w w') (hp:g≠g'):Blk w' g t cs:=(ho.block g h.lt (by intro e;injection e with e;exact hp e)).trans h
theorem RowS.new' {w:World} {g n:Nat} (hn:n≤3000000) (h:Blk w g 24 (Array.replicate n (Value.string ⟨#[]⟩))):RowS w g n (List.replicate n []) :=
 RowS.new hn (by rw [List.toArray_replicate];exact h)
theorem RowI.new' {w:World} {g n:Nat} (hn:n≤3000000) (h:Blk w g 3 (Array.replicate n (Value.int .i64 0))):RowI w g n (List.replicate n 0) :=
 RowI.new hn (by rw [List.toArray_replicate];exact h)
def prtS (T:Int) (ls:List Bs):List Bs:=(prtL T (ls.map valI)).map ofI
def rstS (T:Int) (ls:List Bs):List Bs:=(rstL T (ls.map valI)).map ofI
theorem prtS_len (T:Int) (ls:List Bs):(prtS T ls).length=ls.length:=by simp [prtS,prtL]
theorem rstS_len (T:Int) (ls:List Bs):(rstS T ls).length=ls.length:=by simp [rstS,rstL]
theorem prtS_at (T:Int) (ls:List Bs) {k:Nat} (hk:k<ls.length) (h:k<(prtS T ls).length):(prtS T ls)[k]'h=ofI (T*valI (ls[k]'hk) / sumV ls):=by simp [prtS,prtL,sumV]
theorem rstS_at (T:Int) (ls:List Bs) {k:Nat} (hk:k<ls.length) (h:k<(rstS T ls).length):(rstS T ls)[k]'h=ofI (T*valI (ls[k]'hk) % sumV ls):=by simp [rstS,rstL,sumV]
def leftV (T:Int) (ls:List Bs) (k:Nat):Int:=T-((prtL T (ls.map valI)).take k).sum
theorem leftV_succ (T:Int) (ls:List Bs) {k:Nat} (hk:k<ls.length):leftV T ls k-T*valI (ls[k]'hk) / sumV ls=leftV T ls (k+1):=by
 have hl:k<(prtL T (ls.map valI)).length:=by simpa [prtL] using hk
 unfold leftV
 rw [List.take_succ_eq_append_getElem hl,List.sum_append]
 have:(prtL T (ls.map valI))[k]'hl=T*valI (ls[k]'hk) / sumV ls:=by simp [prtL,sumV]
 rw [this];simp;omega
theorem leftV_full (T:Int) (ls:List Bs):leftV T ls ls.length=missN T (ls.map valI):=by
 unfold leftV missN
 rw [List.take_of_length_le (by simp [prtL])]
theorem sum_nonneg (l:List Int) (h:∀ x ∈ l,0≤x):0≤l.sum:=by
 induction l with
 |nil=>simp
 |cons a r ih=>rw [List.sum_cons];have:=h a (by simp);have:=ih (fun x hx=>h x (by simp [hx]));omega
theorem prt_nonneg {T:Int} {ls:List Bs} (h0:0≤T) (hW:WtOK ls):∀ x ∈ prtL T (ls.map valI),0≤x:=by
 intro x hx
 obtain ⟨y,hy,rfl⟩:=List.mem_map.1 hx
 obtain ⟨z,hz,rfl⟩:=List.mem_map.1 hy
 exact Int.ediv_nonneg (Int.mul_nonneg h0 (hW.nn z hz)) (Int.le_of_lt hW.sum)
theorem leftV_bounds {T:Int} {ls:List Bs} (h0:0≤T) (hW:WtOK ls) (k:Nat):0≤leftV T ls k∧leftV T ls k≤T:=by
 have h1:=prt_nonneg h0 hW
 have h2:=(miss_bounds (T:=T) (ws:=ls.map valI) hW.sum).1
 have h3:=sum_nonneg _ (fun x hx=>h1 x (List.mem_of_mem_take (i:=k) hx))
 have h4:=sum_nonneg _ (fun x hx=>h1 x (List.mem_of_mem_drop (i:=k) hx))
 have h5:(prtL T (ls.map valI)).sum=((prtL T (ls.map valI)).take k).sum+((prtL T (ls.map valI)).drop k).sum:=by rw [← List.sum_append,List.take_append_drop]
 unfold missN at h2
 unfold leftV
 omega
theorem leftV_lenL {L:Nat} {t:Bs} {ls:List Bs} (ht:t.length≤L) (h0:0≤valI t) (hW:WtOK ls) (k:Nat):(ofI (leftV (valI t) ls k)).length≤L+1:=by
 have h1:=leftV_bounds h0 hW k
 have h2:=valI_lt10 ht
 exact ofI_lt10 (by omega)
theorem prt_le {L:Nat} {t:Bs} {ls:List Bs} (ht:t.length≤L) (hs:∀ x ∈ ls,x.length≤L) (h0:0≤valI t) (hW:WtOK ls):∀ x ∈ prtL (valI t) (ls.map valI),0≤x∧x<((10 ^ (L+L):Nat):Int):=by
 intro x hx
 refine ⟨prt_nonneg h0 hW x hx,?_⟩
 obtain ⟨y,hy,rfl⟩:=List.mem_map.1 hx
 obtain ⟨z,hz,rfl⟩:=List.mem_map.1 hy
 have h1:=valI_lt10 ht
 have h2:=valI_lt10 (hs z hz)
 have h3:=hW.nn z hz
 have h4:0≤valI t*valI z:=Int.mul_nonneg h0 h3
 have h5:=Int.ediv_le_self (a:=valI t*valI z) ((ls.map valI).sum) h4
 have h6:(valI t*valI z).natAbs<10 ^ (L+L):=by
  rw [Int.natAbs_mul,Nat.pow_add]
  exact Nat.mul_lt_mul'' h1 h2
 omega
theorem rst_len {L:Nat} {t:Bs} {ls:List Bs} (ht:t.length≤L) (hs:∀ x ∈ ls,x.length≤L) (h0:0≤valI t) (hW:WtOK ls):∀ x ∈ rstL (valI t) (ls.map valI),(ofI x).length≤L+L+1:=by
 intro x hx
 obtain ⟨y,hy,rfl⟩:=List.mem_map.1 hx
 obtain ⟨z,hz,rfl⟩:=List.mem_map.1 hy
 have h1:=valI_lt10 ht
 have h2:=valI_lt10 (hs z hz)
 have h3:=hW.nn z hz
 have hS:0<(ls.map valI).sum:=hW.sum
 have h4:0≤valI t*valI z:=Int.mul_nonneg h0 h3
 have h5:0≤(ls.map valI).sum*(valI t*valI z / (ls.map valI).sum):=Int.mul_nonneg (Int.le_of_lt hS) (Int.ediv_nonneg h4 (Int.le_of_lt hS))
 have h6:(valI t*valI z).natAbs<10 ^ (L+L):=by
  rw [Int.natAbs_mul,Nat.pow_add]
  exact Nat.mul_lt_mul'' h1 h2
 have h7:=Int.emod_nonneg (valI t*valI z) (show (ls.map valI).sum≠0 by omega)
 have h8:=Int.emod_def (valI t*valI z) (ls.map valI).sum
 exact ofI_lt10 (by omega)
theorem bump_len {L:Nat} {t:Bs} {ls:List Bs} (ht:t.length≤L) (hs:∀ x ∈ ls,x.length≤L) (h0:0≤valI t) (hW:WtOK ls) (j i:Nat) (v:Int) (h:(bumpAll (prtL (valI t) (ls.map valI)) ((topL (valI t) (ls.map valI)).take j))[i]? = some v):(ofI v).length≤L+L+2:=by
 have hi:=(List.getElem?_eq_some_iff.1 h).1
 rw [bumpAll_len] at hi
 rw [bumpAll_get _ _ (topL_nodup.sublist (List.take_sublist _ _)) _ hi] at h
 injection h with h
 have h1:=prt_le ht hs h0 hW _ (List.getElem_mem hi)
 have h2:10 ^ (L+L+1)=10*10 ^ (L+L):=by rw [Nat.pow_succ,Nat.mul_comm]
 have h3:0<10 ^ (L+L):=Nat.pow_pos (by decide)
 refine ofI_lt10 (L:=L+L+1) ?_
 subst h
 split <;> omega
theorem bumpAll_succ (p:List Int) (is:List Nat) {j:Nat} (hj:j<is.length):bumpAll p (is.take (j+1))=(bumpAll p (is.take j)).modify (is[j]'hj) (·+1):=by
 unfold bumpAll
 rw [List.take_succ_eq_append_getElem hj,List.foldl_append];rfl
theorem map_modify (l:List Int) (i:Nat) (v:Int) (h:l[i]? = some v):(l.map ofI).set i (ofI (v+1))=(l.modify i (·+1)).map ofI:=by
 apply List.ext_getElem?
 intro k
 rw [List.getElem?_set,List.getElem?_map,List.getElem?_map,List.getElem?_modify]
 have hi:=(List.getElem?_eq_some_iff.1 h).1
 by_cases e:i=k
 ·subst e;rw [if_pos rfl,if_pos (by simpa using hi),h];simp
 ·rw [if_neg e];simp [e]
structure PosAt (w:World) (P R G O:Nat) (T:Int) (ls:List Bs) (kp kr ko:Nat) (W:World):Prop where
 ext:Ext w W
 p:RowS W P ls.length (mixL (prtS T ls) [] kp)
 r:RowS W R ls.length (mixL (rstS T ls) [] kr)
 o:RowI W O ls.length (mixL (List.range ls.length) 0 ko)
 g:Blk W G 106 #[.slice (some ⟨R,0,none⟩) ls.length ls.length]
structure Apart (w:World) (P R G O:Nat):Prop where
 pr:P≠R
 pg:P≠G
 rg:R≠G
 po:P≠O
 ro:R≠O
 go:G≠O
 p:w.heap.size≤P
 r:w.heap.size≤R
 g:w.heap.size≤G
 o:w.heap.size≤O
section
variable {w:World} {P R G O:Nat} {T:Int} {ls:List Bs} {kp kr ko:Nat} {W W':World}
theorem PosAt.on (h:PosAt w P R G O T ls kp kr ko W) (hx:Ext W W'):PosAt w P R G O T ls kp kr ko W' :=
 ⟨h.ext.trans hx,h.p.ext hx,h.r.ext hx,h.o.ext hx,h.g.ext hx⟩
theorem PosAt.putP (h:PosAt w P R G O T ls kp kr ko W) (ha:Apart w P R G O) (hk:kp<ls.length):PosAt w P R G O T ls (kp+1) kr ko (W.setCell ⟨P,kp,none⟩ (.string (bs (ofI (T*valI (ls[kp]'hk) / sumV ls))))):=by
 refine ⟨h.ext.setCell (p:=⟨P,kp,none⟩) ha.p _,?_,h.r.far ha.pr.symm _ _,h.o.far ha.po.symm _ _,h.g.far (p:=⟨P,kp,none⟩) ha.pg.symm _⟩
 have hl:kp<(prtS T ls).length:=by rw [prtS_len];exact hk
 have:=h.p.set_ kp ((prtS T ls)[kp]'hl)
 rw [mixL_set hl,prtS_at T ls hk] at this
 exact this
theorem PosAt.putR (h:PosAt w P R G O T ls kp kr ko W) (ha:Apart w P R G O) (hk:kr<ls.length):PosAt w P R G O T ls kp (kr+1) ko (W.setCell ⟨R,kr,none⟩ (.string (bs (ofI (T*valI (ls[kr]'hk) % sumV ls))))):=by
 refine ⟨h.ext.setCell (p:=⟨R,kr,none⟩) ha.r _,h.p.far ha.pr _ _,?_,h.o.far ha.ro.symm _ _,h.g.far (p:=⟨R,kr,none⟩) ha.rg.symm _⟩
 have hl:kr<(rstS T ls).length:=by rw [rstS_len];exact hk
 have:=h.r.set_ kr ((rstS T ls)[kr]'hl)
 rw [mixL_set hl,rstS_at T ls hk] at this
 exact this
theorem PosAt.putO (h:PosAt w P R G O T ls kp kr ko W) (ha:Apart w P R G O) (hk:ko<ls.length):PosAt w P R G O T ls kp kr (ko+1) (W.setCell ⟨O,ko,none⟩ (.int .i64 (ko:Int))):=by
 refine ⟨h.ext.setCell (p:=⟨O,ko,none⟩) ha.o _,h.p.far ha.po _ _,h.r.far ha.ro _ _,?_,h.g.far (p:=⟨O,ko,none⟩) ha.go _⟩
 have hl:ko<(List.range ls.length).length:=by simpa using hk
 have:=h.o.set_ ko ((List.range ls.length)[ko]'hl) (by rw [mixL_len (by simp;omega)];exact hl)
 rw [mixL_set hl,List.getElem_range] at this
 exact this
theorem PosAt.cells (h:PosAt w P R G O T ls kp kr ko W) (hp:kp<ls.length) (hr:kr<ls.length) (ho:ko<ls.length) :
  W.cell? ⟨G,0,none⟩=some (.slice (some ⟨R,0,none⟩) ls.length ls.length)∧W.cell? ⟨P,kp,none⟩=some (.string (bs []))∧W.frozen? ⟨P,kp,none⟩=false∧W.cell? ⟨R,kr,none⟩=some (.string (bs []))∧W.frozen? ⟨R,kr,none⟩=false∧W.cell? ⟨O,ko,none⟩=some (.int .i64 0)∧W.frozen? ⟨O,ko,none⟩=false :=
 ⟨boxCell h.g,h.p.cell (mixL_at (by rw [prtS_len];exact hp)),h.p.frozen _,h.r.cell (mixL_at (by rw [rstS_len];exact hr)),h.r.frozen _,h.o.cell (mixL_at (by simpa using ho)),h.o.frozen _⟩
theorem PosAt.made (h:PosAt w P R G O T ls (kp+1) kr ko W) (hp:kp<ls.length):W.cell? ⟨P,kp,none⟩=some (.string (bs (ofI (T*valI (ls[kp]'hp) / sumV ls)))):=by
 have hl:kp<(prtS T ls).length:=by rw [prtS_len];exact hp
 rw [← prtS_at T ls hp hl]
 refine h.p.cell ?_
 unfold mixL
 rw [List.getElem?_append_left (by rw [List.length_take];omega),List.getElem?_take,if_pos (by omega),List.getElem?_eq_getElem hl]
end
theorem allPositive (t:Bs) (ls:List Bs) (A:Option Addr) (c:Nat) (w:World) (hE:Env w) (hA:RdS w A ls) (ht:t.length≤4000) (h0:0≤valI t) (hW:WtOK ls) :
  Calls Tryz.prog 291 #[.string (bs t),.slice A ls.length c] w fun e w'=>∃ P,e = .returned (.slice (some ⟨P,0,none⟩) ls.length ls.length)∧w.heap.size≤P∧RowS w' P ls.length ((splitP (valI t) (ls.map valI)).map ofI)∧Ext w w':=by
 have HE:=Lib.hid hE
 have HA:=Lib.hid hA
 have HWH:=Lib.hid (fun W hx=>allWhole ls A c W (hE.ext hx) (hA.ext hx) hW.sm (by have:=hW.le;omega))
 have HW:=Lib.hid hW
 have hnn:=hW.le
 have hmk:=makeS ls.length (by have:=hW.le;omega)
 have hmi:=makeI2 ls.length (by have:=hW.le;omega)
 have HSUM:Hid (0<sumV ls):=Lib.hid hW.sum
 clear hE hA hW
 have HX:Hid (Ext w w):=Lib.hid (Ext.refl w)
 go_enter Tryz.func291,Tryz.ntmps291
 go_wp2_with fail
 refine (HWH.out _ HX.out).mono ?_
 rintro e w1 ⟨rfl,hx1⟩
 replace HX:=Lib.hid (HX.out.trans hx1)
 clear hx1
 go_upto_region 2 with fail
 go_cut [6,7] (fun s6 s7 wx=>ThreeAt ls.length w1 s6 s7 wx)
 case first =>
  go_region
  all_goals (go_wp2_with fail;go_meet;clear HX hmk hmi;first | (refine ⟨_,(w1.heap.size+1),_,rfl,rfl,?_,?_,?_,?_,?_,?_,RowS.new' ?_ ?_,RowS.new' ?_ ?_,?_,(((Ext.new _ _).alloc _).alloc _).drew⟩ <;> first | omega | ((repeat' first | (refine Blk.newAt _ _ _ _ ?_;solve | simp | (simp only [World.size_alloc];omega)) | refine Blk.drew ?_ | refine Blk.alloc ?_ _);done)) | (refine ⟨_,(w1.heap.size+1+1),_,rfl,rfl,?_,?_,?_,?_,?_,?_,RowS.new' ?_ ?_,RowS.new' ?_ ?_,?_,(((Ext.new _ _).alloc _).alloc _).drew⟩ <;> first | omega | ((repeat' first | (refine Blk.newAt _ _ _ _ ?_;solve | simp | (simp only [World.size_alloc];omega)) | refine Blk.drew ?_ | refine Blk.alloc ?_ _);done)) | (refine ⟨_,w1.heap.size,_,rfl,rfl,?_,?_,?_,?_,?_,?_,RowS.new' ?_ ?_,RowS.new' ?_ ?_,?_,(((Ext.new _ _).alloc _).alloc _).drew⟩ <;> first | omega | ((repeat' first | (refine Blk.newAt _ _ _ _ ?_;solve | simp | (simp only [World.size_alloc];omega)) | refine Blk.drew ?_ | refine Blk.alloc ?_ _);done)))
 case rest =>
  obtain ⟨P,R,G,rfl,rfl,hPR,hPG,hRG,hP,hR,hG,hrp,hrr,hbg,hxw⟩:=hcut
  have HST:Hid (PosAt w P R G wc.heap.size (valI t) ls 0 0 0 (wc.alloc (.cells (Array.replicate ls.length (.int .i64 0)) 3))):=Lib.hid (by
   refine ⟨(HX.out.trans hxw).alloc _,?_,?_,?_,hbg.alloc _⟩
   ·rw [mixL_zero,prtS_len];exact hrp.ext (Ext.new _ _)
   ·rw [mixL_zero,rstS_len];exact hrr.ext (Ext.new _ _)
   ·rw [mixL_zero,List.length_range];exact RowI.new' (by omega) (Blk.new _ _ _))
  have HAP:Hid (Apart w P R G wc.heap.size):=Lib.hid ⟨hPR,hPG,hRG,Nat.ne_of_lt hrp.lt,Nat.ne_of_lt hrr.lt,Nat.ne_of_lt hbg.lt,Nat.le_trans HX.out.size hP,Nat.le_trans HX.out.size hR,Nat.le_trans HX.out.size hG,(HX.out.trans hxw).size⟩
  clear hrp hrr hbg hxw HX HWH hP hR hG hmk hPR hPG hRG
  have HT0:Hid (valI t=leftV (valI t) ls 0):=Lib.hid (by simp [leftV])
  go_wp2_with fail
  clear hmi
  generalize hW0:wc.alloc (.cells (Array.replicate ls.length (.int .i64 0)) 3)=W0 at *
  clear hW0
  generalize wc.heap.size=O at *
  go_loopw [30,9,10,11] (fun i s _ _ wr=>∃ (k:Nat) (l:Bs),k≤ls.length∧i = .int .i64 k∧s = .string (bs l)∧valI l=leftV (valI t) ls k∧l.length≤4001∧(0<k→l=ofI (leftV (valI t) ls k))∧PosAt w P R G O (valI t) ls k k k wr) (fun i _ _ _ _=>ls.length-(intOf i).toNat)
  case atStart=>exact ⟨0,t,by omega,rfl,rfl,HT0.out,by omega,by omega,HST.out⟩
  case round =>
   clear HST HT0
   obtain ⟨k,l,hk,rfl,rfl,hl,hll,hlk,hpos⟩:=hrel
   have HPOS:=Lib.hid hpos
   have HL:=Lib.hid hl
   have HLK:=Lib.hid hlk
   clear hpos hl hlk
   by_cases hlt:k<ls.length
   ·obtain ⟨b,o,rfl,hb,c0⟩:=(HA.out.ext HPOS.out.ext).at_ hlt
    have m1:=mulP t (ls[k]'hlt) (by omega) (by have:=HW.out.sm _ (List.getElem_mem hlt);omega)
    have ml:=mul_len ht (HW.out.sm _ (List.getElem_mem hlt))
    have sl:=sumV_lenL 4000 ls HW.out.sm (by omega)
    have d1:=divP (ofI (valI t*valI (ls[k]'hlt))) (ofI (sumV ls)) (by omega) (by omega) (by rw [valI_ofI];have:=HSUM.out;omega)
    rw [valI_ofI,valI_ofI,divF_pos HSUM.out,modF_pos HSUM.out] at d1
    have pl:=bump_len ht HW.out.sm h0 HW.out 0 k (valI t*valI (ls[k]'hlt) / sumV ls) (by simp [bumpAll,prtL,sumV,hlt])
    have s1:=subP l (ofI (valI t*valI (ls[k]'hlt) / sumV ls)) (by omega) (by omega)
    rw [valI_ofI,HL.out,leftV_succ _ _ hlt] at s1
    have HLEN:=Lib.hid (leftV_lenL ht h0 HW.out (k+1))
    have M1:=Lib.hid m1
    have D1:=Lib.hid d1
    have S1:=Lib.hid s1
    have HC:Hid (∀ W,Ext wr W→W.cell? ⟨G,0,none⟩=some (.slice (some ⟨R,0,none⟩) ls.length ls.length)∧W.cell? ⟨P,k,none⟩=some (.string (bs []))∧W.frozen? ⟨P,k,none⟩=false∧W.cell? ⟨R,k,none⟩=some (.string (bs []))∧W.frozen? ⟨R,k,none⟩=false∧W.cell? ⟨O,k,none⟩=some (.int .i64 0)∧W.frozen? ⟨O,k,none⟩=false):=Lib.hid (fun W hx=>(HPOS.out.on hx).cells hlt hlt hlt)
    have HP1:Hid (∀ W,Ext wr W→PosAt w P R G O (valI t) ls (k+1) (k+1) k ((W.setCell ⟨P,k,none⟩ (.string (bs (ofI (valI t*valI (ls[k]'hlt) / sumV ls))))).setCell ⟨R,k,none⟩ (.string (bs (ofI (valI t*valI (ls[k]'hlt) % sumV ls)))))):=Lib.hid (fun W hx=>((HPOS.out.on hx).putP HAP.out hlt).putR HAP.out hlt)
    have HP2:Hid (∀ W,PosAt w P R G O (valI t) ls (k+1) (k+1) k W→PosAt w P R G O (valI t) ls (k+1) (k+1) (k+1) (W.setCell ⟨O,k,none⟩ (.int .i64 (k:Int)))):=Lib.hid (fun W h=>h.putO HAP.out hlt)
    have HMD:Hid (∀ W,PosAt w P R G O (valI t) ls (k+1) (k+1) k W→W.cell? ⟨P,k,none⟩=some (.string (bs (ofI (valI t*valI (ls[k]'hlt) / sumV ls))))∧W.cell? ⟨O,k,none⟩=some (.int .i64 0)∧W.frozen? ⟨O,k,none⟩=false):=Lib.hid (fun W h=>⟨h.made hlt,h.o.cell (mixL_at (by simpa using hlt)),h.o.frozen _⟩)
    have HXE:Hid (∀ W,PosAt w P R G O (valI t) ls (k+1) (k+1) k W→Env W):=Lib.hid (fun W h=>HE.out.ext h.ext)
    have HER:Hid (Env wr):=Lib.hid (HE.out.ext HPOS.out.ext)
    have hpr:=HAP.out.pr
    have hpg:=HAP.out.pg
    have hrg:=HAP.out.rg
    have hpr':=HAP.out.pr.symm
    have hpg':=HAP.out.pg.symm
    have hrg':=HAP.out.rg.symm
    have hki:(k:Int)<(ls.length:Int):=by omega
    have hk0:(0:Int)≤(k:Int):=by omega
    clear m1 d1 s1 pl ml sl
    generalize ofI (valI t*valI (ls[k]'hlt) / sumV ls)=zq at *
    generalize ofI (valI t*valI (ls[k]'hlt) % sumV ls)=zr at *
    generalize ofI (valI t*valI (ls[k]'hlt))=zm at *
    generalize ls[k]'hlt=x at *
    generalize ofI (sumV ls)=zs at *
    go_upto_region 8 with fail
    go_cut [] (fun wx=>PosAt w P R G O (valI t) ls (k+1) (k+1) k wx)
    case first =>
     obtain ⟨q0,q1,q2,q3,q4,_,_⟩:=HC.out _ (Ext.refl wr)
     have HX:Hid (Ext wr wr.drew):=Lib.hid (Ext.refl wr).drew
     go_region_held3 (fun w'=>w'.cell? ⟨G,0,none⟩=some (.slice (some ⟨R,0,none⟩) ls.length ls.length))
      (go_keep)
      (first
       |(go_at_call 160;((with_reducible refine (M1.out _ (HER.out.ext HX.out)).mono ?_);rintro e w2 ⟨rfl,hx⟩);(replace HX:=Lib.hid (HX.out.trans hx));(obtain ⟨r0,r1,r2,r3,r4,_,_⟩:=HC.out _ HX.out);clear hx M1)
       |(go_at_call 144;((with_reducible refine (D1.out _ (HER.out.ext HX.out)).mono ?_);rintro e w3 ⟨rfl,hx⟩);(replace HX:=Lib.hid (HX.out.trans hx));(obtain ⟨u0,u1,u2,u3,u4,_,_⟩:=HC.out _ HX.out);clear hx D1))
     all_goals (go_wp2_with fail;go_meet;exact HP1.out _ HX.out)
    case rest =>
     obtain ⟨y0,y1,y2⟩:=HMD.out _ hcut
     have HCU:=Lib.hid hcut
     clear hcut
     go_wp2_with fail
     refine (S1.out _ (HXE.out _ HCU.out)).mono ?_
     rintro e w4 ⟨rfl,hx⟩
     obtain ⟨v0,v1,v2⟩:=HMD.out _ (HCU.out.on hx)
     replace HCU:=Lib.hid (HP2.out _ (HCU.out.on hx))
     clear hx
     go_wp2_with fail
     go_roundw
     case rel=>exact ⟨k+1,_,by omega,by go_num,rfl,valI_ofI _,HLEN.out,fun _=>rfl,HCU.out⟩
     case measure=>simp [intOf];omega
   ·have hkn:k=ls.length:=by omega
    have hp0:=HW.out.pos
    have HLL:Hid (l=ofI (((missN (valI t) (ls.map valI)).toNat:Nat):Int)):=Lib.hid (by
     have h1:=(miss_bounds (T:=valI t) (ws:=ls.map valI) HW.out.sum).1
     rw [HLK.out (by omega),hkn,leftV_full,Int.toNat_of_nonneg h1])
    have hml:(missN (valI t) (ls.map valI)).toNat≤ls.length:=by
     have h1:=(miss_bounds (T:=valI t) (ws:=ls.map valI) HW.out.sum).2
     rw [List.length_map] at h1;omega
    have HPR:Hid (RowS wr P ls.length (prtS (valI t) ls)):=Lib.hid (by
     have:=HPOS.out.p
     rw [hkn,← prtS_len (valI t) ls,mixL_full,prtS_len] at this;exact this)
    have HRR:Hid (RowS wr R ls.length (rstS (valI t) ls)):=Lib.hid (by
     have:=HPOS.out.r
     rw [hkn,← rstS_len (valI t) ls,mixL_full,rstS_len] at this;exact this)
    have HOR:Hid (RowI wr O ls.length (List.range ls.length)):=Lib.hid (by
     have:=HPOS.out.o
     rw [hkn] at this
     have e:=mixL_full (l:=List.range ls.length) (d:=0)
     rw [List.length_range] at e
     rw [e] at this;exact this)
    have HBG:=Lib.hid HPOS.out.g
    have HXR:=Lib.hid HPOS.out.ext
    have SM:=Lib.hid (smallP (missN (valI t) (ls.map valI)).toNat (by omega))
    rw [← HLL.out] at SM
    have srt:=posSort (rstS (valI t) ls) (by
      intro x hx
      obtain ⟨y,hy,rfl⟩:=List.mem_map.1 hx
      have:=rst_len ht HW.out.sm h0 HW.out y hy
      omega) (by rw [rstS_len];omega) (by rw [rstS_len];omega) (some ⟨R,0,none⟩) ls.length G O ls.length wr (fun W ho=>by
      rw [rstS_len]
      exact ⟨HE.out.ext (ho.toExt HXR.out HAP.out.o),Blk.only' HBG.out ho HAP.out.go,(HRR.out.only ho HAP.out.ro).reads⟩) (by rw [rstS_len];exact HOR.out)
    have ers:(rstS (valI t) ls).map valI=rstL (valI t) (ls.map valI):=by
     unfold rstS;rw [List.map_map];conv=>rhs;rw [← List.map_id (rstL (valI t) (ls.map valI))]
     apply List.map_congr_left;intro x _;exact valI_ofI x
    rw [ers,rstS_len] at srt
    have SRT:=Lib.hid srt
    clear srt ers HLL HPOS HOR HRR HBG
    subst hkn
    have HTL:Hid ((topL (valI t) (ls.map valI))=((ordR (rstL (valI t) (ls.map valI))).map (·.val)).take (missN (valI t) (ls.map valI)).toNat):=Lib.hid (by unfold topL;rw [List.map_take])
    have HTN:Hid ((topL (valI t) (ls.map valI)).length=(missN (valI t) (ls.map valI)).toNat):=Lib.hid (by
     have h1:=topL_len (T:=valI t) (ws:=ls.map valI) HW.out.sum
     omega)
    have HOL:Hid (((ordR (rstL (valI t) (ls.map valI))).map (·.val)).length=ls.length):=Lib.hid (by rw [List.length_map,ordR_len,rstL_len,List.length_map])
    generalize (missN (valI t) (ls.map valI)).toNat=m at *
    generalize (ordR (rstL (valI t) (ls.map valI))).map (·.val)=od at *
    go_wp2_with fail
    refine SRT.out.mono ?_
    rintro e w5 ⟨rfl,ho,hrd⟩
    have HPR2:=Lib.hid (HPR.out.only ho HAP.out.po)
    have HXR2:=Lib.hid (ho.toExt HXR.out HAP.out.o)
    have HRD:=Lib.hid hrd
    clear ho hrd HPR HXR SRT
    go_wp2_with fail
    refine (SM.out _ (HE.out.ext HXR2.out)).mono ?_
    rintro e w6 ⟨rfl,hx⟩
    replace HPR2:=Lib.hid (HPR2.out.ext hx)
    replace HXR2:=Lib.hid (HXR2.out.trans hx)
    replace HRD:=Lib.hid (HRD.out.ext hx)
    clear hx SM
    have hmi1:(m:Int)≤(ls.length:Int):=by omega
    have hmi0:(0:Int)≤(m:Int):=by omega
    go_wp2_with fail
    go_loopw [73,15] (fun i _ wr=>∃ j:Nat,j≤m∧i = .int .i64 j∧RowS wr P ls.length ((bumpAll (prtL (valI t) (ls.map valI)) ((topL (valI t) (ls.map valI)).take j)).map ofI)∧RdI wr (some ⟨O,0,none⟩) od∧Ext w wr) (fun i _ _=>m-(intOf i).toNat)
    case atStart=>exact ⟨0,by omega,rfl,HPR2.out,HRD.out,HXR2.out⟩
    case round =>
     clear HPR2 HRD HXR2
     obtain ⟨j,hj,rfl,hrow,hrd,hx⟩:=hrel
     have HRO:=Lib.hid hrow
     have HRD:=Lib.hid hrd
     have HX:=Lib.hid hx
     clear hrow hrd hx
     by_cases hjm:j<m
     ·have hjt:j<(topL (valI t) (ls.map valI)).length:=by rw [HTN.out];exact hjm
      have hjo:j<od.length:=by rw [HOL.out];omega
      have eo:od[j]'hjo=(topL (valI t) (ls.map valI))[j]'hjt:=by
       have:(topL (valI t) (ls.map valI))[j]? = od[j]? := by rw [HTL.out,List.getElem?_take,if_pos hjm]
       rw [List.getElem?_eq_getElem hjt,List.getElem?_eq_getElem hjo] at this
       injection this with this
       exact this.symm
      have hin:(topL (valI t) (ls.map valI))[j]'hjt<ls.length:=by
       have:=topL_lt _ (List.getElem_mem hjt)
       rw [List.length_map] at this;exact this
      obtain ⟨b',o',he,_,c1⟩:=HRD.out.at_ hjo
      injection he with he
      injection he with e1 e2 _
      subst e1 e2
      rw [Nat.zero_add,eo] at c1
      have HNX:Hid (bumpAll (prtL (valI t) (ls.map valI)) ((topL (valI t) (ls.map valI)).take (j+1))=_):=Lib.hid (bumpAll_succ (prtL (valI t) (ls.map valI)) (topL (valI t) (ls.map valI)) hjt)
      have hbl:(bumpAll (prtL (valI t) (ls.map valI)) ((topL (valI t) (ls.map valI)).take j)).length=ls.length:=by rw [bumpAll_len,prtL_len,List.length_map]
      have HBLN:=Lib.hid (bump_len ht HW.out.sm h0 HW.out j)
      generalize (topL (valI t) (ls.map valI))[j]'hjt=i at *
      generalize hB1:bumpAll (prtL (valI t) (ls.map valI)) ((topL (valI t) (ls.map valI)).take (j+1))=B1 at *
      have HB1:=Lib.hid hB1
      clear hB1
      generalize bumpAll (prtL (valI t) (ls.map valI)) ((topL (valI t) (ls.map valI)).take j)=B0 at *
      obtain ⟨v,hv⟩:∃ v,B0[i]? = some v:=⟨_,List.getElem?_eq_getElem (by omega)⟩
      have hvl:=HBLN.out i v hv
      have hmod:=map_modify B0 i v hv
      rw [← HNX.out] at hmod
      have HMOD:=Lib.hid hmod
      have pc:=HRO.out.cell (k:=i) (x:=ofI v) (by rw [List.getElem?_map,hv];rfl)
      have a1:Pure 21 #[.string (bs (ofI v)),.string ⟨#[49]⟩] (.string (bs (ofI (v+1)))):=by
       have:=addP (ofI v) [49] (by omega) (by decide)
       rw [valI_ofI,show valI [49]=1 by decide] at this
       exact this
      have A1:=Lib.hid a1
      have HCC:Hid (∀ W,Ext wr W→W.cell? ⟨P,i,none⟩=some (.string (bs (ofI v)))∧W.frozen? ⟨P,i,none⟩=false):=Lib.hid (fun W hx=>⟨(HRO.out.ext hx).cell (by rw [List.getElem?_map,hv];rfl),(HRO.out.ext hx).frozen _⟩)
      have hii:(i:Int)<(ls.length:Int):=by omega
      have hi0:(0:Int)≤(i:Int):=by omega
      have hjj:(j:Int)<(m:Int):=by omega
      have hj0:(0:Int)≤(j:Int):=by omega
      clear a1 hmod hv hvl HBLN HNX eo hbl hjt hjo
      generalize ofI v=z0 at *
      generalize ofI (v+1)=z1 at *
      go_wp2_with fail
      refine (A1.out _ (HE.out.ext HX.out)).mono ?_
      rintro e w7 ⟨rfl,hx⟩
      obtain ⟨d0,d1⟩:=HCC.out _ hx
      have HR2:=Lib.hid ((HRO.out.ext hx).set_ i z1)
      rw [HMOD.out] at HR2
      have HRD2:=Lib.hid (RdI.far (g:=P) (i:=i) (HRD.out.ext hx) (.string (bs z1)) (fun _ b o he=>by injection he with he;injection he with e1 _ _;rw [← e1];exact HAP.out.po.symm))
      have HX2:=Lib.hid ((HX.out.trans hx).setCell (p:=⟨P,i,none⟩) HAP.out.p (.string (bs z1)))
      clear hx
      go_wp2_with fail
      go_roundw
      case rel=>exact ⟨j+1,by omega,by go_num,by rw [HB1.out];exact HR2.out,HRD2.out,HX2.out⟩
      case measure=>simp [intOf];omega
     ·have HFIN:Hid (bumpAll (prtL (valI t) (ls.map valI)) ((topL (valI t) (ls.map valI)).take j)=splitP (valI t) (ls.map valI)):=Lib.hid (by
       rw [List.take_of_length_le (by rw [HTN.out];omega)];rfl)
      rw [HFIN.out] at HRO
      go_wp2_with fail
      go_ret
      exact ⟨P,rfl,HAP.out.p,HRO.out,HX.out⟩
end
end Go.Proofs.YthgpheopnhajaaaGreatDoor
