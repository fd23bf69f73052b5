/- The seat's texts, part U26. -/
import Derived.Test.YthgpheopnhajaaaGreatDoorU23
import Derived.Test.YthgpheopnhajaaaGreatDoorU25
import Derived.BigQuiet
import Derived.Deep.RegionLaw
import Derived.Deep.AppendLies
import Derived.Shelf.Spec.SlicesInsertGrow
import Derived.IntWalk
set_option maxRecDepth 100000
set_option maxHeartbeats 8000000
namespace Go.Proofs.YthgpheopnhajaaaGreatDoor
section
open Go.RowKit Go.Shelf
attribute [local go_sem] size_bs toList_bs
theorem mgWt1 (x:LotV) (W:World):Calls Tryz.prog 108 #[lv x] W fun e w'=>e = .returned (.string (bs x.q))∧Ext W w':=by
 have HX:Hid (Ext W (W.alloc (.cells (lc x) 71))):=Lib.hid (Ext.new _ _)
 go_enter Tryz.func108,Tryz.ntmps108
 go_wp2_with fail
 go_ret
 exact ⟨rfl,HX.out⟩
theorem mgWt2 (x:LotV) (W:World):Calls Tryz.prog 110 #[lv x] W fun e w'=>e = .returned (.string (bs x.c))∧Ext W w':=by
 have HX:Hid (Ext W (W.alloc (.cells (lc x) 71))):=Lib.hid (Ext.new _ _)
 go_enter Tryz.func110,Tryz.ntmps110
 go_wp2_with fail
 go_ret
 exact ⟨rfl,HX.out⟩
def shWho (s:Nat):Option Nat:=if 13≤s∧s≤20 then some (s-13) else if s=10 then some 8 else if s=11 then some 9 else none
theorem shWho_inj {s i:Nat} (h:shWho s=some i):(i≤7∧s=i+13)∨(i=8∧s=10)∨(i=9∧s=11):=by
 unfold shWho at h
 split at h
 ·injection h with h;omega
 ·split at h
  ·injection h with h;omega
  ·split at h
   ·injection h with h;omega
   ·cases h
structure ShFit (Wd:World) (A:Option Addr) (c:Nat) (t1 t2:Bs) (ls:List LotV) (s:Nat) (v:Value) (w:World):Prop where
 a13:s=13→v = .string (bs t1)
 a17:s=17→v = .string (bs t2)
 sl:s=14∨s=18→v = .slice A ls.length c
 fn:s=15∨s=19→v = .func (.func 108) #[] #[]
 a16:s=16→∃ P,v = .slice (some ⟨P,0,none⟩) ls.length ls.length∧RowS w P ls.length (DivT (·.q) t1 ls)
 a20:s=20→∃ P,v = .slice (some ⟨P,0,none⟩) ls.length ls.length∧RowS w P ls.length (DivT (·.q) t2 ls)
 bx:s=10∨s=11→∃ g u,v = .pointer (some ⟨g,0,none⟩)∧Wd.heap.size≤g∧Blk w g 106 #[u]
structure ShM (Wd:World) (listed:Array Bool) (val:Nat→Value) (w:World):Prop where
 ext:Ext Wd w
 ne:listed.getD 8 false=true→listed.getD 9 false=true→val 10≠val 11
 p10:listed.getD 10 false=true→listed.getD 3 false=true∧listed.getD 8 false=true∧listed.getD 9 false=true
 p11:listed.getD 11 false=true→listed.getD 7 false=true∧listed.getD 8 false=true∧listed.getD 9 false=true∧listed.getD 10 false=true
 s10:listed.getD 10 false=true→∃ g,val 10 = .pointer (some ⟨g,0,none⟩)∧Blk w g 106 #[val 16]
 s11:listed.getD 11 false=true→∃ g,val 11 = .pointer (some ⟨g,0,none⟩)∧Blk w g 106 #[val 20]
section
variable {Wd:World} {A:Option Addr} {c:Nat} {t1 t2:Bs} {ls:List LotV} {w w':World}
theorem ShFit.ext (hx:Ext w w') (s:Nat) (u:Value) (h:ShFit Wd A c t1 t2 ls s u w):ShFit Wd A c t1 t2 ls s u w' :=
 ⟨h.a13,h.a17,h.sl,h.fn,fun e=>by obtain ⟨P,h1,h2⟩:=h.a16 e;exact ⟨P,h1,h2.ext hx⟩,fun e=>by obtain ⟨P,h1,h2⟩:=h.a20 e;exact ⟨P,h1,h2.ext hx⟩,
  fun e=>by obtain ⟨g,u,h1,h2,h3⟩:=h.bx e;exact ⟨g,u,h1,h2,h3.ext hx⟩⟩
theorem rowS_ne {P g cap:Nat} {l:List Bs} {cs:Array Value} (h:RowS w P cap l) (hb:Blk w g 106 cs):P≠g:=by
 obtain ⟨cur,h⟩:=h
 exact blk_ne h.blk hb (by decide)
theorem ShFit.store {g:Nat} {cs:Array Value} (hb:Blk w g 106 cs) (v:Value) (s:Nat) (u:Value) (h:ShFit Wd A c t1 t2 ls s u w):ShFit Wd A c t1 t2 ls s u (w.setCell ⟨g,0,none⟩ v) :=
 ⟨h.a13,h.a17,h.sl,h.fn,fun e=>by obtain ⟨P,h1,h2⟩:=h.a16 e;exact ⟨P,h1,h2.far (rowS_ne h2 hb) _ _⟩,fun e=>by obtain ⟨P,h1,h2⟩:=h.a20 e;exact ⟨P,h1,h2.far (rowS_ne h2 hb) _ _⟩,
  fun e=>by
   obtain ⟨g2,u2,h1,h2,h3⟩:=h.bx e
   by_cases e2:g2=g
   ·subst e2;exact ⟨g2,v,h1,h2,h3.set_ 0 v⟩
   ·exact ⟨g2,u2,h1,h2,h3.far (p:=⟨g,0,none⟩) e2 _⟩⟩
variable {listed:Array Bool} {val:Nat→Value}
theorem ShM.grow (h:ShM Wd listed val w) (hx:Ext w w') {i d:Nat} (v:Value) (hi:listed.getD i true=false) (hw:shWho d=some i) (h8:i≠8) (h9:i≠9):ShM Wd (listed.setIfInBounds i true) (upd val d v) w':=by
 have hn:listed.getD i false=false:=by
  rw [Array.getD_eq_getD_getElem?] at hi ⊢
  cases e:listed[i]? with
  |none=>rfl
  |some x=>rw [e] at hi;exact hi
 have hin:=shWho_inj hw
 have back:∀ j,j≠i→(listed.setIfInBounds i true).getD j false=true→listed.getD j false=true:=fun j hj hl=>by
  rcases listed_set hl with e | e
  ·exact absurd e hj
  ·exact e
 have h10:upd val d v 10=val 10:=by unfold upd;rw [if_neg (by omega)]
 have h11:upd val d v 11=val 11:=by unfold upd;rw [if_neg (by omega)]
 refine ⟨h.ext.trans hx,fun a b=>?_,fun a=>?_,fun a=>?_,fun a=>?_,fun a=>?_⟩
 ·rw [h10,h11];exact h.ne (back 8 (by omega) a) (back 9 (by omega) b)
 ·have:=h.p10 (back 10 (by omega) a);exact ⟨up_listed this.1,up_listed this.2.1,up_listed this.2.2⟩
 ·have:=h.p11 (back 11 (by omega) a);exact ⟨up_listed this.1,up_listed this.2.1,up_listed this.2.2.1,up_listed this.2.2.2⟩
 ·have a':=back 10 (by omega) a
  have hne:i≠3:=by rintro rfl;rw [(h.p10 a').1] at hn;cases hn
  obtain ⟨g,e1,e2⟩:=h.s10 a'
  have h16:upd val d v 16=val 16:=by unfold upd;rw [if_neg (by omega)]
  exact ⟨g,by rw [h10];exact e1,by rw [h16];exact e2.ext hx⟩
 ·have a':=back 11 (by omega) a
  have hne:i≠7:=by rintro rfl;rw [(h.p11 a').1] at hn;cases hn
  obtain ⟨g,e1,e2⟩:=h.s11 a'
  have h20:upd val d v 20=val 20:=by unfold upd;rw [if_neg (by omega)]
  exact ⟨g,by rw [h11];exact e1,by rw [h20];exact e2.ext hx⟩
theorem ShM.newb (h:ShM Wd listed val w) {i d j e:Nat} {o:Obj} (hi:listed.getD i true=false) (hid:(i=8∧d=10∧j=9∧e=11)∨(i=9∧d=11∧j=8∧e=10))
  (hold:listed.getD j false=true→∃ g,val e = .pointer (some ⟨g,0,none⟩)∧g<w.heap.size):ShM Wd (listed.setIfInBounds i true) (upd val d (.pointer (some ⟨w.heap.size,0,none⟩))) (w.alloc o):=by
 have hn:listed.getD i false=false:=by
  rw [Array.getD_eq_getD_getElem?] at hi ⊢
  cases e:listed[i]? with
  |none=>rfl
  |some x=>rw [e] at hi;exact hi
 have back:∀ j,j≠i→(listed.setIfInBounds i true).getD j false=true→listed.getD j false=true:=fun j hj hl=>by
  rcases listed_set hl with e | e
  ·exact absurd e hj
  ·exact e
 have no10:listed.getD 10 false=true→False:=fun a=>by
  have:=h.p10 a
  rcases hid with ⟨rfl,_⟩ | ⟨rfl,_⟩
  ·rw [this.2.1] at hn;cases hn
  ·rw [this.2.2] at hn;cases hn
 have no11:listed.getD 11 false=true→False:=fun a=>no10 (h.p11 a).2.2.2
 refine ⟨h.ext.alloc _,fun a b=>?_,fun a=>(no10 (back 10 (by omega) a)).elim,fun a=>(no11 (back 11 (by omega) a)).elim,fun a=>(no10 (back 10 (by omega) a)).elim,fun a=>(no11 (back 11 (by omega) a)).elim⟩
 rcases hid with ⟨rfl,rfl,rfl,rfl⟩ | ⟨rfl,rfl,rfl,rfl⟩
 ·obtain ⟨g,e1,e2⟩:=hold (back 9 (by omega) b)
  unfold upd
  rw [if_pos rfl,if_neg (by decide),e1]
  intro hc
  injection hc with hc;injection hc with hc;injection hc with hc _ _;omega
 ·obtain ⟨g,e1,e2⟩:=hold (back 8 (by omega) a)
  unfold upd
  rw [if_neg (by decide),if_pos rfl,e1]
  intro hc
  injection hc with hc;injection hc with hc;injection hc with hc _ _;omega
end
def ShEnds (t1 t2 t3:Bs) (ls:List LotV) (A:Option Addr) (c:Nat) (w:World) (e:Ending) (w':World):Prop :=
 ∃ B0 B1 B2 B3 P1 P2 P3,e = .returned (.func (.func 111) #[] #[.pointer (some ⟨B0,0,none⟩),.pointer (some ⟨B1,0,none⟩),.pointer (some ⟨B2,0,none⟩),.pointer (some ⟨B3,0,none⟩)]) ∧
   Blk w' B0 22 #[.slice A ls.length c]∧Blk w' B1 106 #[.slice (some ⟨P1,0,none⟩) ls.length ls.length]∧Blk w' B2 106 #[.slice (some ⟨P2,0,none⟩) ls.length ls.length]∧Blk w' B3 106 #[.slice (some ⟨P3,0,none⟩) ls.length ls.length] ∧
   RowS w' P1 ls.length (DivT (·.q) t1 ls)∧RowS w' P2 ls.length (DivT (·.q) t2 ls)∧RowS w' P3 ls.length (DivT (·.c) t3 ls)∧Ext w w'∧w.heap.size≤B0
def TotOK (t:Bs):Prop:=t≠[]∧t.length≤3000∧checkI t=0
theorem mgShares (t1 t2 t3:Bs) (ls:List LotV) (A:Option Addr) (c:Nat) (w:World) (hE:Env w) (hA:RdL w A ls) (k1:TotOK t1) (k2:TotOK t2) (k3:TotOK t3) (hq:WtOK (ls.map (·.q))) (hc:WtOK (ls.map (·.c))) (hn:ls.length≤100000) :
  Calls Tryz.prog 55 #[.slice A ls.length c,.string (bs t1),.string (bs t2),.string (bs t3)] w (ShEnds t1 t2 t3 ls A c w):=by
 have D1:=Lib.hid (fun W hx=>mgDivide 108 (·.q) (fun _ _=>by rfl) t1 ls A c W (hE.ext hx) (hA.ext hx) (fun x _ W _=>mgWt1 x W) k1.1 k1.2.1 k1.2.2 hq hn)
 have D2:=Lib.hid (fun W hx=>mgDivide 108 (·.q) (fun _ _=>by rfl) t2 ls A c W (hE.ext hx) (hA.ext hx) (fun x _ W _=>mgWt1 x W) k2.1 k2.2.1 k2.2.2 hq hn)
 have D3:=Lib.hid (fun W hx=>mgDivide 110 (·.c) (fun _ _=>by rfl) t3 ls A c W (hE.ext hx) (hA.ext hx) (fun x _ W _=>mgWt2 x W) k3.1 k3.2.1 k3.2.2 hc hn)
 have HB:=Lib.hid ((Blk.new w 22 #[.slice A ls.length c]).drew)
 have HX:Hid (Ext w (w.alloc (.cells #[.slice A ls.length c] 22)).drew):=Lib.hid (Ext.new _ _).drew
 clear hE hA k1 k2 k3 hq hc
 go_enter Tryz.func55,Tryz.ntmps55
 go_upto_region 2 with fail
 refine wp_region_any (by kernel_rfl) ?_
 change wpAny _ _ _ _ _ _ _ (World.drew (w.alloc (.cells #[.slice A ls.length c] 22)))
 generalize World.drew (w.alloc (.cells #[.slice A ls.length c] 22))=Wd at *
 generalize hX4:w.heap.size=X4 at *
 have lX:∀ W,Ext Wd W→(Instr.loadAt 22 (.pointer (some ⟨X4,0,none⟩))).run Tryz.prog W = .ok (.slice A ls.length c) W:=fun W hx=>by
  have q0:=(HB.out.ext hx).cell 0
  simp only [List.getElem?_toArray,List.getElem?_cons_zero] at q0
  go_simp
 have st:∀ W g u A' n' c',Blk W g 106 #[u]→(Instr.storeAt 106 (.pointer (some ⟨g,0,none⟩)) (.slice A' n' c')).run Tryz.prog W = .ok () (W.setCell ⟨g,0,none⟩ (.slice A' n' c')):=fun W g u A' n' c' hb=>by
  have q0:=hb.cell 0
  have q1:=hb.frozen 0
  simp only [List.getElem?_toArray,List.getElem?_cons_zero] at q0
  go_simp
 refine wpAny_inv (Inv:=FtAt _ _ shWho (ShFit Wd A c t1 t2 ls) (ShM Wd)) ?hend ?hz ?hstep _ _ _ _ (FtInv.start ?hm)
 case hm =>
  have hf:∀ i,(Array.replicate 12 false).getD i false=true→False:=fun i h=>by
   rw [Array.getD_eq_getD_getElem?,Array.getElem?_replicate] at h
   split at h <;> cases h
  exact ⟨Ext.refl _,fun a=>(hf _ a).elim,fun a=>(hf _ a).elim,fun a=>(hf _ a).elim,fun a=>(hf _ a).elim,fun a=>(hf _ a).elim⟩
 case hz=>exact fun listed a w' ⟨val,h⟩=>ready_nil (by have:=h.cnt;omega) h.size
 case hend =>
  rintro f listed a w' ⟨val,h⟩ hr
  have hl:=h.fin hr (by kernel_rfl)
  have hl2:listed=Array.replicate 12 true:=hl
  have t:∀ i,i<12→listed.getD i false=true:=fun i hi=>by rw [hl2,Array.getD_eq_getD_getElem?,Array.getElem?_replicate,if_pos hi];rfl
  obtain ⟨P1,e16,r1⟩:=(h.at_ (s:=16) (by show 16<25;decide) rfl (t 3 (by decide))).2.a16 rfl
  obtain ⟨P2,e20,r2⟩:=(h.at_ (s:=20) (by show 20<25;decide) rfl (t 7 (by decide))).2.a20 rfl
  obtain ⟨g1,e10,b1⟩:=h.m.s10 (t 10 (by decide))
  obtain ⟨g2,e11,b2⟩:=h.m.s11 (t 11 (by decide))
  have hxx:=h.m.ext
  have ha:=h.act
  rw [hl2] at ha
  have ha2:a=({ tmps:=#[.slice A ls.length c,.string (bs t1),.string (bs t2),.string (bs t3),.pointer (some ⟨X4,0,none⟩),undef,undef,undef,.nilFunc,.func (.func 108) #[] #[],val 10,val 11,undef,val 13,val 14,val 15,val 16,val 17,val 18,val 19,val 20,undef,undef,undef,undef],defers:=[] }:Act):=ha.trans (by kernel_rfl)
  rw [e16] at b1
  rw [e20] at b2
  rw [e10,e11] at ha2
  clear ha h hr hl hl2 t
  generalize val 13=u13 at *
  generalize val 14=u14 at *
  generalize val 15=u15 at *
  generalize val 16=u16 at *
  generalize val 17=u17 at *
  generalize val 18=u18 at *
  generalize val 19=u19 at *
  generalize val 20=u20 at *
  subst ha2
  clear e16 e20 e10 e11
  replace HX:=Lib.hid (HX.out.trans hxx)
  replace HB:=Lib.hid (HB.out.ext hxx)
  have R1:=Lib.hid r1
  have R2:=Lib.hid r2
  have B1:=Lib.hid b1
  have B2:=Lib.hid b2
  have q0:=HB.out.cell 0
  simp only [List.getElem?_toArray,List.getElem?_cons_zero] at q0
  clear r1 r2 b1 b2 hxx st lX
  go_wp2_with fail
  refine (D3.out _ HX.out).mono ?_
  rintro e w3 ⟨P3,rfl,r3,_,_,hx3⟩
  replace HX:=Lib.hid (HX.out.trans hx3)
  replace HB:=Lib.hid (HB.out.ext hx3)
  replace R1:=Lib.hid (R1.out.ext hx3)
  replace R2:=Lib.hid (R2.out.ext hx3)
  replace B1:=Lib.hid (B1.out.ext hx3)
  replace B2:=Lib.hid (B2.out.ext hx3)
  have R3:=Lib.hid r3
  clear r3 hx3
  go_wp2_with fail
  go_ret
  exact ⟨X4,g1,g2,w3.heap.size,P1,P2,P3,rfl,HB.out.alloc _,B1.out.alloc _,B2.out.alloc _,Blk.new _ _ _,R1.out.ext (Ext.new _ _),R2.out.ext (Ext.new _ _),R3.out.ext (Ext.new _ _),HX.out.alloc _,by omega⟩
 case hstep =>
  rintro f listed a w' i ⟨val,h⟩ hi
  have hnl:=ready_not hi
  have hlt:i<12:=ready_lt hi
  have hb1:a.tmps.getD 1 undef = .string (bs t1):=h.old (by show 1<25;decide) rfl
  have hb2:a.tmps.getD 2 undef = .string (bs t2):=h.old (by show 2<25;decide) rfl
  have hb4:a.tmps.getD 4 undef = .pointer (some ⟨X4,0,none⟩):=h.old (by show 4<25;decide) rfl
  have hb9:a.tmps.getD 9 undef = .func (.func 108) #[] #[]:=h.old (by show 9<25;decide) rfl
  have hext:=h.m.ext
  obtain rfl | rfl | rfl | rfl | rfl | rfl | rfl | rfl | rfl | rfl | rfl | rfl:i=0∨i=1∨i=2∨i=3∨i=4∨i=5∨i=6∨i=7∨i=8∨i=9∨i=10∨i=11:=by omega
  ·refine stepP_read rfl rfl _ ?_ (h.step hi rfl (by show 13<25;decide) rfl (fun s hs=>by have:=shWho_inj hs;omega) _ w' ⟨fun _=>rfl,fun hs=>absurd hs (by decide),fun hs=>absurd hs (by decide),fun hs=>absurd hs (by decide),fun hs=>absurd hs (by decide),fun hs=>absurd hs (by decide),fun hs=>absurd hs (by decide)⟩ (fun s u hu=>hu) (h.m.grow (Ext.refl _) _ hnl rfl (by decide) (by decide)))
   simp [execOp,eval_tmpM,hb1]
  ·refine stepP_read rfl rfl _ ?_ (h.step hi rfl (by show 14<25;decide) rfl (fun s hs=>by have:=shWho_inj hs;omega) _ w' ⟨fun hs=>absurd hs (by decide),fun hs=>absurd hs (by decide),fun _=>rfl,fun hs=>absurd hs (by decide),fun hs=>absurd hs (by decide),fun hs=>absurd hs (by decide),fun hs=>absurd hs (by decide)⟩ (fun s u hu=>hu) (h.m.grow (Ext.refl _) _ hnl rfl (by decide) (by decide)))
   simp [execOp,eval_tmpM,hb4,lX _ hext]
  ·refine stepP_read rfl rfl _ ?_ (h.step hi rfl (by show 15<25;decide) rfl (fun s hs=>by have:=shWho_inj hs;omega) _ w' ⟨fun hs=>absurd hs (by decide),fun hs=>absurd hs (by decide),fun hs=>absurd hs (by decide),fun _=>rfl,fun hs=>absurd hs (by decide),fun hs=>absurd hs (by decide),fun hs=>absurd hs (by decide)⟩ (fun s u hu=>hu) (h.m.grow (Ext.refl _) _ hnl rfl (by decide) (by decide)))
   simp [execOp,eval_tmpM,hb9]
  ·have l0:=ready_pred hi (p:=0) rfl rfl
   have l1:=ready_pred hi (p:=1) rfl rfl
   have l2:=ready_pred hi (p:=2) rfl rfl
   have e0:=(h.at_ (s:=13) (by show 13<25;decide) rfl l0).1.trans ((h.at_ (s:=13) (by show 13<25;decide) rfl l0).2.a13 rfl)
   have e1:=(h.at_ (s:=14) (by show 14<25;decide) rfl l1).1.trans ((h.at_ (s:=14) (by show 14<25;decide) rfl l1).2.sl (by decide))
   have e2:=(h.at_ (s:=15) (by show 15<25;decide) rfl l2).1.trans ((h.at_ (s:=15) (by show 15<25;decide) rfl l2).2.fn (by decide))
   refine stepP_call rfl rfl (fn:=109) (args:=#[.string (bs t1),.slice A ls.length c,.func (.func 108) #[] #[]]) ?_ (D1.out w' (HX.out.trans hext)) ?_
   ·simp [execOp,eval_tmpM,resolve,invoke,e0,e1,e2,Deferred.ofValue]
    rfl
   ·rintro e w2 ⟨P,rfl,hr,_,_,hx2⟩
    exact ⟨_,rfl,h.step hi rfl (by show 16<25;decide) rfl (fun s hs=>by have:=shWho_inj hs;omega) _ w2 ⟨fun hs=>absurd hs (by decide),fun hs=>absurd hs (by decide),fun hs=>absurd hs (by decide),fun hs=>absurd hs (by decide),fun _=>⟨P,rfl,hr⟩,fun hs=>absurd hs (by decide),fun hs=>absurd hs (by decide)⟩ (fun s u hu=>hu.ext hx2 s u) (h.m.grow hx2 _ hnl rfl (by decide) (by decide))⟩
  ·refine stepP_read rfl rfl _ ?_ (h.step hi rfl (by show 17<25;decide) rfl (fun s hs=>by have:=shWho_inj hs;omega) _ w' ⟨fun hs=>absurd hs (by decide),fun _=>rfl,fun hs=>absurd hs (by decide),fun hs=>absurd hs (by decide),fun hs=>absurd hs (by decide),fun hs=>absurd hs (by decide),fun hs=>absurd hs (by decide)⟩ (fun s u hu=>hu) (h.m.grow (Ext.refl _) _ hnl rfl (by decide) (by decide)))
   simp [execOp,eval_tmpM,hb2]
  ·refine stepP_read rfl rfl _ ?_ (h.step hi rfl (by show 18<25;decide) rfl (fun s hs=>by have:=shWho_inj hs;omega) _ w' ⟨fun hs=>absurd hs (by decide),fun hs=>absurd hs (by decide),fun _=>rfl,fun hs=>absurd hs (by decide),fun hs=>absurd hs (by decide),fun hs=>absurd hs (by decide),fun hs=>absurd hs (by decide)⟩ (fun s u hu=>hu) (h.m.grow (Ext.refl _) _ hnl rfl (by decide) (by decide)))
   simp [execOp,eval_tmpM,hb4,lX _ hext]
  ·refine stepP_read rfl rfl _ ?_ (h.step hi rfl (by show 19<25;decide) rfl (fun s hs=>by have:=shWho_inj hs;omega) _ w' ⟨fun hs=>absurd hs (by decide),fun hs=>absurd hs (by decide),fun hs=>absurd hs (by decide),fun _=>rfl,fun hs=>absurd hs (by decide),fun hs=>absurd hs (by decide),fun hs=>absurd hs (by decide)⟩ (fun s u hu=>hu) (h.m.grow (Ext.refl _) _ hnl rfl (by decide) (by decide)))
   simp [execOp,eval_tmpM,hb9]
  ·have l0:=ready_pred hi (p:=4) rfl rfl
   have l1:=ready_pred hi (p:=5) rfl rfl
   have l2:=ready_pred hi (p:=6) rfl rfl
   have e0:=(h.at_ (s:=17) (by show 17<25;decide) rfl l0).1.trans ((h.at_ (s:=17) (by show 17<25;decide) rfl l0).2.a17 rfl)
   have e1:=(h.at_ (s:=18) (by show 18<25;decide) rfl l1).1.trans ((h.at_ (s:=18) (by show 18<25;decide) rfl l1).2.sl (by decide))
   have e2:=(h.at_ (s:=19) (by show 19<25;decide) rfl l2).1.trans ((h.at_ (s:=19) (by show 19<25;decide) rfl l2).2.fn (by decide))
   refine stepP_call rfl rfl (fn:=109) (args:=#[.string (bs t2),.slice A ls.length c,.func (.func 108) #[] #[]]) ?_ (D2.out w' (HX.out.trans hext)) ?_
   ·simp [execOp,eval_tmpM,resolve,invoke,e0,e1,e2,Deferred.ofValue]
    rfl
   ·rintro e w2 ⟨P,rfl,hr,_,_,hx2⟩
    exact ⟨_,rfl,h.step hi rfl (by show 20<25;decide) rfl (fun s hs=>by have:=shWho_inj hs;omega) _ w2 ⟨fun hs=>absurd hs (by decide),fun hs=>absurd hs (by decide),fun hs=>absurd hs (by decide),fun hs=>absurd hs (by decide),fun hs=>absurd hs (by decide),fun _=>⟨P,rfl,hr⟩,fun hs=>absurd hs (by decide)⟩ (fun s u hu=>hu.ext hx2 s u) (h.m.grow hx2 _ hnl rfl (by decide) (by decide))⟩
  ·refine stepP_read rfl rfl _ ?_ (h.step hi rfl (by show 10<25;decide) rfl (fun s hs=>by have:=shWho_inj hs;omega) (.pointer (some ⟨w'.heap.size,0,none⟩)) (w'.alloc (.cells #[.slice none 0 0] 106)) ⟨fun hs=>absurd hs (by decide),fun hs=>absurd hs (by decide),fun hs=>absurd hs (by decide),fun hs=>absurd hs (by decide),fun hs=>absurd hs (by decide),fun hs=>absurd hs (by decide),fun _=>⟨_,_,rfl,hext.size,Blk.new _ _ _⟩⟩ (fun s u hu=>hu.ext (Ext.new _ _) s u) (h.m.newb (j:=9) (e:=11) hnl (by decide) (fun hj=>by obtain ⟨g,u,h1,h2,h3⟩:=(h.at_ (s:=11) (by show 11<25;decide) rfl hj).2.bx (by decide);exact ⟨g,h1,h3.lt⟩)))
   simp only [execOp]
   go_simp
  ·refine stepP_read rfl rfl _ ?_ (h.step hi rfl (by show 11<25;decide) rfl (fun s hs=>by have:=shWho_inj hs;omega) (.pointer (some ⟨w'.heap.size,0,none⟩)) (w'.alloc (.cells #[.slice none 0 0] 106)) ⟨fun hs=>absurd hs (by decide),fun hs=>absurd hs (by decide),fun hs=>absurd hs (by decide),fun hs=>absurd hs (by decide),fun hs=>absurd hs (by decide),fun hs=>absurd hs (by decide),fun _=>⟨_,_,rfl,hext.size,Blk.new _ _ _⟩⟩ (fun s u hu=>hu.ext (Ext.new _ _) s u) (h.m.newb (j:=8) (e:=10) hnl (by decide) (fun hj=>by obtain ⟨g,u,h1,h2,h3⟩:=(h.at_ (s:=10) (by show 10<25;decide) rfl hj).2.bx (by decide);exact ⟨g,h1,h3.lt⟩)))
   simp only [execOp]
   go_simp
  ·have lp:=ready_pred hi (p:=8) rfl rfl
   have lv:=ready_pred hi (p:=3) rfl rfl
   obtain ⟨g,u,ep,hg,hb⟩:=(h.at_ (s:=10) (by show 10<25;decide) rfl lp).2.bx (by decide)
   obtain ⟨P,ev,hr⟩:=(h.at_ (s:=16) (by show 16<25;decide) rfl lv).2.a16 rfl
   have e1:=(h.at_ (s:=10) (by show 10<25;decide) rfl lp).1.trans ep
   have e2:=(h.at_ (s:=16) (by show 16<25;decide) rfl lv).1.trans ev
   refine stepP_skip rfl rfl (w':=w'.setCell ⟨g,0,none⟩ (.slice (some ⟨P,0,none⟩) ls.length ls.length)) ?_ (h.stepN hi rfl (fun s hs hq=>by have:=shWho_inj hq;omega) _ _ (fun s u hu=>hu.store hb _ s u) ?_)
   ·simp [execOp,eval_tmpM,e1,e2,st _ _ _ _ _ _ hb]
   ·have hnf:listed.getD 10 false=false:=by
     have:=hnl
     rw [Array.getD_eq_getD_getElem?] at this ⊢
     have hsz:=h.size
     have hs2:listed.size=12:=hsz
     rw [Array.getElem?_eq_getElem (by omega)] at this ⊢
     exact this
    have back:∀ j,j≠10→(listed.setIfInBounds 10 true).getD j false=true→listed.getD j false=true:=fun j hj hl=>by
     rcases listed_set hl with e | e
     ·exact absurd e hj
     ·exact e
    refine ⟨hext.setCell (p:=⟨g,0,none⟩) hg _,fun x y=>h.m.ne (back 8 (by decide) x) (back 9 (by decide) y),?_,?_,?_,?_⟩
    ·exact fun _=>⟨up_listed lv,up_listed lp,up_listed (ready_pred hi (p:=9) rfl rfl)⟩
    ·intro x
     have:=(h.m.p11 (back 11 (by decide) x)).2.2.2
     rw [hnf] at this;cases this
    ·exact fun _=>⟨g,ep,by rw [ev];exact hb.set_ 0 _⟩
    ·intro x
     have:=(h.m.p11 (back 11 (by decide) x)).2.2.2
     rw [hnf] at this;cases this
  ·have lp:=ready_pred hi (p:=9) rfl rfl
   have lv:=ready_pred hi (p:=7) rfl rfl
   obtain ⟨g,u,ep,hg,hb⟩:=(h.at_ (s:=11) (by show 11<25;decide) rfl lp).2.bx (by decide)
   obtain ⟨P,ev,hr⟩:=(h.at_ (s:=20) (by show 20<25;decide) rfl lv).2.a20 rfl
   have e1:=(h.at_ (s:=11) (by show 11<25;decide) rfl lp).1.trans ep
   have e2:=(h.at_ (s:=20) (by show 20<25;decide) rfl lv).1.trans ev
   refine stepP_skip rfl rfl (w':=w'.setCell ⟨g,0,none⟩ (.slice (some ⟨P,0,none⟩) ls.length ls.length)) ?_ (h.stepN hi rfl (fun s hs hq=>by have:=shWho_inj hq;omega) _ _ (fun s u hu=>hu.store hb _ s u) ?_)
   ·simp [execOp,eval_tmpM,e1,e2,st _ _ _ _ _ _ hb]
   ·have hnf:listed.getD 11 false=false:=by
     have:=hnl
     rw [Array.getD_eq_getD_getElem?] at this ⊢
     have hsz:=h.size
     have hs2:listed.size=12:=hsz
     rw [Array.getElem?_eq_getElem (by omega)] at this ⊢
     exact this
    have back:∀ j,j≠11→(listed.setIfInBounds 11 true).getD j false=true→listed.getD j false=true:=fun j hj hl=>by
     rcases listed_set hl with e | e
     ·exact absurd e hj
     ·exact e
    refine ⟨hext.setCell (p:=⟨g,0,none⟩) hg _,fun x y=>h.m.ne (back 8 (by decide) x) (back 9 (by decide) y),?_,?_,?_,?_⟩
    ·exact fun x=>by have:=h.m.p10 (back 10 (by decide) x);exact ⟨up_listed this.1,up_listed this.2.1,up_listed this.2.2⟩
    ·exact fun _=>⟨up_listed lv,up_listed (ready_pred hi (p:=8) rfl rfl),up_listed lp,up_listed (ready_pred hi (p:=10) rfl rfl)⟩
    ·intro x
     have x':=back 10 (by decide) x
     obtain ⟨g2,e2',b2⟩:=h.m.s10 x'
     have hne:=h.m.ne (h.m.p10 x').2.1 lp
     refine ⟨g2,e2',b2.far (p:=⟨g,0,none⟩) ?_ _⟩
     rintro rfl
     exact hne (e2'.trans ep.symm)
    ·exact fun _=>⟨g,ep,by rw [ev];exact hb.set_ 0 _⟩
end
section
open Go.RowKit Go.Lib
attribute [local go_sem] size_bs toList_bs
def InsEndsL (g n:Nat) (xs:List Value) (w:World) (e:Ending) (w':World):Prop :=
 ∃ g' cap cur,e = .returned (.slice (some ⟨g',0,none⟩) (n+1) cap)∧(g'=g∨w.heap.size≤g')∧Row w' g' 71 7 (n+1) cap xs cur∧Only g w w'
theorem insertShiftL (g cap n i vb:Nat) (xs cur vs:List Value) (w:World) (hr:Row w g 71 7 n cap xs cur) (h1:∀ u ∈ xs,u.oneCell'=true) (hvb:Blk w vb 71 vs.toArray) (hne:vb≠g) (hv:vs.length=7) (h1v:∀ u ∈ vs,u.oneCell'=true) (hi:i<n) (hroom:n+1≤cap) (hcap:cap≤9223372036854775807) :
  Calls Tryz.prog 113 #[.slice (some ⟨g,0,none⟩) n cap,.int .i64 i,.slice (some ⟨vb,0,none⟩) 1 1] w (InsEndsL g n (xs.take (i*7)++vs++xs.drop (i*7)) w):=by
 have hsz:(Tryz.prog.info? 71).map (·.size)=some 7:=by
  obtain ⟨i0,hI,_,hz1,_⟩:=info_parts lotInfo
  rw [hI];simp [hz1]
 have hov:∀ lb cb,(callFunc 177 #[.slice (some ⟨vb,0,none⟩) 1 1,.slice (some ⟨g,(i+1)*7,none⟩) lb cb]).run Tryz.prog w = .ok (.value (.bool false)) w:=fun lb cb=>by
  rw [run_callFunc_extern Tryz.func177 (by kernel_rfl) (by kernel_rfl) (by kernel_rfl) (e:=Extern.SlicesOverlaps.overlaps #[22,22] #[4]) (by kernel_rfl),
   Lib.run_overlaps_apart w 22 4 71 Tryz.underlying22 7 Tryz.sizeOf71 ⟨vb,0,none⟩ ⟨g,(i+1)*7,none⟩ 1 1 lb cb hne 71 71 vs.toArray.size cur.toArray.size hvb.shape hr.blk.shape (by simp only [List.size_toArray,hr.full];omega) (hvb.frozen 0) (hvb.frozen _)]
  rfl
 have hdl:(xs.drop (i*7)).length=(n-i)*7:=by rw [List.length_drop,hr.len,← Nat.sub_mul]
 have hcp1:∀ ty dc sc,(Builtin.copy_ #[22,22] ty #[.slice (some ⟨g,(i+1)*7,none⟩) (n-i) dc,.slice (some ⟨g,i*7,none⟩) (n+1-i) sc]).run Tryz.prog w.drew = .ok (goInt (n-i:Nat)) (w.drew.setCells g ((i+1)*7) (xs.drop (i*7))):=fun ty dc sc =>
  run_copy_k w.drew _ _ ty 71 7 g ((i+1)*7) (n-i) dc ⟨g,i*7,none⟩ (n+1-i) sc (xs.drop (i*7)) Tryz.underlying22 hsz (n-i) (by simp only [Nat.min_def];split <;> omega) hdl
   (fun j v hj=>by rw [Addr.add_lit];exact hr.drew.cell (by rwa [List.getElem?_drop] at hj))
   (fun j hj=>hr.drew.isSome_ (by omega)) (fun j _=>hr.drew.frozen _) (fun v hv=>h1 v (List.mem_of_mem_drop hv))
 have hfull:=hr.full
 have hrl:=hr.len
 have hW1:Row (w.drew.setCells g ((i+1)*7) (xs.drop (i*7))) g 71 7 0 cap [] (lsplice cur ((i+1)*7) (xs.drop (i*7))) :=
  hr.drew.put _ _ (by rw [hdl];omega) (by omega) (by simp) (by simp)
 have hvb1:Blk (w.drew.setCells g ((i+1)*7) (xs.drop (i*7))) vb 71 vs.toArray:=hvb.drew.sets_far hne _ _
 have hcp2:∀ ty dc,(Builtin.copy_ #[22,22] ty #[.slice (some ⟨g,i*7,none⟩) (n+1-i) dc,.slice (some ⟨vb,0,none⟩) 1 1]).run Tryz.prog (w.drew.setCells g ((i+1)*7) (xs.drop (i*7))) = .ok (goInt (1:Nat)) ((w.drew.setCells g ((i+1)*7) (xs.drop (i*7))).setCells g (i*7) vs):=fun ty dc =>
  run_copy_k _ _ _ ty 71 7 g (i*7) (n+1-i) dc ⟨vb,0,none⟩ 1 1 vs Tryz.underlying22 hsz 1 (by simp only [Nat.min_def];split <;> omega) (by omega)
   (fun j v hj=>by rw [Addr.add_lit,hvb1.cell,List.getElem?_toArray,Nat.zero_add];exact hj)
   (fun j hj=>hW1.isSome_ (by rw [hv] at hj;omega)) (fun j _=>hW1.frozen _) h1v
 have HW2:=Lib.hid (hW1.put vs (i*7) (by rw [hv];omega) (n':=n+1) (xs':=xs.take (i*7)++vs++xs.drop (i*7)) hroom (by rw [List.length_append,List.length_append,hdl,List.length_take,hrl,hv];omega) (splice_ins cur xs vs 7 i n hr.take hr.len (by omega) hv (by rw [hfull];exact Nat.mul_le_mul_right _ hroom)))
 have HON:Hid (Only g w ((w.drew.setCells g ((i+1)*7) (xs.drop (i*7))).setCells g (i*7) vs)):=Lib.hid (Only.sets _ _ _ _ (Only.sets _ _ _ _ (Only.of_ext (Ext.refl w).drew)))
 clear hW1 hvb1 hr h1 hvb h1v hdl hfull hrl hsz
 have hw1:IntKind.i64.wrap ((i:Int)+1)=(i:Int)+1:=IntWalk.i64_in _ (by omega)
 have hb1:(0:Int)≤(i:Int)+1:=by omega
 have hin:i≤n:=by omega
 have htn:((i:Int)+1).toNat=i+1:=by omega
 have hb2:¬ (cap=i+1):=by omega
 have hb3:(i:Int)≤(n:Int)+1:=by omega
 have hb5:(i:Int)+1≤(n:Int)+1:=by omega
 have hb4:¬ (cap=i):=by omega
 have hz2:((i:Int) == (n:Int))=false:=by rw [beq_eq_false_iff_ne];omega
 have hz3:¬ ((cap:Int)<(n:Int)+1):=by omega
 go_enter Tryz.func113,Tryz.ntmps113
 go_wp2_with (simp only [hov])
 go_region_law ((refine step_copy_runI (by rfl) (.tmp 73) (.tmp 76) 22 22 (by rfl) (.slice (some ⟨g,(i+1)*7,none⟩) (n-i) (cap-(i+1))) (.slice (some ⟨g,i*7,none⟩) (n+1-i) (cap-i)) (by simp [Act.eval,Act.put]) (by simp [Act.eval,Act.put]) (hcp1 _ _ _) ?_))
 go_wp2_with (with_reducible refine wpList_copy_runI _ (by rfl) (.tmp 80) (.tmp 81) 22 22 (by rfl) (.slice (some ⟨g,i*7,none⟩) (n+1-i) (cap-i)) (.slice (some ⟨vb,0,none⟩) 1 1) (by rfl) (by rfl) (hcp2 _ _) ?_)
 go_ret
 exact ⟨g,cap,_,rfl,.inl rfl,HW2.out,HON.out⟩
theorem insertGrowL (g n i vb:Nat) (xs cur vs:List Value) (w:World) (hr:Row w g 71 7 n n xs cur) (h1:∀ u ∈ xs,u.oneCell'=true) (hvb:Blk w vb 71 vs.toArray) (hv:vs.length=7) (h1v:∀ u ∈ vs,u.oneCell'=true) (hi:i<n) (hn:n≤1000000) :
  Calls Tryz.prog 113 #[.slice (some ⟨g,0,none⟩) n n,.int .i64 i,.slice (some ⟨vb,0,none⟩) 1 1] w (InsEndsL g n (xs.take (i*7)++vs++xs.drop (i*7)) w):=by
 obtain ⟨i0,hI,hz0,hz1,hz2⟩:=info_parts lotInfo
 have hsz:(Tryz.prog.info? 71).map (·.size)=some 7:=by rw [hI];simp [hz1]
 have hkk:(n:Int)+1-(i:Int)=((n+1-i:Nat):Int):=by omega
 have hik:i+(n+1-i)=n+1:=by omega
 have hold:(Builtin.firstCells i0.size i (.slice (some ⟨g,0,none⟩) i n)).run Tryz.prog w.drew = .ok (xs.take (i*7)).toArray w.drew:=by
  rw [hz1]
  exact run_firstCells_some w.drew 7 i ⟨g,0,none⟩ i n (xs.take (i*7)) (by rw [List.length_take,hr.len];omega) (fun j v hj=>by
   rw [Addr.add_lit,Nat.zero_add]
   rw [List.getElem?_take] at hj
   split at hj
   ·exact hr.drew.cell hj
   ·cases hj)
 have hrz:∀ ty,(Builtin.append_ #[22,3] ty #[.slice (some ⟨g,0,none⟩) i n,.int .i64 ((n:Int)+1-(i:Int))]).run Tryz.prog w =
   .ok (.slice (some ⟨w.heap.size,0,none⟩) (n+1) (grownCap w (n+1) n 71)) (w.drew.alloc (.cells ((xs.take (i*7)).toArray++Builtin.zeroCells (Value.agg #[.string ⟨#[]⟩,.string ⟨#[]⟩,.int .i64 0,.int .i64 0,.string ⟨#[]⟩,.string ⟨#[]⟩,.string ⟨#[]⟩]).cells (n+1-i)++Builtin.zeroCells (Value.agg #[.string ⟨#[]⟩,.string ⟨#[]⟩,.int .i64 0,.int .i64 0,.string ⟨#[]⟩,.string ⟨#[]⟩,.string ⟨#[]⟩]).cells (grownCap w (n+1) n 71-(n+1))) 71)):=fun ty=>by
  have h:=Lib.run_append_grow_zeros w 22 3 ty 71 i0 _ .i64 .i64 Tryz.underlying22 Tryz.underlying3 hI hz0 (some ⟨g,0,none⟩) i n (xs.take (i*7)) hold (n+1-i) (by omega) (by omega) (by omega) (by omega) (by rw [hz2];omega) (by rw [hz2,hik];exact growslice_fits (by omega) (by omega))
  rw [hik] at h
  rw [hkk]
  exact h
 obtain ⟨G,hG⟩:∃ G,G=grownCap w (n+1) n 71:=⟨_,rfl⟩
 have hGn:n+1≤G:=by rw [hG];exact grownCap_ge w _ _ _
 have hG63:G≤maxLen:=by rw [hG];exact grownCap_le_maxLen w (n+1) n _ (by unfold maxLen;omega)
 obtain ⟨ROW,hROW⟩:∃ ROW:Array Value,ROW=(xs.take (i*7)).toArray++Builtin.zeroCells (Value.agg #[.string ⟨#[]⟩,.string ⟨#[]⟩,.int .i64 0,.int .i64 0,.string ⟨#[]⟩,.string ⟨#[]⟩,.string ⟨#[]⟩]).cells (n+1-i)++Builtin.zeroCells (Value.agg #[.string ⟨#[]⟩,.string ⟨#[]⟩,.int .i64 0,.int .i64 0,.string ⟨#[]⟩,.string ⟨#[]⟩,.string ⟨#[]⟩]).cells (G-(n+1)):=⟨_,rfl⟩
 rw [← hG,← hROW] at hrz
 have hRl:ROW.toList.length=G*7:=by
  rw [hROW]
  simp [Builtin.zeroCells,Value.cells,hr.len]
  omega
 have hRt:ROW.toList.take (i*7)=xs.take (i*7):=by
  rw [hROW]
  simp only [Array.toList_append,List.append_assoc]
  rw [List.take_left' (by rw [List.length_take,hr.len];omega)]
 have hgw:=hr.blk.lt
 have hvw:=hvb.lt
 have hA:Row ((w.alloc (.cells ROW 71)).drew) w.heap.size 71 7 0 G [] ROW.toList :=
  ⟨by rw [Array.toArray_toList];exact (Blk.new w _ _).drew,rfl,Nat.zero_le _,hG63,hRl,by simp⟩
 have hdl:(xs.drop (i*7)).length=(n-i)*7:=by rw [List.length_drop,hr.len,← Nat.sub_mul]
 have hvb1:Blk ((w.alloc (.cells ROW 71)).drew) vb 71 vs.toArray:=(hvb.alloc _).drew
 have hr1:Row ((w.alloc (.cells ROW 71)).drew) g 71 7 n n xs cur:=(hr.ext (Ext.new _ _)).drew
 have hcpA:∀ ty dc,(Builtin.copy_ #[22,22] ty #[.slice (some ⟨w.heap.size,i*7,none⟩) (n+1-i) dc,.slice (some ⟨vb,0,none⟩) 1 1]).run Tryz.prog ((w.alloc (.cells ROW 71)).drew) = .ok (goInt (1:Nat)) (((w.alloc (.cells ROW 71)).drew).setCells w.heap.size (i*7) vs):=fun ty dc =>
  run_copy_k _ _ _ ty 71 7 w.heap.size (i*7) (n+1-i) dc ⟨vb,0,none⟩ 1 1 vs Tryz.underlying22 hsz 1 (by simp only [Nat.min_def];split <;> omega) (by omega)
   (fun j v hj=>by rw [Addr.add_lit,hvb1.cell,List.getElem?_toArray,Nat.zero_add];exact hj)
   (fun j hj=>hA.isSome_ (by rw [hv] at hj;omega)) (fun j _=>hA.frozen _) h1v
 have hB:=hA.put vs (i*7) (by rw [hv];omega) (n':=0) (xs':=[]) (Nat.zero_le _) rfl (by simp)
 have hr2:Row (((w.alloc (.cells ROW 71)).drew).setCells w.heap.size (i*7) vs) g 71 7 n n xs cur:={ hr1 with blk:=hr1.blk.sets_far (by omega) _ _ }
 have hcpB:∀ ty dc sc,(Builtin.copy_ #[22,22] ty #[.slice (some ⟨w.heap.size,(i+1)*7,none⟩) (n-i) dc,.slice (some ⟨g,i*7,none⟩) (n-i) sc]).run Tryz.prog ((((w.alloc (.cells ROW 71)).drew).setCells w.heap.size (i*7) vs).drew) = .ok (goInt (n-i:Nat)) ((((w.alloc (.cells ROW 71)).drew).setCells w.heap.size (i*7) vs).drew.setCells w.heap.size ((i+1)*7) (xs.drop (i*7))):=fun ty dc sc =>
  run_copy_k _ _ _ ty 71 7 w.heap.size ((i+1)*7) (n-i) dc ⟨g,i*7,none⟩ (n-i) sc (xs.drop (i*7)) Tryz.underlying22 hsz (n-i) (Nat.min_self _) hdl
   (fun j v hj=>by rw [Addr.add_lit];exact hr2.drew.cell (by rwa [List.getElem?_drop] at hj))
   (fun j hj=>hB.drew.isSome_ (by omega)) (fun j _=>hB.drew.frozen _) (fun v hv=>h1 v (List.mem_of_mem_drop hv))
 have HW2:=Lib.hid (hB.drew.put (xs.drop (i*7)) ((i+1)*7) (by rw [hdl];omega) (n':=n+1) (xs':=xs.take (i*7)++vs++xs.drop (i*7)) hGn (by rw [List.length_append,List.length_append,hdl,List.length_take,hr.len,hv];omega) (splice_new ROW.toList xs vs 7 i n hRt hr.len (by omega) hv (by rw [hRl];exact Nat.mul_le_mul_right _ hGn)))
 have HON:Hid (Only g w ((((w.alloc (.cells ROW 71)).drew).setCells w.heap.size (i*7) vs).drew.setCells w.heap.size ((i+1)*7) (xs.drop (i*7)))):=Lib.hid (Only.of_ext (ext_sets _ _ _ () (ext_sets _ _ _ () ((Ext.new w _).drew) (Nat.le_refl _)).drew (Nat.le_refl _)))
 clear hA hB hr2 hr1 hvb1 hr h1 hvb h1v hdl hsz hold hkk hRl hRt hROW hG hI hz0 hz1 hz2 hik
 have hw1:IntKind.i64.wrap ((i:Int)+1)=(i:Int)+1:=IntWalk.i64_in _ (by omega)
 have hb1:(0:Int)≤(i:Int)+1:=by omega
 have hin:i≤n:=by omega
 have htn:((i:Int)+1).toNat=i+1:=by omega
 have hb2:¬ (G=i+1):=by omega
 have hb6:¬ (G=i):=by omega
 have hb3:(i:Int)≤(n:Int)+1:=by omega
 have hb5:(i:Int)+1≤(n:Int)+1:=by omega
 have hb4:¬ (n=i):=by omega
 have hz9:((i:Int) == (n:Int))=false:=by rw [beq_eq_false_iff_ne];omega
 have hz3:(n:Int)<(n:Int)+1:=by omega
 unfold maxLen at hG63
 go_enter Tryz.func113,Tryz.ntmps113
 go_wp2_with (at_builtin;refine Lib.wpList_append_run _ rfl (.tmp 34) (.tmp 39) _ _ rfl _ _ rfl rfl _ _ (hrz _) ?_)
 go_region_law ((refine step_copy_runI (by rfl) (.tmp 50) (.tmp 53) 22 22 (by rfl) (.slice (some ⟨w.heap.size,(i+1)*7,none⟩) (n-i) (G-(i+1))) (.slice (some ⟨g,i*7,none⟩) (n-i) (n-i)) (by simp [Act.eval,Act.put]) (by simp [Act.eval,Act.put]) (hcpB _ _ _) ?_))
 go_wp2_with fail
 go_ret
 exact ⟨w.heap.size,G,_,rfl,.inr (Nat.le_refl _),HW2.out,HON.out⟩
def insAt (ls:List LotV) (k:Nat) (x:LotV):List LotV:=ls.take k++[x]++ls.drop k
theorem insAt_len {ls:List LotV} {k:Nat} {x:LotV} (hk:k≤ls.length):(insAt ls k x).length=ls.length+1:=by
 unfold insAt
 simp only [List.length_append,List.length_take,List.length_drop,List.length_cons,List.length_nil]
 omega
theorem lots_app (a b:List LotV):lots (a++b)=lots a++lots b:=by simp [lots]
theorem lots_insAt {ls:List LotV} {k:Nat} {x:LotV} (hk:k≤ls.length):lots (insAt ls k x)=(lots ls).take (k*7)++lotCells x++(lots ls).drop (k*7):=by
 have e:lots ls=lots (ls.take k)++lots (ls.drop k):=by rw [← lots_app,List.take_append_drop]
 have l:(lots (ls.take k)).length=k*7:=by rw [lots_len,List.length_take,Nat.min_eq_left hk]
 have h1:(lots ls).take (k*7)=lots (ls.take k):=by rw [e,List.take_left' l]
 have h2:(lots ls).drop (k*7)=lots (ls.drop k):=by rw [e,List.drop_left' l]
 rw [h1,h2]
 unfold insAt
 rw [lots_app,lots_app]
 simp [lots]
theorem one_lot (x:LotV):∀ u ∈ lotCells x,u.oneCell'=true:=by
 intro u hu
 unfold lotCells at hu
 simp only [List.mem_cons,List.not_mem_nil,or_false] at hu
 rcases hu with rfl | rfl | rfl | rfl | rfl | rfl | rfl <;> rfl
def OwnL (w:World) (base:Nat) (v:Value) (ls:List LotV):Prop:=w.ownsRow base 71 7 v ls.length (lots ls)
def CloneO (ls:List LotV) (w:World) (e:Ending) (w':World):Prop :=
 ∃ A c,e = .returned (.slice A ls.length c)∧Ext w w'∧OwnL w' w.heap.size (.slice A ls.length c) ls∧(0<ls.length→∃ g,A=some ⟨g,0,none⟩∧w.heap.size≤g∧RowL w' g c ls)
theorem cloneO (ls:List LotV) (A:Option Addr) (c:Nat) (w:World) (hA:RdL w A ls) (hn:ls.length≤1000000) :
  Calls Tryz.prog 52 #[.slice A ls.length c] w (CloneO ls w):=by
 rcases Nat.eq_zero_or_pos ls.length with h0 | h0
 rotate_left
 ·refine (cloneL ls A c w hA hn).mono ?_
  rintro e w' ⟨A',c',rfl,hx,h⟩
  obtain ⟨g,rfl,hg,cur,hrow⟩:=h h0
  exact ⟨_,_,rfl,hx,hrow.own hg,fun _=>⟨g,rfl,hg,cur,hrow⟩⟩
 have h1:ls=[]:=List.length_eq_zero_iff.1 h0
 subst h1
 clear hA h0 hn
 obtain ⟨i0,hI,hz0,hz1,hz2⟩:=info_parts lotInfo
 have HI:=Lib.hid hI
 clear hI
 simp only [List.length_nil]
 cases A with
 |none =>
  have hnil:∀ W:World,(binOp .eql 22 (.slice none 0 c) (.slice none 0 0)).run Tryz.prog W = .ok (.bool true) W:=fun W=>Lib.run_eql_slice_nil W _ _ _ _ _ _ _ Tryz.underlying22
  go_enter Tryz.func52,Tryz.ntmps52
  go_wp2_with fail
  go_ret
  exact ⟨none,0,rfl,Ext.refl _,⟨rfl,.inl ⟨rfl,rfl⟩⟩,fun h=>absurd h (by simp)⟩
 |some a =>
  have hnil:∀ W:World,(binOp .eql 22 (.slice (some a) 0 c) (.slice none 0 0)).run Tryz.prog W = .ok (.bool false) W:=fun W=>Lib.run_eql_slice_nil W _ _ _ _ _ _ _ Tryz.underlying22
  go_enter Tryz.func52,Tryz.ntmps52
  have hr:∀ ty,(Builtin.append_ #[22,22] ty #[.slice (some ⟨w.heap.size,0,none⟩) 0 0,.slice (some a) 0 c]).run Tryz.prog (w.alloc (.cells #[] 71)) = .ok (.slice (some ⟨w.heap.size,0,none⟩) 0 0) (w.alloc (.cells #[] 71)):=fun ty =>
   run_append_room_cells _ _ ty 71 i0 Tryz.underlying22 HI.out w.heap.size 0 0 0 a 0 c [] (by simp) (by simp) (by simp) (Nat.le_refl _) (by simp) (by simp)
  go_wp2_with (at_builtin;refine Lib.wpList_append_run _ rfl (.tmp 5) (.tmp 6) _ _ rfl _ _ rfl rfl _ _ (hr _) ?_)
  go_ret
  exact ⟨some ⟨w.heap.size,0,none⟩,0,rfl,Ext.new _ _,⟨rfl,.inr ⟨w.heap.size,0,#[],rfl,Nat.le_refl _,heap_alloc_new w _,Nat.le_refl _,by decide,rfl,rfl⟩⟩,fun h=>absurd h (by simp)⟩
def InsertedL (ls:List LotV) (k:Nat) (x:LotV) (w0:World) (e:Ending) (w':World):Prop :=
 ∃ A cap,e = .returned (.slice A (insAt ls k x).length cap)∧RdL w' A (insAt ls k x)∧(insAt ls k x).length≤cap∧Ext w0 w'
theorem insertEnd (ls:List LotV) (x:LotV) (A:Option Addr) (c vb:Nat) (w0 w:World) (ho:OwnL w w0.heap.size (.slice A ls.length c) ls) (hx:Ext w0 w) (hvb:Blk w vb 71 (lc x)) (hn:ls.length≤1000000) :
  Calls Tryz.prog 113 #[.slice A ls.length c,.int .i64 ls.length,.slice (some ⟨vb,0,none⟩) 1 1] w (InsertedL ls ls.length x w0):=by
 obtain ⟨i0,hI,hz0,hz1,hz2⟩:=info_parts lotInfo
 have HI:=Lib.hid hI
 have HO:=Lib.hid ho
 have HX:=Lib.hid hx
 have HC:Hid (∀ j u,(lotCells x)[j]? = some u→w.cell? ((⟨vb,0,none⟩:Addr).add j)=some u):=Lib.hid (fun j u hu=>by rw [Addr.add_lit,Nat.zero_add,hvb.cell];show (lotCells x).toArray[j]? = some u;rw [List.getElem?_toArray];exact hu)
 have hsz:=hx.size
 have h1:lots ls++lotCells x=lots (insAt ls ls.length x):=by
  rw [lots_insAt (Nat.le_refl _),List.take_of_length_le (by rw [lots_len];omega),List.drop_of_length_le (by rw [lots_len];omega),List.append_nil]
 have H1:=Lib.hid h1
 have hlen:(insAt ls ls.length x).length=ls.length+1:=insAt_len (Nat.le_refl _)
 have HLN:=Lib.hid hlen
 have hc0:ls.length≤c:=by
  rcases ho.2 with ⟨h,_⟩ | ⟨g',cap',cs',h,_,_,hle,_⟩
  ·injection h with h1 h2 h3;omega
  ·injection h with h1 h2 h3;omega
 clear hI ho hx hvb h1 hlen
 have hz:((ls.length:Int) == (ls.length:Int))=true:=by rw [beq_iff_eq]
 have hb0:(ls.length:Int)≤(c:Int):=by omega
 generalize hll:ls.length=n at *
 go_enter Tryz.func113,Tryz.ntmps113
 go_wp2_with (at_builtin;refine wpList_append_lies _ rfl (.tmp 23) (.tmp 24) 22 rfl w0.heap.size 71 i0 _ 7 96 Tryz.underlying22 HI.out hz0 hz1 hz2 rfl (by decide) _ n (lots ls) rfl (hll ▸ HO.out) ⟨vb,0,none⟩ 1 1 (lotCells x) rfl rfl HC.out (one_lot x) (by decide) (by simp only [maxLen];omega) (by omega) hsz _ rfl ?_;intro g cap w' hown hgrow hat hlt)
 all_goals
  go_ret
  have hx2:Ext w0 w':=by
   change w.grownBy w' (Value.slice A n c).ownBlock at hgrow
   rcases HO.out.2 with ⟨h,_⟩ | ⟨g',_,_,h,hg',_⟩
   ·rw [h] at hgrow
    exact HX.out.trans ⟨hgrow.os,hgrow.tape,hgrow.output,hgrow.size,fun i hi=>hgrow.block i hi (by simp [Value.ownBlock])⟩
   ·rw [h] at hgrow
    exact Ext.only HX.out hgrow hg'
  obtain ⟨hg,cur,hrow⟩:=Row.of_own hown
  have hq:Row w' g 71 7 (insAt ls n x).length cap (lots (insAt ls n x)) cur:=by rw [HLN.out,← H1.out];exact hrow
  exact ⟨some ⟨g,0,none⟩,cap,by rw [HLN.out];rfl,hq.reads,hq.le,hx2⟩
theorem insertL (ls:List LotV) (k:Nat) (x:LotV) (A:Option Addr) (c vb:Nat) (w0 w:World) (hk:k≤ls.length) (ho:OwnL w w0.heap.size (.slice A ls.length c) ls) (hr:0<ls.length→∃ g,A=some ⟨g,0,none⟩∧w0.heap.size≤g∧RowL w g c ls∧vb≠g) (hx:Ext w0 w) (hvb:Blk w vb 71 (lc x)) (hn:ls.length≤1000000) :
  Calls Tryz.prog 113 #[.slice A ls.length c,.int .i64 k,.slice (some ⟨vb,0,none⟩) 1 1] w (InsertedL ls k x w0):=by
 by_cases he:k=ls.length
 ·subst he
  exact insertEnd ls x A c vb w0 w ho hx hvb hn
 have hlt:k<ls.length:=by omega
 obtain ⟨g,rfl,hg,⟨cur,hrow⟩,hne⟩:=hr (by omega)
 clear ho he
 have hl:(insAt ls k x).length=ls.length+1:=insAt_len hk
 have hbig:c≤9223372036854775807:=by have:=hrow.big;unfold maxLen at this;omega
 by_cases hroom:ls.length+1≤c
 ·refine (insertShiftL g c ls.length k vb (lots ls) cur (lotCells x) w hrow (oneL ls) hvb hne rfl (one_lot x) hlt hroom hbig).mono ?_
  rintro e w' ⟨g',cap',cur',rfl,hg',hrow',honly⟩
  have hq:Row w' g' 71 7 (insAt ls k x).length cap' (lots (insAt ls k x)) cur':=by rw [hl,lots_insAt hk];exact hrow'
  exact ⟨some ⟨g',0,none⟩,cap',by rw [hl],hq.reads,hq.le,Ext.only hx honly hg⟩
 ·obtain rfl:c=ls.length:=by have:=hrow.le;omega
  refine (insertGrowL g ls.length k vb (lots ls) cur (lotCells x) w hrow (oneL ls) hvb rfl (one_lot x) hlt hn).mono ?_
  rintro e w' ⟨g',cap',cur',rfl,hg',hrow',honly⟩
  have hq:Row w' g' 71 7 (insAt ls k x).length cap' (lots (insAt ls k x)) cur':=by rw [hl,lots_insAt hk];exact hrow'
  exact ⟨some ⟨g',0,none⟩,cap',by rw [hl],hq.reads,hq.le,Ext.only hx honly hg⟩
end
end Go.Proofs.YthgpheopnhajaaaGreatDoor
