/- The seat's texts, part P18. -/
import Derived.Test.YthgpheopnhajaaaGreatDoorP15
import Derived.Test.YthgpheopnhajaaaGreatDoorP16
import Derived.Test.YthgpheopnhajaaaGreatDoorP17
import Derived.Deep.RegionHeld3
set_option maxRecDepth 100000
set_option maxHeartbeats 8000000
namespace Go.Proofs.YthgpheopnhajaaaGreatDoor
section
open Go.RowKit
attribute [local go_sem] size_bs toList_bs
def aI(wt:LotV→Bs)(t:Bs)(ls:List LotV):List Bs:=if t=[] then List.replicate ls.length [] else fK wt t ls
theorem eN(wt:LotV→Bs)(t:Bs)(ls:List LotV):(aI wt t ls).length=ls.length:=by
 unfold aI fK;split
 ·exact List.length_replicate
 ·rw[List.length_map,oY,List.length_map,List.length_map]
def aI.Ends(wt:LotV→Bs)(t:Bs)(ls:List LotV)(w:World)(e:Ending)(w':World):Prop:=∃P,e = .returned (.slice (some ⟨P,0,none⟩) ls.length ls.length)∧RowS w' P ls.length (aI wt t ls)∧(aI wt t ls).length=ls.length∧w.heap.size≤P∧Ext w w'
theorem xF(kf:Nat)(wt:LotV→Bs)(ek:∀args w,(callFunc kf args).run Tryz.prog w = .ok (.enter kf args) w)(t:Bs)(ls:List LotV)(A:Option Addr)(c:Nat)(w:World)(hE:Env w)(hA:bp w A ls)
  (hF:∀x ∈ ls,∀W,Ext w W→Calls Tryz.prog kf #[lv x] W fun e w'=>e = .returned (.string (bs (wt x)))∧Ext W w')
  (h0:t=[]) (hn:ls.length≤100000) :
  Calls Tryz.prog 109 #[.string (bs t),.slice A ls.length c,.func (.func kf) #[] #[]] w (aI.Ends wt t ls w):=by
 have HA:=qh hA;have HF:=qh hF;have HE:=qh hE;subst h0;have hmk:=makeS ls.length (by omega);obtain⟨i0,hI,hz0,hz1,hz2⟩:=info_parts strInfo;have HI:=qh hI;have hll:(ls.map wt).length=ls.length:=List.length_map _;have HLL:=qh hll;clear hE hA hF hI hll;go_enter Tryz.func109,Tryz.ntmps109;go_wp2_with fail;go_loopw [14,7,9] (fun i v _ wr=>∃k:Nat,k≤ls.length∧i = .int .i64 k∧fJ wr w.heap.size v ((ls.take k).map wt)∧Ext w wr) (fun i _ _ _=>ls.length-(intOf i).toNat)
 case atStart=>exact⟨0,by omega,rfl,World.ownsRow_nil _ _ _ _,Ext.refl _⟩
 case round =>
  obtain⟨k,hk,rfl,hown,hx⟩:=hrel;have HO:=qh hown;have HX:=qh hx;clear hx;by_cases hlt:k<ls.length
  ·obtain⟨b,o,rfl,hb,c0,c1,c2,c3,c4,c5,c6⟩:=(HA.out.ext HX.out).at_ hlt;have HC:=qh (HF.out (ls[k]'hlt) (List.getElem_mem _));have hki:(k:Int)<(ls.length:Int):=by omega
   have hk0:(0:Int)≤(k:Int):=by omega
   have hqq:(ls.take (k+1)).map wt=(ls.take k).map wt++[wt (ls[k]'hlt)]:=by rw[List.take_succ_eq_append_getElem hlt,List.map_append];rfl
   have HQQ:=qh hqq;have hql:((ls.take k).map wt).length≤100000:=by rw[List.length_map,List.length_take];omega
   unfold fJ at hown;obtain⟨A',c',rfl⟩:=aC hown;clear hqq hown;generalize hq1:(ls.take (k+1)).map wt=q1 at *;generalize hq0:(ls.take k).map wt=q0 at *;generalize (ls[k]'hlt)=x at *;have HE2:=qh hq1;clear hq1 hq0 HF;have HXN:Hid (Ext wr (wr.alloc (.cells (lc x) 71))):=qh (Ext.new _ _);go_wp2_with fail;refine(HC.out _ (HX.out.trans HXN.out)).mono ?_;rintro e w1⟨rfl,hx1⟩;have HX1:=qh ((HX.out.trans HXN.out).trans hx1);have HO1:=qh ((HO.out.ext (HXN.out.trans hx1)).ext (Ext.new w1 (.cells #[.string (bs (wt x))] 24)));have HX2:=qh (HX1.out.alloc (.cells #[.string (bs (wt x))] 24));have hsz:=HX2.out.size;clear hx1 HC HXN HX HO HX1;unfold fJ at HO1;go_wp2_with (at_builtin;refine wpList_append_lies _ rfl (.tmp 18) (.tmp 22) 106 rfl w.heap.size 24 i0 _ 1 16 Tryz.underlying106 HI.out hz0 hz1 hz2 rfl (by decide) (.slice A' q0.length c') q0.length (scells q0) rfl HO1.out ⟨w1.heap.size,0,none⟩ 1 1 [.string (bs (wt x))] (by simp[Act.eval]) rfl (World.news_of_block (heap_alloc_new w1 _)) (by simp[Value.oneCell']) (by decide) (by simp only[maxLen];omega) (by omega) hsz _ rfl ?_;intro g' cap w' hown' hgrow hat hlt';(have HX3:=qh (Ext.grown HX2.out hgrow (cW HO1.out))))
   have HO3:Hid (fJ w' w.heap.size (.slice (some ⟨g',0,none⟩) q1.length cap) q1):=qh (by
    rw[HQQ.out];unfold fJ;rw[List.length_append,←qT];exact hown')
   rw[show q0.length+1=q1.length by rw[HQQ.out,List.length_append];rfl];go_roundw
   case rel=>exact⟨k+1,by omega,by go_num,by rw[HE2.out];exact HO3.out,HX3.out⟩
   case measure=>simp[intOf];omega
  ·have hkk:k=ls.length:=by omega
   subst hkk;rw[List.take_length]at *;unfold fJ at hown;obtain⟨A',c',rfl⟩:=aC hown;have HX0:=qh HX.out.size;clear hown HO;go_wp2_with fail;go_ret;exact⟨_,rfl,by unfold aI;rw[if_pos rfl];exact RowS.new (by omega) (Blk.new _ _ _),eN _ _ _,HX0.out,HX.out.alloc _⟩
theorem mR(kf:Nat)(wt:LotV→Bs)(ek:∀args w,(callFunc kf args).run Tryz.prog w = .ok (.enter kf args) w)(t:Bs)(ls:List LotV)(A:Option Addr)(c:Nat)(w:World)(hE:Env w)(hA:bp w A ls)
  (hF:∀x ∈ ls,∀W,Ext w W→Calls Tryz.prog kf #[lv x] W fun e w'=>e = .returned (.string (bs (wt x)))∧Ext W w')
  (ht:t.length≤3000) (htc:aq t=0) (hW:t≠[]→WtOK (ls.map wt)) (hn:ls.length≤100000) :
  Calls Tryz.prog 109 #[.string (bs t),.slice A ls.length c,.func (.func kf) #[] #[]] w (aI.Ends wt t ls w):=by
 by_cases h0:t=[]
 ·exact xF kf wt ek t ls A c w hE hA hF h0 hn
 ·refine(zB kf wt ek t ls A c w hE hA hF h0 ht htc (hW h0) hn).mono ?_;rintro e w'⟨P,h1,h2,h3,h4⟩;have e0:aI wt t ls=fK wt t ls:=by unfold aI;rw[if_neg h0]
  exact⟨P,h1,by rw[e0];exact h2,by rw[e0];exact h3,h4⟩
end
section
open Go.RowKit Go.Shelf
attribute [local go_sem] size_bs toList_bs
structure ShFitG (Wd:World) (A:Option Addr) (c:Nat) (t1 t2:Bs) (ls:List LotV) (s:Nat) (v:Value) (w:World):Prop where
 a13:s=13→v = .string (bs t1)
 a17:s=17→v = .string (bs t2)
 sl:s=14∨s=18→v = .slice A ls.length c
 fn:s=15∨s=19→v = .func (.func 108) #[] #[]
 a16:s=16→∃P,v = .slice (some ⟨P,0,none⟩) ls.length ls.length∧RowS w P ls.length (aI (·.q) t1 ls)∧Wd.heap.size≤P
 a20:s=20→∃P,v = .slice (some ⟨P,0,none⟩) ls.length ls.length∧RowS w P ls.length (aI (·.q) t2 ls)∧Wd.heap.size≤P
 bx:s=10∨s=11→∃g u,v = .pointer (some ⟨g,0,none⟩)∧Wd.heap.size≤g∧Blk w g 106 #[u]
structure ShMG (Wd:World) (listed:Array Bool) (val:Nat→Value) (w:World):Prop where
 ext:Ext Wd w
 ne:listed.getD 8 false=true→listed.getD 9 false=true→val 10≠val 11
 p10:listed.getD 10 false=true→listed.getD 3 false=true∧listed.getD 8 false=true∧listed.getD 9 false=true
 p11:listed.getD 11 false=true→listed.getD 7 false=true∧listed.getD 8 false=true∧listed.getD 9 false=true∧listed.getD 10 false=true
 s10:listed.getD 10 false=true→∃g,val 10 = .pointer (some ⟨g,0,none⟩)∧Blk w g 106 #[val 16]
 s11:listed.getD 11 false=true→∃g,val 11 = .pointer (some ⟨g,0,none⟩)∧Blk w g 106 #[val 20]
section
variable {Wd:World} {A:Option Addr} {c:Nat} {t1 t2:Bs} {ls:List LotV} {w w':World}
theorem ShFitG.ext(hx:Ext w w')(s:Nat)(u:Value)(h:ShFitG Wd A c t1 t2 ls s u w):ShFitG Wd A c t1 t2 ls s u w' :=
 ⟨h.a13,h.a17,h.sl,h.fn,fun e=>by obtain⟨P,h1,h2,h3⟩:=h.a16 e;exact⟨P,h1,h2.ext hx,h3⟩,fun e=>by obtain⟨P,h1,h2,h3⟩:=h.a20 e;exact⟨P,h1,h2.ext hx,h3⟩,
  fun e=>by obtain⟨g,u,h1,h2,h3⟩:=h.bx e;exact⟨g,u,h1,h2,h3.ext hx⟩⟩
theorem sZ{P g cap:Nat}{l:List Bs}{cs:Array Value}(h:RowS w P cap l)(hb:Blk w g 106 cs):P≠g:=by
 obtain⟨cur,h⟩:=h;exact az h.blk hb (by decide)
theorem ShFitG.store{g:Nat}{cs:Array Value}(hb:Blk w g 106 cs)(v:Value)(s:Nat)(u:Value)(h:ShFitG Wd A c t1 t2 ls s u w):ShFitG Wd A c t1 t2 ls s u (w.setCell ⟨g,0,none⟩ v) :=
 ⟨h.a13,h.a17,h.sl,h.fn,fun e=>by obtain⟨P,h1,h2,h3⟩:=h.a16 e;exact⟨P,h1,h2.far (sZ h2 hb) _ _,h3⟩,fun e=>by obtain⟨P,h1,h2,h3⟩:=h.a20 e;exact⟨P,h1,h2.far (sZ h2 hb) _ _,h3⟩,
  fun e=>by
   obtain⟨g2,u2,h1,h2,h3⟩:=h.bx e;by_cases e2:g2=g
   ·subst e2;exact⟨g2,v,h1,h2,h3.set_ 0 v⟩
   ·exact⟨g2,u2,h1,h2,h3.far (p:=⟨g,0,none⟩) e2 _⟩⟩
variable {listed:Array Bool} {val:Nat→Value}
theorem ShMG.grow(h:ShMG Wd listed val w)(hx:Ext w w'){i d:Nat}(v:Value)(hi:listed.getD i true=false)(hw:rO d=some i)(h8:i≠8)(h9:i≠9):ShMG Wd (listed.setIfInBounds i true) (ii val d v) w':=by
 have hn:listed.getD i false=false:=by
  rw[Array.getD_eq_getD_getElem?]at hi ⊢
  cases e:listed[i]? with
  |none=>rfl
  |some x=>rw[e]at hi;exact hi
 have hin:=cY hw
 have back:∀j,j≠i→(listed.setIfInBounds i true).getD j false=true→listed.getD j false=true:=fun j hj hl=>by
  rcases bG hl with e|e
  ·exact absurd e hj
  ·exact e
 have h10:ii val d v 10=val 10:=by unfold ii;rw[if_neg (by omega)]
 have h11:ii val d v 11=val 11:=by unfold ii;rw[if_neg (by omega)]
 refine⟨h.ext.trans hx,fun a b=>?_,fun a=>?_,fun a=>?_,fun a=>?_,fun a=>?_⟩
 ·rw[h10,h11];exact h.ne (back 8 (by omega) a) (back 9 (by omega) b)
 ·have:=h.p10 (back 10 (by omega) a);exact⟨bg this.1,bg this.2.1,bg this.2.2⟩
 ·have:=h.p11 (back 11 (by omega) a);exact⟨bg this.1,bg this.2.1,bg this.2.2.1,bg this.2.2.2⟩
 ·have a':=back 10 (by omega) a;have hne:i≠3:=by rintro rfl;rw[(h.p10 a').1]at hn;cases hn
  obtain⟨g,e1,e2⟩:=h.s10 a';have h16:ii val d v 16=val 16:=by unfold ii;rw[if_neg (by omega)]
  exact⟨g,by rw[h10];exact e1,by rw[h16];exact e2.ext hx⟩
 ·have a':=back 11 (by omega) a;have hne:i≠7:=by rintro rfl;rw[(h.p11 a').1]at hn;cases hn
  obtain⟨g,e1,e2⟩:=h.s11 a';have h20:ii val d v 20=val 20:=by unfold ii;rw[if_neg (by omega)]
  exact⟨g,by rw[h11];exact e1,by rw[h20];exact e2.ext hx⟩
theorem ShMG.newb(h:ShMG Wd listed val w){i d j e:Nat}{o:Obj}(hi:listed.getD i true=false)(hid:(i=8∧d=10∧j=9∧e=11)∨(i=9∧d=11∧j=8∧e=10))
  (hold:listed.getD j false=true→∃g,val e = .pointer (some ⟨g,0,none⟩)∧g<w.heap.size):ShMG Wd (listed.setIfInBounds i true) (ii val d (.pointer (some ⟨w.heap.size,0,none⟩))) (w.alloc o):=by
 have hn:listed.getD i false=false:=by
  rw[Array.getD_eq_getD_getElem?]at hi ⊢
  cases e:listed[i]? with
  |none=>rfl
  |some x=>rw[e]at hi;exact hi
 have back:∀j,j≠i→(listed.setIfInBounds i true).getD j false=true→listed.getD j false=true:=fun j hj hl=>by
  rcases bG hl with e|e
  ·exact absurd e hj
  ·exact e
 have no10:listed.getD 10 false=true→False:=fun a=>by
  have:=h.p10 a;rcases hid with ⟨rfl,_⟩ | ⟨rfl,_⟩
  ·rw[this.2.1]at hn;cases hn
  ·rw[this.2.2]at hn;cases hn
 have no11:listed.getD 11 false=true→False:=fun a=>no10 (h.p11 a).2.2.2
 refine⟨h.ext.alloc _,fun a b=>?_,fun a=>(no10 (back 10 (by omega) a)).elim,fun a=>(no11 (back 11 (by omega) a)).elim,fun a=>(no10 (back 10 (by omega) a)).elim,fun a=>(no11 (back 11 (by omega) a)).elim⟩;rcases hid with ⟨rfl,rfl,rfl,rfl⟩ | ⟨rfl,rfl,rfl,rfl⟩
 ·obtain⟨g,e1,e2⟩:=hold (back 9 (by omega) b);unfold ii;rw[if_pos rfl,if_neg (by decide),e1];intro hc;injection hc with hc;injection hc with hc;injection hc with hc _ _;omega
 ·obtain⟨g,e1,e2⟩:=hold (back 8 (by omega) a);unfold ii;rw[if_neg (by decide),if_pos rfl,e1];intro hc;injection hc with hc;injection hc with hc;injection hc with hc _ _;omega
end
def Ck(t1 t2 t3:Bs)(ls:List LotV)(A:Option Addr)(c:Nat)(w:World)(e:Ending)(w':World):Prop :=
 ∃B0 B1 B2 B3 P1 P2 P3,e = .returned (.func (.func 111) #[] #[.pointer (some ⟨B0,0,none⟩),.pointer (some ⟨B1,0,none⟩),.pointer (some ⟨B2,0,none⟩),.pointer (some ⟨B3,0,none⟩)]) ∧
   Blk w' B0 22 #[.slice A ls.length c]∧Blk w' B1 106 #[.slice (some ⟨P1,0,none⟩) ls.length ls.length]∧Blk w' B2 106 #[.slice (some ⟨P2,0,none⟩) ls.length ls.length]∧Blk w' B3 106 #[.slice (some ⟨P3,0,none⟩) ls.length ls.length] ∧
   RowS w' P1 ls.length (aI (·.q) t1 ls)∧RowS w' P2 ls.length (aI (·.q) t2 ls)∧RowS w' P3 ls.length (aI (·.c) t3 ls)∧Ext w w'∧w.heap.size≤B0∧w.heap.size≤P1∧w.heap.size≤P2∧w.heap.size≤P3
def fx(t:Bs)(ws:List Bs):Prop:=t.length≤3000∧aq t=0∧(t≠[]→WtOK ws)
theorem xG(t1 t2 t3:Bs)(ls:List LotV)(A:Option Addr)(c:Nat)(w:World)(hE:Env w)(hA:bp w A ls)(k1:fx t1 (ls.map (·.q)))(k2:fx t2 (ls.map (·.q)))(k3:fx t3 (ls.map (·.c)))(hn:ls.length≤100000) :
  Calls Tryz.prog 55 #[.slice A ls.length c,.string (bs t1),.string (bs t2),.string (bs t3)] w (Ck t1 t2 t3 ls A c w):=by
 have D1:=qh (fun W hx=>mR 108 (·.q) (fun _ _=>by rfl) t1 ls A c W (hE.ext hx) (hA.ext hx) (fun x _ W _=>Bm x W) k1.1 k1.2.1 k1.2.2 hn);have D2:=qh (fun W hx=>mR 108 (·.q) (fun _ _=>by rfl) t2 ls A c W (hE.ext hx) (hA.ext hx) (fun x _ W _=>Bm x W) k2.1 k2.2.1 k2.2.2 hn);have D3:=qh (fun W hx=>mR 110 (·.c) (fun _ _=>by rfl) t3 ls A c W (hE.ext hx) (hA.ext hx) (fun x _ W _=>E9 x W) k3.1 k3.2.1 k3.2.2 hn);have HB:=qh ((Blk.new w 22 #[.slice A ls.length c]).drew);have HX:Hid (Ext w (w.alloc (.cells #[.slice A ls.length c] 22)).drew):=qh (Ext.new _ _).drew;clear hE hA k1 k2 k3;go_enter Tryz.func55,Tryz.ntmps55;go_upto_region 2 with fail;refine wp_region_any (by kernel_rfl) ?_;change wpAny _ _ _ _ _ _ _ (World.drew (w.alloc (.cells #[.slice A ls.length c] 22)));generalize World.drew (w.alloc (.cells #[.slice A ls.length c] 22))=Wd at *;generalize hX4:w.heap.size=X4 at *
 have lX:∀W,Ext Wd W→(Instr.loadAt 22 (.pointer (some ⟨X4,0,none⟩))).run Tryz.prog W = .ok (.slice A ls.length c) W:=fun W hx=>by
  have q0:=(HB.out.ext hx).cell 0;simp only[List.getElem?_toArray,List.getElem?_cons_zero]at q0;go_simp
 have st:∀W g u A' n' c',Blk W g 106 #[u]→(Instr.storeAt 106 (.pointer (some ⟨g,0,none⟩)) (.slice A' n' c')).run Tryz.prog W = .ok () (W.setCell ⟨g,0,none⟩ (.slice A' n' c')):=fun W g u A' n' c' hb=>by
  have q0:=hb.cell 0;have q1:=hb.frozen 0;simp only[List.getElem?_toArray,List.getElem?_cons_zero]at q0;go_simp
 refine kT (Inv:=vZ _ _ rO (ShFitG Wd A c t1 t2 ls) (ShMG Wd)) ?hend ?hz ?hstep _ _ _ _ (FtInv.start ?hm)
 case hm =>
  have hf:∀i,(Array.replicate 12 false).getD i false=true→False:=fun i h=>by
   rw[Array.getD_eq_getD_getElem?,Array.getElem?_replicate]at h;split at h <;> cases h
  exact⟨Ext.refl _,fun a=>(hf _ a).elim,fun a=>(hf _ a).elim,fun a=>(hf _ a).elim,fun a=>(hf _ a).elim,fun a=>(hf _ a).elim⟩
 case hz=>exact fun listed a w' ⟨val,h⟩=>kU (by have:=h.cnt;omega) h.size
 case hend =>
  rintro f listed a w'⟨val,h⟩ hr;have hl:=h.fin hr (by kernel_rfl);have hl2:listed=Array.replicate 12 true:=hl;have t:∀i,i<12→listed.getD i false=true:=fun i hi=>by rw[hl2,Array.getD_eq_getD_getElem?,Array.getElem?_replicate,if_pos hi];rfl
  obtain⟨P1,e16,r1,z1⟩:=(h.at_ (s:=16) (by show 16<25;decide) rfl (t 3 (by decide))).2.a16 rfl;obtain⟨P2,e20,r2,z2⟩:=(h.at_ (s:=20) (by show 20<25;decide) rfl (t 7 (by decide))).2.a20 rfl;obtain⟨g1,e10,b1⟩:=h.m.s10 (t 10 (by decide));obtain⟨g2,e11,b2⟩:=h.m.s11 (t 11 (by decide));have hxx:=h.m.ext;have ha:=h.act;rw[hl2]at ha;have ha2:a=({ tmps:=#[.slice A ls.length c,.string (bs t1),.string (bs t2),.string (bs t3),.pointer (some ⟨X4,0,none⟩),undef,undef,undef,.nilFunc,.func (.func 108) #[] #[],val 10,val 11,undef,val 13,val 14,val 15,val 16,val 17,val 18,val 19,val 20,undef,undef,undef,undef],defers:=[] }:Act):=ha.trans (by kernel_rfl);rw[e16]at b1;rw[e20]at b2;rw[e10,e11]at ha2;clear ha h hr hl hl2 t;generalize val 13=u13 at *;generalize val 14=u14 at *;generalize val 15=u15 at *;generalize val 16=u16 at *;generalize val 17=u17 at *;generalize val 18=u18 at *;generalize val 19=u19 at *;generalize val 20=u20 at *;subst ha2;clear e16 e20 e10 e11;have hwd:=HX.out.size;have Z12:Hid (w.heap.size≤P1∧w.heap.size≤P2):=qh ⟨by omega,by omega⟩;clear z1 z2 hwd;replace HX:=HX.qt hxx;replace HB:=qh (HB.out.ext hxx);have R1:=qh r1;have R2:=qh r2;have B1:=qh b1;have B2:=qh b2;have q0:=HB.out.cell 0;simp only[List.getElem?_toArray,List.getElem?_cons_zero]at q0;clear r1 r2 b1 b2 hxx st lX;go_wp2_with fail;refine(D3.out _ HX.out).mono ?_;rintro e w3⟨P3,rfl,r3,_,z3,hx3⟩;have Z3:Hid (w.heap.size≤P3):=qh (Nat.le_trans HX.out.size z3);clear z3;replace HX:=HX.qt hx3;replace HB:=qh (HB.out.ext hx3);replace R1:=qh (R1.out.ext hx3);replace R2:=qh (R2.out.ext hx3);replace B1:=qh (B1.out.ext hx3);replace B2:=qh (B2.out.ext hx3);have R3:=qh r3;clear r3 hx3;go_wp2_with fail;go_ret;exact⟨X4,g1,g2,w3.heap.size,P1,P2,P3,rfl,HB.out.alloc _,B1.out.alloc _,B2.out.alloc _,Blk.new _ _ _,R1.out.ext (Ext.new _ _),R2.out.ext (Ext.new _ _),R3.out.ext (Ext.new _ _),HX.out.alloc _,by omega,Z12.out.1,Z12.out.2,Z3.out⟩
 case hstep =>
  rintro f listed a w' i⟨val,h⟩ hi;have hnl:=cN hi;have hlt:i<12:=cX hi;have hb1:a.tmps.getD 1 undef = .string (bs t1):=h.old (by show 1<25;decide) rfl;have hb2:a.tmps.getD 2 undef = .string (bs t2):=h.old (by show 2<25;decide) rfl;have hb4:a.tmps.getD 4 undef = .pointer (some ⟨X4,0,none⟩):=h.old (by show 4<25;decide) rfl;have hb9:a.tmps.getD 9 undef = .func (.func 108) #[] #[]:=h.old (by show 9<25;decide) rfl;have hext:=h.m.ext;obtain rfl|rfl|rfl|rfl|rfl|rfl|rfl|rfl|rfl|rfl|rfl|rfl:i=0∨i=1∨i=2∨i=3∨i=4∨i=5∨i=6∨i=7∨i=8∨i=9∨i=10∨i=11:=by omega
  ·refine aV rfl rfl _ ?_ (h.step hi rfl (by show 13<25;decide) rfl (fun s hs=>by have:=cY hs;omega) _ w' ⟨fun _=>rfl,fun hs=>absurd hs (by decide),fun hs=>absurd hs (by decide),fun hs=>absurd hs (by decide),fun hs=>absurd hs (by decide),fun hs=>absurd hs (by decide),fun hs=>absurd hs (by decide)⟩ (fun s u hu=>hu) (h.m.grow (Ext.refl _) _ hnl rfl (by decide) (by decide)));simp[execOp,av,hb1]
  ·refine aV rfl rfl _ ?_ (h.step hi rfl (by show 14<25;decide) rfl (fun s hs=>by have:=cY hs;omega) _ w' ⟨fun hs=>absurd hs (by decide),fun hs=>absurd hs (by decide),fun _=>rfl,fun hs=>absurd hs (by decide),fun hs=>absurd hs (by decide),fun hs=>absurd hs (by decide),fun hs=>absurd hs (by decide)⟩ (fun s u hu=>hu) (h.m.grow (Ext.refl _) _ hnl rfl (by decide) (by decide)));simp[execOp,av,hb4,lX _ hext]
  ·refine aV rfl rfl _ ?_ (h.step hi rfl (by show 15<25;decide) rfl (fun s hs=>by have:=cY hs;omega) _ w' ⟨fun hs=>absurd hs (by decide),fun hs=>absurd hs (by decide),fun hs=>absurd hs (by decide),fun _=>rfl,fun hs=>absurd hs (by decide),fun hs=>absurd hs (by decide),fun hs=>absurd hs (by decide)⟩ (fun s u hu=>hu) (h.m.grow (Ext.refl _) _ hnl rfl (by decide) (by decide)));simp[execOp,av,hb9]
  ·have l0:=bq hi (p:=0) rfl rfl;have l1:=bq hi (p:=1) rfl rfl;have l2:=bq hi (p:=2) rfl rfl;have e0:=(h.at_ (s:=13) (by show 13<25;decide) rfl l0).1.trans ((h.at_ (s:=13) (by show 13<25;decide) rfl l0).2.a13 rfl);have e1:=(h.at_ (s:=14) (by show 14<25;decide) rfl l1).1.trans ((h.at_ (s:=14) (by show 14<25;decide) rfl l1).2.sl (by decide));have e2:=(h.at_ (s:=15) (by show 15<25;decide) rfl l2).1.trans ((h.at_ (s:=15) (by show 15<25;decide) rfl l2).2.fn (by decide));refine iH rfl rfl (fn:=109) (args:=#[.string (bs t1),.slice A ls.length c,.func (.func 108) #[] #[]]) ?_ (D1.out w' (HX.out.trans hext)) ?_
   ·simp[execOp,av,resolve,invoke,e0,e1,e2,Deferred.ofValue];rfl
   ·rintro e w2⟨P,rfl,hr,_,hz,hx2⟩;exact⟨_,rfl,h.step hi rfl (by show 16<25;decide) rfl (fun s hs=>by have:=cY hs;omega) _ w2 ⟨fun hs=>absurd hs (by decide),fun hs=>absurd hs (by decide),fun hs=>absurd hs (by decide),fun hs=>absurd hs (by decide),fun _=>⟨P,rfl,hr,Nat.le_trans hext.size hz⟩,fun hs=>absurd hs (by decide),fun hs=>absurd hs (by decide)⟩ (fun s u hu=>hu.ext hx2 s u) (h.m.grow hx2 _ hnl rfl (by decide) (by decide))⟩
  ·refine aV rfl rfl _ ?_ (h.step hi rfl (by show 17<25;decide) rfl (fun s hs=>by have:=cY hs;omega) _ w' ⟨fun hs=>absurd hs (by decide),fun _=>rfl,fun hs=>absurd hs (by decide),fun hs=>absurd hs (by decide),fun hs=>absurd hs (by decide),fun hs=>absurd hs (by decide),fun hs=>absurd hs (by decide)⟩ (fun s u hu=>hu) (h.m.grow (Ext.refl _) _ hnl rfl (by decide) (by decide)));simp[execOp,av,hb2]
  ·refine aV rfl rfl _ ?_ (h.step hi rfl (by show 18<25;decide) rfl (fun s hs=>by have:=cY hs;omega) _ w' ⟨fun hs=>absurd hs (by decide),fun hs=>absurd hs (by decide),fun _=>rfl,fun hs=>absurd hs (by decide),fun hs=>absurd hs (by decide),fun hs=>absurd hs (by decide),fun hs=>absurd hs (by decide)⟩ (fun s u hu=>hu) (h.m.grow (Ext.refl _) _ hnl rfl (by decide) (by decide)));simp[execOp,av,hb4,lX _ hext]
  ·refine aV rfl rfl _ ?_ (h.step hi rfl (by show 19<25;decide) rfl (fun s hs=>by have:=cY hs;omega) _ w' ⟨fun hs=>absurd hs (by decide),fun hs=>absurd hs (by decide),fun hs=>absurd hs (by decide),fun _=>rfl,fun hs=>absurd hs (by decide),fun hs=>absurd hs (by decide),fun hs=>absurd hs (by decide)⟩ (fun s u hu=>hu) (h.m.grow (Ext.refl _) _ hnl rfl (by decide) (by decide)));simp[execOp,av,hb9]
  ·have l0:=bq hi (p:=4) rfl rfl;have l1:=bq hi (p:=5) rfl rfl;have l2:=bq hi (p:=6) rfl rfl;have e0:=(h.at_ (s:=17) (by show 17<25;decide) rfl l0).1.trans ((h.at_ (s:=17) (by show 17<25;decide) rfl l0).2.a17 rfl);have e1:=(h.at_ (s:=18) (by show 18<25;decide) rfl l1).1.trans ((h.at_ (s:=18) (by show 18<25;decide) rfl l1).2.sl (by decide));have e2:=(h.at_ (s:=19) (by show 19<25;decide) rfl l2).1.trans ((h.at_ (s:=19) (by show 19<25;decide) rfl l2).2.fn (by decide));refine iH rfl rfl (fn:=109) (args:=#[.string (bs t2),.slice A ls.length c,.func (.func 108) #[] #[]]) ?_ (D2.out w' (HX.out.trans hext)) ?_
   ·simp[execOp,av,resolve,invoke,e0,e1,e2,Deferred.ofValue];rfl
   ·rintro e w2⟨P,rfl,hr,_,hz,hx2⟩;exact⟨_,rfl,h.step hi rfl (by show 20<25;decide) rfl (fun s hs=>by have:=cY hs;omega) _ w2 ⟨fun hs=>absurd hs (by decide),fun hs=>absurd hs (by decide),fun hs=>absurd hs (by decide),fun hs=>absurd hs (by decide),fun hs=>absurd hs (by decide),fun _=>⟨P,rfl,hr,Nat.le_trans hext.size hz⟩,fun hs=>absurd hs (by decide)⟩ (fun s u hu=>hu.ext hx2 s u) (h.m.grow hx2 _ hnl rfl (by decide) (by decide))⟩
  ·refine aV rfl rfl _ ?_ (h.step hi rfl (by show 10<25;decide) rfl (fun s hs=>by have:=cY hs;omega) (.pointer (some ⟨w'.heap.size,0,none⟩)) (w'.alloc (.cells #[.slice none 0 0] 106)) ⟨fun hs=>absurd hs (by decide),fun hs=>absurd hs (by decide),fun hs=>absurd hs (by decide),fun hs=>absurd hs (by decide),fun hs=>absurd hs (by decide),fun hs=>absurd hs (by decide),fun _=>⟨_,_,rfl,hext.size,Blk.new _ _ _⟩⟩ (fun s u hu=>hu.ext (Ext.new _ _) s u) (h.m.newb (j:=9) (e:=11) hnl (by decide) (fun hj=>by obtain⟨g,u,h1,h2,h3⟩:=(h.at_ (s:=11) (by show 11<25;decide) rfl hj).2.bx (by decide);exact⟨g,h1,h3.lt⟩)));simp only[execOp];go_simp
  ·refine aV rfl rfl _ ?_ (h.step hi rfl (by show 11<25;decide) rfl (fun s hs=>by have:=cY hs;omega) (.pointer (some ⟨w'.heap.size,0,none⟩)) (w'.alloc (.cells #[.slice none 0 0] 106)) ⟨fun hs=>absurd hs (by decide),fun hs=>absurd hs (by decide),fun hs=>absurd hs (by decide),fun hs=>absurd hs (by decide),fun hs=>absurd hs (by decide),fun hs=>absurd hs (by decide),fun _=>⟨_,_,rfl,hext.size,Blk.new _ _ _⟩⟩ (fun s u hu=>hu.ext (Ext.new _ _) s u) (h.m.newb (j:=8) (e:=10) hnl (by decide) (fun hj=>by obtain⟨g,u,h1,h2,h3⟩:=(h.at_ (s:=10) (by show 10<25;decide) rfl hj).2.bx (by decide);exact⟨g,h1,h3.lt⟩)));simp only[execOp];go_simp
  ·have lp:=bq hi (p:=8) rfl rfl;have lv:=bq hi (p:=3) rfl rfl;obtain⟨g,u,ep,hg,hb⟩:=(h.at_ (s:=10) (by show 10<25;decide) rfl lp).2.bx (by decide);obtain⟨P,ev,hr,_⟩:=(h.at_ (s:=16) (by show 16<25;decide) rfl lv).2.a16 rfl;have e1:=(h.at_ (s:=10) (by show 10<25;decide) rfl lp).1.trans ep;have e2:=(h.at_ (s:=16) (by show 16<25;decide) rfl lv).1.trans ev;refine mq rfl rfl (w':=w'.setCell ⟨g,0,none⟩ (.slice (some ⟨P,0,none⟩) ls.length ls.length)) ?_ (h.stepN hi rfl (fun s hs hq=>by have:=cY hq;omega) _ _ (fun s u hu=>hu.store hb _ s u) ?_)
   ·simp[execOp,av,e1,e2,st _ _ _ _ _ _ hb]
   ·have hnf:listed.getD 10 false=false:=by
     have:=hnl;rw[Array.getD_eq_getD_getElem?]at this ⊢
     have hsz:=h.size;have hs2:listed.size=12:=hsz;rw[Array.getElem?_eq_getElem (by omega)]at this ⊢
     exact this
    have back:∀j,j≠10→(listed.setIfInBounds 10 true).getD j false=true→listed.getD j false=true:=fun j hj hl=>by
     rcases bG hl with e|e
     ·exact absurd e hj
     ·exact e
    refine⟨hext.setCell (p:=⟨g,0,none⟩) hg _,fun x y=>h.m.ne (back 8 (by decide) x) (back 9 (by decide) y),?_,?_,?_,?_⟩
    ·exact fun _=>⟨bg lv,bg lp,bg (bq hi (p:=9) rfl rfl)⟩
    ·intro x;have:=(h.m.p11 (back 11 (by decide) x)).2.2.2;rw[hnf]at this;cases this
    ·exact fun _=>⟨g,ep,by rw[ev];exact hb.set_ 0 _⟩
    ·intro x;have:=(h.m.p11 (back 11 (by decide) x)).2.2.2;rw[hnf]at this;cases this
  ·have lp:=bq hi (p:=9) rfl rfl;have lv:=bq hi (p:=7) rfl rfl;obtain⟨g,u,ep,hg,hb⟩:=(h.at_ (s:=11) (by show 11<25;decide) rfl lp).2.bx (by decide);obtain⟨P,ev,hr,_⟩:=(h.at_ (s:=20) (by show 20<25;decide) rfl lv).2.a20 rfl;have e1:=(h.at_ (s:=11) (by show 11<25;decide) rfl lp).1.trans ep;have e2:=(h.at_ (s:=20) (by show 20<25;decide) rfl lv).1.trans ev;refine mq rfl rfl (w':=w'.setCell ⟨g,0,none⟩ (.slice (some ⟨P,0,none⟩) ls.length ls.length)) ?_ (h.stepN hi rfl (fun s hs hq=>by have:=cY hq;omega) _ _ (fun s u hu=>hu.store hb _ s u) ?_)
   ·simp[execOp,av,e1,e2,st _ _ _ _ _ _ hb]
   ·have hnf:listed.getD 11 false=false:=by
     have:=hnl;rw[Array.getD_eq_getD_getElem?]at this ⊢
     have hsz:=h.size;have hs2:listed.size=12:=hsz;rw[Array.getElem?_eq_getElem (by omega)]at this ⊢
     exact this
    have back:∀j,j≠11→(listed.setIfInBounds 11 true).getD j false=true→listed.getD j false=true:=fun j hj hl=>by
     rcases bG hl with e|e
     ·exact absurd e hj
     ·exact e
    refine⟨hext.setCell (p:=⟨g,0,none⟩) hg _,fun x y=>h.m.ne (back 8 (by decide) x) (back 9 (by decide) y),?_,?_,?_,?_⟩
    ·exact fun x=>by have:=h.m.p10 (back 10 (by decide) x);exact⟨bg this.1,bg this.2.1,bg this.2.2⟩
    ·exact fun _=>⟨bg lv,bg (bq hi (p:=8) rfl rfl),bg lp,bg (bq hi (p:=10) rfl rfl)⟩
    ·intro x;have x':=back 10 (by decide) x;obtain⟨g2,e2',b2⟩:=h.m.s10 x';have hne:=h.m.ne (h.m.p10 x').2.1 lp;refine⟨g2,e2',b2.far (p:=⟨g,0,none⟩) ?_ _⟩;rintro rfl;exact hne (e2'.trans ep.symm)
    ·exact fun _=>⟨g,ep,by rw[ev];exact hb.set_ 0 _⟩
end
section
open Go.RowKit Go.Shelf
abbrev iT:TypeId:=24
structure Ex3 (W0:World) (U V Z:Nat) (W:World):Prop where
 os:W.os=W0.os
 tape:W.tape=W0.tape
 output:W.output=W0.output
 size:W0.heap.size≤W.heap.size
 block:∀i,i<W0.heap.size→i≠U→i≠V→i≠Z→W.heap[i]? = W0.heap[i]?
section
variable {W0 W W':World} {U V Z:Nat}
theorem Ex3.refl(W0:World)(U V Z:Nat):Ex3 W0 U V Z W0:=⟨rfl,rfl,rfl,Nat.le_refl _,fun _ _ _ _ _=>rfl⟩
theorem Ex3.on(h:Ex3 W0 U V Z W)(hx:Ext W W'):Ex3 W0 U V Z W' :=
 ⟨hx.os.trans h.os,hx.tape.trans h.tape,hx.output.trans h.output,Nat.le_trans h.size hx.size,fun i hi h1 h2 h3=>(hx.block i (Nat.lt_of_lt_of_le hi h.size)).trans (h.block i hi h1 h2 h3)⟩
theorem Ex3.after{w:World}(hx:Ext w W0)(h:Ex3 W0 U V Z W)(hU:w.heap.size≤U)(hV:w.heap.size≤V)(hZ:w.heap.size≤Z):Ext w W :=
 ⟨h.os.trans hx.os,h.tape.trans hx.tape,h.output.trans hx.output,Nat.le_trans hx.size h.size,fun i hi=>(h.block i (Nat.lt_of_lt_of_le hi hx.size) (by omega) (by omega) (by omega)).trans (hx.block i hi)⟩
theorem Ex3.blk{g:Nat}{t:TypeId}{cs:Array Value}(h:Ex3 W0 U V Z W)(hb:Blk W0 g t cs)(h1:g≠U)(h2:g≠V)(h3:g≠Z):Blk W g t cs:=(h.block g hb.lt h1 h2 h3).trans hb
theorem Ex3.set{g k:Nat}(h:Ex3 W0 U V Z W)(hg:g=U∨g=V∨g=Z∨W0.heap.size≤g)(v:Value):Ex3 W0 U V Z (W.setCell ⟨g,k,none⟩ v):=by
 have hs:(W.setCell ⟨g,k,none⟩ v).heap.size=W.heap.size:=by simp[World.setCell]
 refine⟨h.os,h.tape,h.output,by rw[hs];exact h.size,fun i hi h1 h2 h3=>(Below.heap_setCell W ⟨g,k,none⟩ v i ?_).trans (h.block i hi h1 h2 h3)⟩;intro e;have e:i=g:=e;omega
theorem Ex3.grown{v:Value}(h:Ex3 W0 U V Z W)(hg:W.grownBy W' v.ownBlock)(hb:∀k,v.ownBlock=some k→W0.heap.size≤k):Ex3 W0 U V Z W' :=
 ⟨hg.os.trans h.os,hg.tape.trans h.tape,hg.output.trans h.output,Nat.le_trans h.size hg.size,fun i hi h1 h2 h3=>(hg.block i (Nat.lt_of_lt_of_le hi h.size) (fun e=>by have:=hb i e.symm;omega)).trans (h.block i hi h1 h2 h3)⟩
theorem Ex3.put{l:Nat}(h:Ex3 W0 U V Z W)(hl:W0.heap.size≤l)(o:Obj):Ex3 W0 U V Z (W.putObj l o):=by
 refine⟨h.os,h.tape,h.output,by simp[World.putObj];exact h.size,fun i hi h1 h2 h3=>?_⟩;rw[World.putObj_heap_other (by omega)];exact h.block i hi h1 h2 h3
theorem Ex3.rowS{P cap:Nat}{l:List Bs}(h:Ex3 W0 U V Z W)(hr:RowS W0 P cap l)(h1:P≠U)(h2:P≠V)(h3:P≠Z):RowS W P cap l:=by
 obtain⟨cur,hr⟩:=hr;exact⟨cur,{ hr with blk:=h.blk hr.blk h1 h2 h3 }⟩
theorem Ex3.own{base:Nat}{e:TypeId}{size n:Nat}{v:Value}{xs:List Value}(h:Ex3 W0 U V Z W)(ho:W0.ownsRow base e size v n xs)(h1:v.ownBlock≠some U)(h2:v.ownBlock≠some V)(h3:v.ownBlock≠some Z):W.ownsRow base e size v n xs:=by
 refine⟨ho.1,?_⟩;rcases ho.2 with hn | ⟨g,cap,cur,rfl,hb,hh,hrest⟩
 ·exact .inl hn
 ·refine .inr ⟨g,cap,cur,rfl,hb,(h.block g (Array.getElem?_eq_some_iff.1 hh).1 ?_ ?_ ?_).trans hh,hrest⟩
  ·rintro rfl;exact h1 (by simp[Value.ownBlock])
  ·rintro rfl;exact h2 (by simp[Value.ownBlock])
  ·rintro rfl;exact h3 (by simp[Value.ownBlock])
end
structure ARB (W0:World) (U V Z:Nat) (lp:Loop) (vl vg vs vf:Value) (ex:Bs) (kg ks kf:Nat) (gs ss fs:List Value) (W:World):Prop where
 fr:Ex3 W0 U V Z W
 u:Blk W U rT #[vl,vg,vs,.slice none 0 0]
 v:Blk W V bT #[vf]
 z:Blk W Z iT #[.string (bs ex)]
 og:W.ownsRow W0.heap.size gT 10 vg kg gs
 os:W.ownsRow W0.heap.size sT 6 vs ks ss
 fo:W.ownsRow W0.heap.size lT 7 vf kf fs
 D:W.heap[W0.heap.size]? = some (.deferred (some []))
 L:W.heap[W0.heap.size+1]? = some (.loop lp)
section
variable {W0 W W':World} {U V Z:Nat} {lp lp':Loop} {vl vg vs vf v':Value} {ex:Bs} {kg ks kf:Nat} {gs ss fs xs:List Value}
theorem ARB.on(h:ARB W0 U V Z lp vl vg vs vf ex kg ks kf gs ss fs W)(hx:Ext W W'):ARB W0 U V Z lp vl vg vs vf ex kg ks kf gs ss fs W' :=
 ⟨h.fr.on hx,h.u.ext hx,h.v.ext hx,h.z.ext hx,aP h.og hx,aP h.os hx,aP h.fo hx,dK h.D hx,dK h.L hx⟩
theorem ARB.put(h:ARB W0 U V Z lp vl vg vs vf ex kg ks kf gs ss fs W)(hU:U<W0.heap.size)(hV:V<W0.heap.size)(hZ:Z<W0.heap.size):ARB W0 U V Z lp' vl vg vs vf ex kg ks kf gs ss fs (W.putObj (W0.heap.size+1) (.loop lp')) :=
 ⟨h.fr.put (by omega) _,h.u.put _ (by omega),h.v.put _ (by omega),h.z.put _ (by omega),ni h.og h.L,ni h.os h.L,ni h.fo h.L,me h.D (by omega),World.putObj_heap_same (Array.getElem?_eq_some_iff.1 h.L).1⟩
theorem ARB.gain(h:ARB W0 U V Z lp vl vg vs vf ex kg ks kf gs ss fs W)(hU:U<W0.heap.size)(_hV:V<W0.heap.size)(hUV:U≠V)(hUZ:U≠Z)(_hVZ:V≠Z)(hg:W.grownBy W' vg.ownBlock)(ho:W'.ownsRow W0.heap.size gT 10 v' (kg+1) xs) :
  Blk W' U rT #[vl,vg,vs,.slice none 0 0]∧ARB W0 U V Z lp vl v' vs vf ex (kg+1) ks kf xs ss fs (W'.setCell ⟨U,1,none⟩ v'):=by
 have u':=ct h.u h.og hg (by decide);have v2:=ct h.v h.og hg (by decide);have z2:=ct h.z h.og hg (by decide);refine⟨u',(h.fr.grown hg (cW h.og)).set (.inl rfl) _,u'.set_ 1 v',v2.far (p:=⟨U,1,none⟩) (Ne.symm hUV) _,z2.far (p:=⟨U,1,none⟩) (Ne.symm hUZ) _,bH ho u' (by decide),bH (jd h.os hg (gi h.os h.og (by decide))) u' (by decide),bH (jd h.fo hg (gi h.fo h.og (by decide))) u' (by decide),de ?_ (by omega),de ?_ (by omega)⟩
 ·exact(hg.block _ (Array.getElem?_eq_some_iff.1 h.D).1 (fun e=>nk h.og h.D e.symm)).trans h.D
 ·exact(hg.block _ (Array.getElem?_eq_some_iff.1 h.L).1 (fun e=>nj h.og h.L e.symm)).trans h.L
theorem ARB.step(h:ARB W0 U V Z lp vl vg vs vf ex kg ks kf gs ss fs W)(hU:U<W0.heap.size)(_hV:V<W0.heap.size)(hUV:U≠V)(hUZ:U≠Z)(_hVZ:V≠Z)(hg:W.grownBy W' vs.ownBlock)(ho:W'.ownsRow W0.heap.size sT 6 v' (ks+1) xs) :
  Blk W' U rT #[vl,vg,vs,.slice none 0 0]∧ARB W0 U V Z lp vl vg v' vf ex kg (ks+1) kf gs xs fs (W'.setCell ⟨U,2,none⟩ v'):=by
 have u':=ct h.u h.os hg (by decide);have v2:=ct h.v h.os hg (by decide);have z2:=ct h.z h.os hg (by decide);refine⟨u',(h.fr.grown hg (cW h.os)).set (.inl rfl) _,u'.set_ 2 v',v2.far (p:=⟨U,2,none⟩) (Ne.symm hUV) _,z2.far (p:=⟨U,2,none⟩) (Ne.symm hUZ) _,bH (jd h.og hg (gi h.og h.os (by decide))) u' (by decide),bH ho u' (by decide),bH (jd h.fo hg (gi h.fo h.os (by decide))) u' (by decide),de ?_ (by omega),de ?_ (by omega)⟩
 ·exact(hg.block _ (Array.getElem?_eq_some_iff.1 h.D).1 (fun e=>nk h.os h.D e.symm)).trans h.D
 ·exact(hg.block _ (Array.getElem?_eq_some_iff.1 h.L).1 (fun e=>nj h.os h.L e.symm)).trans h.L
theorem ARB.lot(h:ARB W0 U V Z lp vl vg vs vf ex kg ks kf gs ss fs W)(_hU:U<W0.heap.size)(hV:V<W0.heap.size)(hUV:U≠V)(_hUZ:U≠Z)(hVZ:V≠Z)(hg:W.grownBy W' vf.ownBlock)(ho:W'.ownsRow W0.heap.size lT 7 v' (kf+1) xs) :
  Blk W' V bT #[vf]∧ARB W0 U V Z lp vl vg vs v' ex kg ks (kf+1) gs ss xs (W'.setCell ⟨V,0,none⟩ v'):=by
 have u':=ct h.u h.fo hg (by decide);have v2:=ct h.v h.fo hg (by decide);have z2:=ct h.z h.fo hg (by decide);refine⟨v2,(h.fr.grown hg (cW h.fo)).set (.inr (.inl rfl)) _,u'.far (p:=⟨V,0,none⟩) hUV _,v2.set_ 0 v',z2.far (p:=⟨V,0,none⟩) (Ne.symm hVZ) _,bH (jd h.og hg (gi h.og h.fo (by decide))) v2 (by decide),bH (jd h.os hg (gi h.os h.fo (by decide))) v2 (by decide),bH ho v2 (by decide),de ?_ (by omega),de ?_ (by omega)⟩
 ·exact(hg.block _ (Array.getElem?_eq_some_iff.1 h.D).1 (fun e=>nk h.fo h.D e.symm)).trans h.D
 ·exact(hg.block _ (Array.getElem?_eq_some_iff.1 h.L).1 (fun e=>nj h.fo h.L e.symm)).trans h.L
theorem ARB.more(h:ARB W0 U V Z lp vl vg vs vf ex kg ks kf gs ss fs W)(hZ:Z<W0.heap.size)(hUZ:U≠Z)(hVZ:V≠Z)(ex':Bs):ARB W0 U V Z lp vl vg vs vf ex' kg ks kf gs ss fs (W.setCell ⟨Z,0,none⟩ (.string (bs ex'))) :=
 ⟨h.fr.set (.inr (.inr (.inl rfl))) _,h.u.far (p:=⟨Z,0,none⟩) hUZ _,h.v.far (p:=⟨Z,0,none⟩) hVZ _,h.z.set_ 0 _,bH h.og h.z (by decide),bH h.os h.z (by decide),bH h.fo h.z (by decide),de h.D (by omega),de h.L (by omega)⟩
end
end
section
open Go.RowKit
open Go.Maps (Keyed)
inductive SK|lv|mk|am|wc|nm|mm|kd|ex|sl|sx|no
def IJ:Value:=kv [101,120,99,104,97,110,103,101] 1 (bf [0,11] bQ) (.map none) false
theorem bW.isMap{W:World}{b n:Nat}{D:DataW Value}(h:bW W b n D):Maps.IsMap D:=World.ownsMap.isMap h
structure RC where
 w0:World
 G1:Nat
 G3:Nat
 lvP:Value
abbrev RC.amV(c:RC):Value := .func (.func 152) #[] #[.pointer (some ⟨c.G3,0,none⟩),.pointer (some ⟨c.G1,0,none⟩)]
abbrev DP:Value := .func (.func 153) #[] #[]
def IK(c:RC)(f:Nat)(bm:Option Nat)(w:World)(b:Nat):Prop:=c.w0.heap.size≤b∧some b≠bm∧∃n D,bW w b n D∧n+f≤200∧rN D
def mS(w:World)(v:Value)(ms:List Nat):Prop:=∃g,v = .slice (some ⟨g,0,none⟩) ms.length ms.length∧Blk w g 3 (icells ms).toArray
def iI(c:RC)(f:Nat)(bm:Option Nat)(w:World):SK→Value→Prop
 |.lv,_=>True
 |.mk,v=>v=fw
 |.am,v=>v=c.amV
 |.wc,v=>v=DP
 |.nm,v=>∃b,v = .map (some b)∧IK c f bm w b
 |.mm,v=>∃b,v = .map (some b)∧bm=some b
 |.kd,v=>∃word cl bits num code,bits.length=13∧num.oneCell'=true∧v=kv word cl bits num code
 |.ex,v=>v=IJ
 |.sl,v=>∃ms,(∀x ∈ ms,x<13)∧ms.length≤1000∧mS w v ms
 |.sx,v=>mS w v [0,11]
 |.no,_=>True
def aY(ops:Array Oper)(listed:Array Bool)(d:Nat):Prop:=(d=2∨d=4∨d=5∨d=6)∨∃i o,ops[i]? = some o∧listed.getD i false=true∧o.dst=some d
theorem ij{listed:Array Bool}{i j:Nat}(h:listed.getD j false=true):(listed.setIfInBounds i true).getD j false=true:=by
 rw[Array.getD_eq_getD_getElem?]at h ⊢;rw[Array.getElem?_setIfInBounds];split
 ·rename_i e
  subst e;split
  ·rfl
  ·rename_i hge
   rw[Array.getElem?_eq_none (by omega)]at h
   cases h
 ·exact h
theorem zJ{a:Act}{d:Nat}{v:Value}{x:Nat}(h:x≠d):(a.put (some d) v).tmps.getD x undef=a.tmps.getD x undef:=by
 unfold Act.put;rw[Array.getD_eq_getD_getElem?,Array.getD_eq_getD_getElem?];rw[Array.getElem?_setIfInBounds_ne (by omega)]
theorem zK{a:Act}{d:Nat}{v:Value}(h:d<a.tmps.size):(a.put (some d) v).tmps.getD d undef=v:=by
 unfold Act.put;rw[Array.getD_eq_getD_getElem?,Array.getElem?_setIfInBounds_self_of_lt h];rfl
end
section
open Go.RowKit
open Go.Maps (Keyed)
attribute [local go_sem] size_bs toList_bs
theorem cZ{P:Program}{ops:Array Oper}{Q:Exit→Act→World→Prop}{i:Nat}{o:Oper}{K:Act→World→Prop}{a:Act}{w:World}(ho:ops[i]? = some o)(hg:o.guard=none)(h:o.wp P a w K Q):wpOp P ops Q i K a w:=by
 unfold wpOp;rw[ho];dsimp only;rw[if_pos (by simp[Region.wanted,hg])];exact .inl h
theorem aa{ops:Array Oper}{listed:Array Bool}{i:Nat}(hi:i ∈ Region.ready .any ops listed){o:Oper}(ho:ops[i]? = some o)(p:Nat)(hp:(o.after.toList.any fun e=>e.on == p && Region.binds .any e)=true){q:Oper}(hq:ops[p]? = some q){d:Nat}(hd:q.dst=some d):aY ops listed d :=
 .inr ⟨p,q,hq,bq hi ho hp,hd⟩
theorem Cl(b:ByteArray):b=bs b.data.toList:=by
 cases b;unfold bs;simp
section
variable {c:RC} {sk:Nat→SK} {i10:Nat} {ops:Array Oper} {f:Nat} {listed:Array Bool} {bm:Option Nat} {a:Act} {w:World} {i:Nat} {o:Oper} {Q:Exit→Act→World→Prop}
theorem fV(a:Act)(m:Nat):a.eval (.tmp m)=a.tmps.getD m undef:=rfl
theorem zL{w:World}{g:Nat}{v:Value}(h:Blk w g pi #[v]):(Instr.loadAt 204 (.pointer (some ⟨g,0,none⟩))).run Tryz.prog w = .ok v w:=by
 have q:=h.cell 0;simp only[List.getElem?_toArray,List.getElem?_cons_zero]at q;go_simp
theorem zM{w:World}{g:Nat}{v:Value}(h:Blk w g FT #[v]):(Instr.loadAt 207 (.pointer (some ⟨g,0,none⟩))).run Tryz.prog w = .ok v w:=by
 have q:=h.cell 0;simp only[List.getElem?_toArray,List.getElem?_cons_zero]at q;go_simp
end
end
section
open Go.RowKit
open Go.Maps (Keyed)
attribute [local go_sem] size_bs toList_bs
theorem xH{w:World}{g b n:Nat}{t:TypeId}{cs:Array Value}{D:DataW Value}(h:Blk w g t cs)(hm:bW w b n D):g≠b:=by
 rintro rfl;obtain⟨es,clock,hb,_⟩:=hm;have h':w.heap[g]? = some (.cells cs t (0,0)):=h;rw[hb]at h'
 cases h'
theorem ta{w w':World}{g b n:Nat}{t:TypeId}{cs:Array Value}{D:DataW Value}(h:Blk w g t cs)(hm:bW w b n D)(hg:Only b w w'):Blk w' g t cs :=
 (hg.block _ h.lt (by simpa using xH h hm)).trans h
section
variable {c:RC} {sk:Nat→SK} {i10:Nat} {ops:Array Oper} {f:Nat} {listed:Array Bool} {bm:Option Nat} {a:Act} {w:World} {i:Nat} {o:Oper} {Q:Exit→Act→World→Prop}
theorem fh(a:Act)(v:Value):a.eval (.const v)=v:=rfl
theorem mS.rdi{w:World}{v:Value}{ms:List Nat}(h:mS w v ms):∃g,v = .slice (some ⟨g,0,none⟩) ms.length ms.length∧RdI w (some ⟨g,0,none⟩) ms:=by
 obtain⟨g,e,hb⟩:=h;exact⟨g,e,by simp[icells],fun _=>⟨g,0,rfl,hb.lt,fun j u hu=>by rw[Nat.zero_add,hb.cell j,List.getElem?_toArray];exact hu⟩⟩
theorem ik{fn:Nat}{cb:Array Value}(ek:∀args w,(callFunc fn args).run Tryz.prog w = .ok (.enter fn args) w){s:Operand}{args:Array Operand}{tt:Array TypeId}(hop:o.op = .call { callee := .value s,args:=args,argTypes:=tt })(hs:a.eval s = .func (.func fn) #[] cb) :
  (execOp a.eval o).run Tryz.prog w = .ok (.enter fn (args.map a.eval++cb)) w:=by
 simp only[execOp,hop];simp[resolve,invoke,hs,Deferred.ofValue,ek]
end
end
section
open Go.RowKit
def kX(k:Nat):Code→Option (Array Oper)
 |.region i ops _=>if i=k then some ops else none
 |.seq a b=>match kX k a with|some x=>some x|none=>kX k b
 |.block _ a=>kX k a
 |.loop a=>kX k a
 |.scope a=>kX k a
 |.cond _ a b=>match kX k a with|some x=>some x|none=>kX k b
 |_=>none
noncomputable def dU:Array Oper:=((Tryz.f89.body.bind (kX 6)).getD #[])
end
section
open Go.RowKit
open Go.Maps (Keyed)
attribute [local go_sem] size_bs toList_bs
def xI(p:Prop):Prop:=p
theorem bD{p:Prop}(h:xI p):p:=h
theorem aX{p:Prop}(h:p):xI p:=h
end
section
open Go.RowKit
attribute [local go_sem] size_bs toList_bs
abbrev xc(key:Bs)(day:Int)(ins:Bs)(A:Option Addr)(n c:Nat):Array Value :=
 #[.string (bs key),.int .i64 0,.bool false,.int .i64 day,.int .i64 10,.string (bs ins),.string ⟨#[]⟩,.string ⟨#[]⟩,.string ⟨#[]⟩,.string ⟨#[]⟩,.string ⟨#[]⟩,.string ⟨#[]⟩,.string ⟨#[]⟩,.string ⟨#[]⟩,.string ⟨#[]⟩,.string ⟨#[]⟩,.string ⟨#[]⟩,.string ⟨#[]⟩,.slice none 0 0,.slice A n c,.int .i64 0]
abbrev xv(key:Bs)(day:Int)(ins:Bs)(A:Option Addr)(n c:Nat):Value := .agg (xc key day ins A n c)
theorem Ig{w w':World}{g:Nat}{key ins:Bs}{day:Int}{A:Option Addr}{n c:Nat}(h:Blk w g 30 (xc key day ins A n c))(hx:Ext w w') :
  w'.cell? ⟨g,0,none⟩=some (.string (bs key))∧w'.cell? ⟨g,1,none⟩=some (.int .i64 0)∧w'.cell? ⟨g,2,none⟩=some (.bool false)∧w'.cell? ⟨g,3,none⟩=some (.int .i64 day)∧w'.cell? ⟨g,4,none⟩=some (.int .i64 10)∧w'.cell? ⟨g,5,none⟩=some (.string (bs ins)) ∧
  w'.cell? ⟨g,6,none⟩=some (.string ⟨#[]⟩)∧w'.cell? ⟨g,7,none⟩=some (.string ⟨#[]⟩)∧w'.cell? ⟨g,8,none⟩=some (.string ⟨#[]⟩)∧w'.cell? ⟨g,9,none⟩=some (.string ⟨#[]⟩)∧w'.cell? ⟨g,10,none⟩=some (.string ⟨#[]⟩)∧w'.cell? ⟨g,11,none⟩=some (.string ⟨#[]⟩) ∧
  w'.cell? ⟨g,12,none⟩=some (.string ⟨#[]⟩)∧w'.cell? ⟨g,13,none⟩=some (.string ⟨#[]⟩)∧w'.cell? ⟨g,14,none⟩=some (.string ⟨#[]⟩)∧w'.cell? ⟨g,15,none⟩=some (.string ⟨#[]⟩)∧w'.cell? ⟨g,16,none⟩=some (.string ⟨#[]⟩)∧w'.cell? ⟨g,17,none⟩=some (.string ⟨#[]⟩) ∧
  w'.cell? ⟨g,18,none⟩=some (.slice none 0 0)∧w'.cell? ⟨g,19,none⟩=some (.slice A n c)∧w'.cell? ⟨g,20,none⟩=some (.int .i64 0):=by
 have k:=h.ext hx;exact⟨k.cell 0,k.cell 1,k.cell 2,k.cell 3,k.cell 4,k.cell 5,k.cell 6,k.cell 7,k.cell 8,k.cell 9,k.cell 10,k.cell 11,k.cell 12,k.cell 13,k.cell 14,k.cell 15,k.cell 16,k.cell 17,k.cell 18,k.cell 19,k.cell 20⟩
end
end Go.Proofs.YthgpheopnhajaaaGreatDoor
