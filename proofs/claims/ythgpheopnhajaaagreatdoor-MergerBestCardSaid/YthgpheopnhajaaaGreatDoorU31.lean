/- The seat's texts, part U31. -/
import Derived.Test.YthgpheopnhajaaaGreatDoorU15
import Derived.Test.YthgpheopnhajaaaGreatDoorU17
import Derived.Test.YthgpheopnhajaaaGreatDoorU20
import Derived.Test.YthgpheopnhajaaaGreatDoorU23
import Derived.Test.YthgpheopnhajaaaGreatDoorU26
import Derived.Test.YthgpheopnhajaaaGreatDoorU27
import Derived.Test.YthgpheopnhajaaaGreatDoorU30
import Derived.Deep.RegionHeld3
import Derived.Deep.MidRow
import Derived.BigFrameIn
set_option maxRecDepth 100000
set_option maxHeartbeats 8000000
namespace Go.Proofs.YthgpheopnhajaaaGreatDoor
section
open Go.RowKit
attribute [local go_sem] size_bs toList_bs
theorem own_on {w w':World} {base:Nat} {v:Value} {ls:List LotV} (h:OwnL w base v ls) (hx:Ext w w'):OwnL w' base v ls:=own_ext2 h hx
def OpenEnds (ls:List LotV) (w:World) (e:Ending) (w':World):Prop :=
 ∃ A c,e = .returned (.tuple #[.slice A ls.length c,.int .i64 0])∧RdL w' A ls∧ls.length≤c∧Ext w w'
theorem lotOpen_ok (ls:List LotV) (x:LotV) (A:Option Addr) (c:Nat) (w:World) (hE:Env w) (hL:LotsAt w A ls) (hs:SmallL x) (hv:checkAllL ls=0) (hx:checkL x=0) (hf:(findL ls x.id).isSome=false) (hl:ls.length<1000) :
  Calls Tryz.prog 57 #[.slice A ls.length c,lv x] w (OpenEnds (insAt ls (putK ls x.ins ls.length) x) w):=by
 have HE:=Lib.hid hE
 have HA:=Lib.hid hL.rd
 have ca:=fun W hx=>lotCheckAll ls A c W (hE.ext hx) (hL.rd.ext hx) hL.sm hL.le
 rw [hv] at ca
 have ck:=lotCheck x hs
 rw [hx] at ck
 have lf:=fun W hx=>lotFind ls A c x.id W (hL.rd.ext hx) (by have:=hL.le;omega)
 rw [hf] at lf
 have CA:=Lib.hid ca
 have CK:=Lib.hid ck
 have LF:=Lib.hid lf
 have HCL:=Lib.hid (fun W hx=>cloneO ls A c W (hL.rd.ext hx) (by have:=hL.le;omega))
 have HB:=Lib.hid (Blk.new w 71 (lc x))
 have HX:Hid (Ext w (w.alloc (.cells (lc x) 71))):=Lib.hid (Ext.new _ _)
 have g1:decide (1000≤(ls.length:Int))=false:=by rw [decide_eq_false_iff_not];omega
 clear ca ck lf hE hL hv hx hf hs
 generalize findI ls x.id=fi at *
 go_enter Tryz.func57,Tryz.ntmps57
 go_wp2_with fail
 refine (CA.out _ HX.out).mono ?_
 rintro e v4 ⟨rfl,hx1⟩
 replace HB:=Lib.hid (HB.out.ext hx1)
 replace HX:=Lib.hid (HX.out.trans hx1)
 clear hx1
 generalize hg:w.heap.size=g at *
 clear hg
 obtain ⟨p0,p1,p2,p3,p4,p5,p6⟩:=lotBlk HB.out (Ext.refl _)
 go_wp2_with fail
 refine (CK.out _ (HE.out.ext HX.out)).mono ?_
 rintro e v5 ⟨rfl,hx1⟩
 replace HB:=Lib.hid (HB.out.ext hx1)
 replace HX:=Lib.hid (HX.out.trans hx1)
 clear hx1
 obtain ⟨p0,p1,p2,p3,p4,p5,p6⟩:=lotBlk HB.out (Ext.refl _)
 go_wp2_with fail
 refine (LF.out _ HX.out).mono ?_
 rintro e v6 ⟨rfl,hx1⟩
 replace HB:=Lib.hid (HB.out.ext hx1)
 replace HX:=Lib.hid (HX.out.trans hx1)
 clear hx1
 clear p0 p1 p2 p3 p4 p5 p6
 go_wp2_with fail
 go_loopw [33,9,10,11] (fun i at_ _ _ wr=>∃ k:Nat,k≤ls.length∧i = .int .i64 k∧at_ = .int .i64 (putK ls x.ins k:Nat)∧Ext w wr∧Blk wr g 71 (lc x)) (fun i _ _ _ _=>ls.length-(intOf i).toNat)
 case atStart=>exact ⟨0,by omega,rfl,rfl,HX.out,HB.out⟩
 case round =>
  clear HX HB
  obtain ⟨k,hk,rfl,rfl,hx,hb⟩:=hrel
  have HX:=Lib.hid hx
  have HB:=Lib.hid hb
  clear hx hb
  obtain ⟨p0,p1,p2,p3,p4,p5,p6⟩:=lotBlk HB.out (Ext.refl _)
  by_cases hlt:k<ls.length
  ·obtain ⟨b,o,rfl,hbl,c0,c1,c2,c3,c4,c5,c6⟩:=(HA.out.ext HX.out).at_ hlt
   have hki:(k:Int)<(ls.length:Int):=by omega
   have hk0:(0:Int)≤(k:Int):=by omega
   have hgl:=HB.out.lt
   have PH:=Lib.hid (fun h=>putK_hit (ins:=x.ins) hlt h)
   have PS:=Lib.hid (fun h=>putK_skip (ins:=x.ins) hlt h)
   generalize hpk:putK ls x.ins k=pk at *
   generalize ls[k]'hlt=y at *
   have HXN:Hid (Ext w (wr.alloc (.cells (lc y) 71))):=Lib.hid (HX.out.alloc _)
   have HBN:Hid (Blk (wr.alloc (.cells (lc y) 71)) g 71 (lc x)):=Lib.hid (HB.out.alloc _)
   obtain ⟨q0,q1,q2,q3,q4,q5,q6⟩:=lotBlk HBN.out (Ext.refl _)
   cases hle:(Op.bytesLess y.ins x.ins || y.ins == x.ins)
   ·have HP:=Lib.hid (PS.out hle)
    clear PH PS hpk
    go_wp2_with fail
    go_roundw
    case rel=>exact ⟨k+1,by omega,by go_num,by rw [HP.out],HXN.out,HBN.out⟩
    case measure=>simp [intOf];omega
   ·have HP:=Lib.hid (PH.out hle)
    clear PH PS hpk
    go_wp2_with fail
    go_roundw
    case rel=>exact ⟨k+1,by omega,by go_num,by rw [HP.out];go_num,HXN.out,HBN.out⟩
    case measure=>simp [intOf];omega
  ·have hkl:k=ls.length:=by omega
   subst hkl
   have hpl:=putK_le ls x.ins ls.length
   generalize putK ls x.ins ls.length=pk at *
   have HIN:=Lib.hid (fun A' c' vb w0 w1 ho hr hx hb=>insertL ls pk x A' c' vb w0 w1 hpl ho hr hx hb (by omega))
   have hgl:=HB.out.lt
   have HD:Hid (Ext w wr.drew):=Lib.hid HX.out.drew
   have HD2:Hid (Ext w (wr.alloc (.cells (lc x) 71)).drew):=Lib.hid (HX.out.alloc _).drew
   go_upto_region 18 with fail
   go_cut [4,5] (fun p4 p5 wx=>∃ A' c',p4 = .slice A' (insAt ls pk x).length c'∧p5 = .int .i64 0∧RdL wx A' (insAt ls pk x)∧(insAt ls pk x).length≤c'∧Ext w wx)
   case first =>
    go_region_held3 (fun w'=>w'.cell? ⟨g,0,none⟩=some (.string (bs x.id))∧w'.cell? ⟨g,1,none⟩=some (.string (bs x.ins))∧w'.cell? ⟨g,2,none⟩=some (.int .i64 x.acq)∧w'.cell? ⟨g,3,none⟩=some (.int .i64 x.opn)∧w'.cell? ⟨g,4,none⟩=some (.string (bs x.q))∧w'.cell? ⟨g,5,none⟩=some (.string (bs x.c))∧w'.cell? ⟨g,6,none⟩=some (.string (bs x.u)))
     (go_keep)
     (first
      |(go_at_call 52;(with_reducible refine (HCL.out _ HD.out).mono ?_);(rintro e w5 ⟨A5,c5,rfl,hx5,ho5,hr5⟩);(have HBW:=Lib.hid (HB.out.drew.ext hx5));(have HO:=Lib.hid (And.intro hx5 (And.intro ho5 hr5)));(obtain ⟨_,_,_,_,_,_,_⟩:=lotBlk HBW.out (Ext.refl _));clear hx5 ho5 hr5)
      |(go_at_call 52;(with_reducible refine (HCL.out _ HD2.out).mono ?_);(rintro e w5 ⟨A5,c5,rfl,hx5,ho5,hr5⟩);(have HBW:=Lib.hid ((HB.out.alloc (.cells (lc x) 71)).drew.ext hx5));(have HO:=Lib.hid (And.intro hx5 (And.intro ho5 hr5)));(obtain ⟨_,_,_,_,_,_,_⟩:=lotBlk HBW.out (Ext.refl _));clear hx5 ho5 hr5)
      |(go_at_call 113;(with_reducible refine (HIN.out A5 c5 w5.heap.size wr.drew _ (own_on HO.out.2.1 (Ext.new _ _)) ?_ (HO.out.1.alloc _) (Blk.new _ _ _)).mono ?_);(focus (intro h0;obtain ⟨g5,e5,hg5,hrow5⟩:=HO.out.2.2 h0;exact ⟨g5,e5,hg5,hrow5.ext (Ext.new _ _),Nat.ne_of_gt hrow5.lt⟩));(rintro e w6 ⟨A6,c6,rfl,hr6,hc6,hx6⟩);(have HX6:=Lib.hid (HD.out.trans hx6));(have HBW:=Lib.hid (HB.out.drew.ext hx6));(have HR6:=Lib.hid (And.intro hr6 hc6));(obtain ⟨_,_,_,_,_,_,_⟩:=lotBlk HBW.out (Ext.refl _));clear hr6 hc6 hx6)
      |(go_at_call 113;(with_reducible refine (HIN.out A5 c5 wr.heap.size (wr.alloc (.cells (lc x) 71)).drew _ HO.out.2.1 ?_ HO.out.1 ((Blk.new _ _ _).drew.ext HO.out.1)).mono ?_);(focus (intro h0;obtain ⟨g5,e5,hg5,hrow5⟩:=HO.out.2.2 h0;exact ⟨g5,e5,hg5,hrow5,Nat.ne_of_lt (Nat.lt_of_lt_of_le (by simp) hg5)⟩));(rintro e w6 ⟨A6,c6,rfl,hr6,hc6,hx6⟩);(have HX6:=Lib.hid (HD2.out.trans hx6));(have HBW:=Lib.hid ((HB.out.alloc (.cells (lc x) 71)).drew.ext hx6));(have HR6:=Lib.hid (And.intro hr6 hc6));(obtain ⟨_,_,_,_,_,_,_⟩:=lotBlk HBW.out (Ext.refl _));clear hr6 hc6 hx6))
    all_goals
     go_wp2_with fail
     go_meet
     exact ⟨A6,c6,rfl,rfl,HR6.out.1,HR6.out.2,HX6.out⟩
   case rest =>
    obtain ⟨A9,c9,rfl,rfl,hr9,hc9,hx9⟩:=hcut
    have HR:=Lib.hid (And.intro hr9 (And.intro hc9 hx9))
    clear hr9 hc9 hx9
    go_wp2_with fail
    go_ret2
    exact ⟨A9,c9,rfl,HR.out.1,HR.out.2.1,HR.out.2.2⟩
end
section
open Go.RowKit Go.Shelf
abbrev exKey:Bs:=[120]
abbrev exIns:Bs:=[97,98,99]
abbrev exL1:LotV:=⟨[97,47,49],[97,98,99],19700,19700,[49,48],[49,48,48],[]⟩
abbrev exL2:LotV:=⟨[98,47,49],[97,98,99],19710,19710,[53],[50,48],[]⟩
abbrev exLs:List LotV:=[exL1,exL2]
abbrev exO:OptV:=⟨[100,101,102],⟨[49],[50]⟩,⟨[50],[]⟩,⟨[49,54],[]⟩⟩
theorem ofI_of {l:Bs} {z:Int} (h:checkI l=0) (hv:valI l=z):ofI z=l:=by subst hv;exact checkI_ok.1 h
theorem ofQ_of {q:Rat} {n d:Bs} {z:Int} {k:Nat} (h1:q.num=z) (h2:q.den=k) (h3:k≠1) (hn:ofI z=n) (hd:ofI (k:Int)=d):ofQ q=⟨n,d⟩:=by
 unfold ofQ
 rw [h1,h2,if_neg h3,hn,hd]
theorem ex_all:checkAllL exLs=0:=by decide +kernel
theorem ex_of:ofL exLs exIns=exLs:=by rfl
theorem ex_q:totQ exLs exIns=15:=by decide +kernel
theorem ex_c:totC exLs exIns=120:=by decide +kernel
theorem ex_e:optE exO=0:=by decide +kernel
theorem ex_k:isName exKey=true:=by decide +kernel
theorem ex_i:isName exIns=true:=by decide +kernel
theorem ex_parts:partsV [49,53] exO.r=([55],⟨[49],[50]⟩,0):=by
 have e1:partsE [49,53] exO.r=0:=by decide +kernel
 have e2:partsW [49,53] exO.r=[55]:=by
  unfold partsW
  rw [show floorQ (partsP [49,53] exO.r)=7 by decide +kernel]
  exact ofI_of (by decide +kernel) (by decide +kernel)
 have e3:partsR [49,53] exO.r=⟨[49],[50]⟩:=by
  unfold partsR
  exact ofQ_of (z:=1) (k:=2) (by decide +kernel) (by decide +kernel) (by decide) (ofI_of (by decide +kernel) (by decide +kernel)) (ofI_of (by decide +kernel) (by decide +kernel))
 unfold partsV
 rw [if_pos e1,e2,e3]
theorem ex_val1:ofQ (frQ ⟨[49],[50]⟩*frQ exO.v)=⟨[56],[]⟩:=by
 have:frQ ⟨[49],[50]⟩*frQ exO.v=((8:Int):Rat):=by decide +kernel
 rw [this,ofQ_int,ofI_of (l:=[56]) (z:=8) (by decide +kernel) (by decide +kernel)]
theorem ex_terms:termsV exO [49,53]=([55],[51,56],⟨[49],[50]⟩,0):=by
 have e1:termsS exO [49,53]=([55],⟨[49],[50]⟩,0):=by
  unfold termsS
  rw [if_neg (by decide)]
  exact ex_parts
 have e2:termsZ exO [49,53] ⟨[49],[50]⟩=[51,56]:=by
  unfold termsZ
  rw [ex_val1]
  exact ofI_of (by decide +kernel) (by decide +kernel)
 unfold termsV
 rw [e1]
 dsimp only
 rw [if_pos rfl,e2]
theorem ex_val:valZ exO.v [55]=112:=by decide +kernel
theorem ex_rec:recG 120 38 112=30:=by decide +kernel
theorem ex_w1:WtOK (exLs.map (·.q)):=⟨by decide,by decide,by decide,by decide +kernel,by decide +kernel,by decide +kernel⟩
theorem ex_w2:WtOK (exLs.map (·.c)):=⟨by decide,by decide,by decide,by decide +kernel,by decide +kernel,by decide +kernel⟩
theorem ord1:(ordR [10,5]).map (·.val)=[0,1]:=by
 have e:ordR [10,5]=[(0:Fin 2),1]:=by
  show List.mergeSort [(0:Fin 2),1] (fun a b=>!ltR [10,5] b a)=_
  simp [List.mergeSort,List.MergeSort.Internal.splitInTwo,List.merge]
  decide
 rw [e];rfl
theorem ord2:(ordR [5,10]).map (·.val)=[1,0]:=by
 have e:ordR [5,10]=[(1:Fin 2),0]:=by
  show List.mergeSort [(0:Fin 2),1] (fun a b=>!ltR [5,10] b a)=_
  simp [List.mergeSort,List.MergeSort.Internal.splitInTwo,List.merge]
  decide
 rw [e];rfl
theorem ord3:(ordR [40,80]).map (·.val)=[1,0]:=by
 have e:ordR [40,80]=[(1:Fin 2),0]:=by
  show List.mergeSort [(0:Fin 2),1] (fun a b=>!ltR [40,80] b a)=_
  simp [List.mergeSort,List.MergeSort.Internal.splitInTwo,List.merge]
  decide
 rw [e];rfl
theorem split2 {T a b x y:Int} {i j:Nat} (h0:¬ T<0) (hx:rstL T [a,b]=[x,y]) (ho:(ordR [x,y]).map (·.val)=[i,j]) (hm:(missN T [a,b]).toNat=1):splitV T [a,b]=bumpAll (prtL T [a,b]) [i]:=by
 unfold splitV splitP topL
 rw [if_neg h0,hm,hx,List.map_take,ho]
 rfl
theorem ex_d1:DivT (·.q) [55] exLs=[[53],[50]]:=by
 unfold DivT
 rw [show splitV (valI [55]) ((exLs.map (·.q)).map valI)=[5,2] from (split2 (T:=7) (by decide) (by decide +kernel) ord1 (by decide +kernel)).trans (by decide +kernel)]
 show [ofI 5,ofI 2]=_
 rw [ofI_of (l:=[53]) (z:=5) (by decide +kernel) (by decide +kernel),ofI_of (l:=[50]) (z:=2) (by decide +kernel) (by decide +kernel)]
theorem ex_d2:DivT (·.q) [51,56] exLs=[[50,53],[49,51]]:=by
 unfold DivT
 rw [show splitV (valI [51,56]) ((exLs.map (·.q)).map valI)=[25,13] from (split2 (T:=38) (by decide) (by decide +kernel) ord2 (by decide +kernel)).trans (by decide +kernel)]
 show [ofI 25,ofI 13]=_
 rw [ofI_of (l:=[50,53]) (z:=25) (by decide +kernel) (by decide +kernel),ofI_of (l:=[49,51]) (z:=13) (by decide +kernel) (by decide +kernel)]
theorem ex_d3:DivT (·.c) [49,49,50] exLs=[[57,51],[49,57]]:=by
 unfold DivT
 rw [show splitV (valI [49,49,50]) ((exLs.map (·.c)).map valI)=[93,19] from (split2 (T:=112) (by decide) (by decide +kernel) ord3 (by decide +kernel)).trans (by decide +kernel)]
 show [ofI 93,ofI 19]=_
 rw [ofI_of (l:=[57,51]) (z:=93) (by decide +kernel) (by decide +kernel),ofI_of (l:=[49,57]) (z:=19) (by decide +kernel) (by decide +kernel)]
end
section
open Go.RowKit Go.Shelf
structure Ex2 (W0:World) (U V:Nat) (W:World):Prop where
 os:W.os=W0.os
 tape:W.tape=W0.tape
 output:W.output=W0.output
 size:W0.heap.size≤W.heap.size
 block:∀ i,i<W0.heap.size→i≠U→i≠V→W.heap[i]? = W0.heap[i]?
section
variable {W0 W W':World} {U V:Nat}
theorem Ex2.refl (W0:World) (U V:Nat):Ex2 W0 U V W0:=⟨rfl,rfl,rfl,Nat.le_refl _,fun _ _ _ _=>rfl⟩
theorem Ex2.on (h:Ex2 W0 U V W) (hx:Ext W W'):Ex2 W0 U V W' :=
 ⟨hx.os.trans h.os,hx.tape.trans h.tape,hx.output.trans h.output,Nat.le_trans h.size hx.size,fun i hi h1 h2=>(hx.block i (Nat.lt_of_lt_of_le hi h.size)).trans (h.block i hi h1 h2)⟩
theorem Ex2.after {w:World} (hx:Ext w W0) (h:Ex2 W0 U V W) (hU:w.heap.size≤U) (hV:w.heap.size≤V):Ext w W :=
 ⟨h.os.trans hx.os,h.tape.trans hx.tape,h.output.trans hx.output,Nat.le_trans hx.size h.size,fun i hi=>(h.block i (Nat.lt_of_lt_of_le hi hx.size) (by omega) (by omega)).trans (hx.block i hi)⟩
theorem Ex2.blk {g:Nat} {t:TypeId} {cs:Array Value} (h:Ex2 W0 U V W) (hb:Blk W0 g t cs) (h1:g≠U) (h2:g≠V):Blk W g t cs:=(h.block g hb.lt h1 h2).trans hb
theorem Ex2.set {g k:Nat} (h:Ex2 W0 U V W) (hg:g=U∨g=V∨W0.heap.size≤g) (v:Value):Ex2 W0 U V (W.setCell ⟨g,k,none⟩ v):=by
 have hs:(W.setCell ⟨g,k,none⟩ v).heap.size=W.heap.size:=by simp [World.setCell]
 refine ⟨h.os,h.tape,h.output,by rw [hs];exact h.size,fun i hi h1 h2=>(Below.heap_setCell W ⟨g,k,none⟩ v i ?_).trans (h.block i hi h1 h2)⟩
 intro e
 have e:i=g:=e
 omega
theorem Ex2.grown {v:Value} (h:Ex2 W0 U V W) (hg:W.grownBy W' v.ownBlock) (hb:∀ k,v.ownBlock=some k→W0.heap.size≤k):Ex2 W0 U V W' :=
 ⟨hg.os.trans h.os,hg.tape.trans h.tape,hg.output.trans h.output,Nat.le_trans h.size hg.size,fun i hi h1 h2=>(hg.block i (Nat.lt_of_lt_of_le hi h.size) (fun e=>by have:=hb i e.symm;omega)).trans (h.block i hi h1 h2)⟩
theorem Ex2.put {l:Nat} (h:Ex2 W0 U V W) (hl:W0.heap.size≤l) (o:Obj):Ex2 W0 U V (W.putObj l o):=by
 refine ⟨h.os,h.tape,h.output,by simp [World.putObj];exact h.size,fun i hi h1 h2=>?_⟩
 rw [World.putObj_heap_other (by omega)]
 exact h.block i hi h1 h2
theorem Ex2.rowS {P cap:Nat} {l:List Bs} (h:Ex2 W0 U V W) (hr:RowS W0 P cap l) (h1:P≠U) (h2:P≠V):RowS W P cap l:=by
 obtain ⟨cur,hr⟩:=hr
 exact ⟨cur,{ hr with blk:=h.blk hr.blk h1 h2 }⟩
theorem Ex2.own {base:Nat} {e:TypeId} {size n:Nat} {v:Value} {xs:List Value} (h:Ex2 W0 U V W) (ho:W0.ownsRow base e size v n xs) (h1:v.ownBlock≠some U) (h2:v.ownBlock≠some V):W.ownsRow base e size v n xs:=by
 refine ⟨ho.1,?_⟩
 rcases ho.2 with hn | ⟨g,cap,cur,rfl,hb,hh,hrest⟩
 ·exact .inl hn
 ·refine .inr ⟨g,cap,cur,rfl,hb,(h.block g (Array.getElem?_eq_some_iff.1 hh).1 ?_ ?_).trans hh,hrest⟩
  ·rintro rfl;exact h1 (by simp [Value.ownBlock])
  ·rintro rfl;exact h2 (by simp [Value.ownBlock])
theorem own_grow {base:Nat} {e:TypeId} {size n:Nat} {v u:Value} {xs:List Value} (ho:W.ownsRow base e size v n xs) (hg:W.grownBy W' u.ownBlock) (hne:v.ownBlock=none∨v.ownBlock≠u.ownBlock):W'.ownsRow base e size v n xs:=by
 refine ⟨ho.1,?_⟩
 rcases ho.2 with hn | ⟨g,cap,cur,rfl,hb,hh,hrest⟩
 ·exact .inl hn
 ·refine .inr ⟨g,cap,cur,rfl,hb,(hg.block g (Array.getElem?_eq_some_iff.1 hh).1 ?_).trans hh,hrest⟩
  intro e
  rcases hne with hne | hne
  ·simp [Value.ownBlock] at hne
  ·exact hne (by rw [← e];rfl)
end
theorem rowS_neT {w:World} {P g cap:Nat} {l:List Bs} {t:TypeId} {cs:Array Value} (h:RowS w P cap l) (hb:Blk w g t cs) (hne:24≠t):P≠g:=by
 obtain ⟨cur,h⟩:=h
 exact blk_ne h.blk hb hne
theorem gainInfo:(Tryz.prog.info? 68).map (fun i=>(i.zero,i.size,i.bytes))=some (some (.agg #[.string ⟨#[]⟩,.string ⟨#[]⟩,.string ⟨#[]⟩,.int .i64 0,.int .i64 0,.string ⟨#[]⟩,.string ⟨#[]⟩,.string ⟨#[]⟩,.string ⟨#[]⟩,.string ⟨#[]⟩]),10,144):=by kernel_rfl
theorem stepInfo:(Tryz.prog.info? 76).map (fun i=>(i.zero,i.size,i.bytes))=some (some (.agg #[.string ⟨#[]⟩,.string ⟨#[]⟩,.string ⟨#[]⟩,.string ⟨#[]⟩,.string ⟨#[]⟩,.string ⟨#[]⟩]),6,96):=by kernel_rfl
abbrev gT:TypeId:=68
abbrev sT:TypeId:=76
abbrev lT:TypeId:=71
abbrev rT:TypeId:=37
abbrev bT:TypeId:=22
theorem cellEq {W W':World} {b:Nat} (h:W'.heap[b]? = W.heap[b]?) (i:Nat):W'.cell? ⟨b,i,none⟩=W.cell? ⟨b,i,none⟩:=by
 unfold World.cell?
 dsimp only
 rw [h]
theorem rdL_set {W:World} {A:Option Addr} {ls:List LotV} {g k:Nat} {t:TypeId} {cs:Array Value} {u:Value} (h:RdL W A ls) (hg:Blk W g t cs) (hs:∃ A' n' c',cs[k]? = some (.slice A' n' c')):RdL (W.setCell ⟨g,k,none⟩ u) A ls:=by
 refine ⟨h.1,fun hn=>?_⟩
 obtain ⟨b,o,e,hb,hc⟩:=h.2 hn
 refine ⟨b,o,e,by simpa [World.setCell] using hb,fun j u2 hu=>?_⟩
 have h1:=hc j u2 hu
 by_cases e1:b=g
 ·subst e1
  by_cases e2:o+j=k
  ·subst e2
   obtain ⟨A',n',c',h3⟩:=hs
   rw [hg.cell,h3] at h1
   injection h1 with h1
   have hm:=List.mem_of_getElem? hu
   rw [← h1] at hm
   rw [List.mem_flatMap] at hm
   obtain ⟨x,_,hm⟩:=hm
   unfold lotCells at hm
   simp only [List.mem_cons,List.not_mem_nil,or_false] at hm
   rcases hm with hm | hm | hm | hm | hm | hm | hm <;> cases hm
  ·rw [(hg.set_ k u).cell,Array.getElem?_setIfInBounds_ne (Ne.symm e2),← hg.cell]
   exact h1
 ·rw [← h1]
  exact cellEq (Below.heap_setCell W ⟨g,k,none⟩ u b e1) _
structure RB (W0:World) (U V:Nat) (lp:Loop) (vg vs vf:Value) (kg ks kf:Nat) (gs ss fs:List Value) (W:World):Prop where
 ex:Ex2 W0 U V W
 u:Blk W U rT #[.slice none 0 0,vg,vs,.slice none 0 0]
 v:Blk W V bT #[vf]
 og:W.ownsRow W0.heap.size gT 10 vg kg gs
 os:W.ownsRow W0.heap.size sT 6 vs ks ss
 fo:W.ownsRow W0.heap.size lT 7 vf kf fs
 D:W.heap[W0.heap.size]? = some (.deferred (some []))
 L:W.heap[W0.heap.size+1]? = some (.loop lp)
section
variable {W0 W W':World} {U V:Nat} {lp lp':Loop} {vg vs vf v':Value} {kg ks kf:Nat} {gs ss fs xs:List Value}
theorem RB.on (h:RB W0 U V lp vg vs vf kg ks kf gs ss fs W) (hx:Ext W W'):RB W0 U V lp vg vs vf kg ks kf gs ss fs W' :=
 ⟨h.ex.on hx,h.u.ext hx,h.v.ext hx,own_ext2 h.og hx,own_ext2 h.os hx,own_ext2 h.fo hx,ext_heap h.D hx,ext_heap h.L hx⟩
theorem RB.put (h:RB W0 U V lp vg vs vf kg ks kf gs ss fs W) (hU:U<W0.heap.size) (hV:V<W0.heap.size):RB W0 U V lp' vg vs vf kg ks kf gs ss fs (W.putObj (W0.heap.size+1) (.loop lp')) :=
 ⟨h.ex.put (by omega) _,h.u.put _ (by omega),h.v.put _ (by omega),own_put h.og h.L,own_put h.os h.L,own_put h.fo h.L,put_heap h.D (by omega),World.putObj_heap_same (Array.getElem?_eq_some_iff.1 h.L).1⟩
theorem own_far {base:Nat} {e:TypeId} {size n g k:Nat} {t:TypeId} {cs:Array Value} {v u:Value} {xs:List Value} (ho:W.ownsRow base e size v n xs) (hb:Blk W g t cs) (hne:e≠t):(W.setCell ⟨g,k,none⟩ u).ownsRow base e size v n xs :=
 own_set ho (own_ne ho hb hne) u
theorem blkGrown {u:Value} {g:Nat} {t e:TypeId} {base size n:Nat} {cs:Array Value} (hb:Blk W g t cs) (ho:W.ownsRow base e size u n xs) (hg:W.grownBy W' u.ownBlock) (hne:e≠t):Blk W' g t cs :=
 (hg.block g hb.lt (fun e2=>own_ne ho hb hne e2.symm)).trans hb
theorem RB.gain (h:RB W0 U V lp vg vs vf kg ks kf gs ss fs W) (hU:U<W0.heap.size) (_hV:V<W0.heap.size) (hUV:U≠V) (hg:W.grownBy W' vg.ownBlock) (ho:W'.ownsRow W0.heap.size gT 10 v' (kg+1) xs) :
  Blk W' U rT #[.slice none 0 0,vg,vs,.slice none 0 0]∧RB W0 U V lp v' vs vf (kg+1) ks kf xs ss fs (W'.setCell ⟨U,1,none⟩ v'):=by
 have u':=blkGrown h.u h.og hg (by decide)
 have v2:=blkGrown h.v h.og hg (by decide)
 refine ⟨u',(h.ex.grown hg (own_base h.og)).set (.inl rfl) _,u'.set_ 1 v',v2.far (p:=⟨U,1,none⟩) (Ne.symm hUV) _,own_far ho u' (by decide),own_far (own_grow h.os hg (own_own_ne h.os h.og (by decide))) u' (by decide),own_far (own_grow h.fo hg (own_own_ne h.fo h.og (by decide))) u' (by decide),dfar ?_ (by omega),dfar ?_ (by omega)⟩
 ·exact (hg.block _ (Array.getElem?_eq_some_iff.1 h.D).1 (fun e=>own_noD h.og h.D e.symm)).trans h.D
 ·exact (hg.block _ (Array.getElem?_eq_some_iff.1 h.L).1 (fun e=>own_noL h.og h.L e.symm)).trans h.L
theorem RB.step (h:RB W0 U V lp vg vs vf kg ks kf gs ss fs W) (hU:U<W0.heap.size) (_hV:V<W0.heap.size) (hUV:U≠V) (hg:W.grownBy W' vs.ownBlock) (ho:W'.ownsRow W0.heap.size sT 6 v' (ks+1) xs) :
  Blk W' U rT #[.slice none 0 0,vg,vs,.slice none 0 0]∧RB W0 U V lp vg v' vf kg (ks+1) kf gs xs fs (W'.setCell ⟨U,2,none⟩ v'):=by
 have u':=blkGrown h.u h.os hg (by decide)
 have v2:=blkGrown h.v h.os hg (by decide)
 refine ⟨u',(h.ex.grown hg (own_base h.os)).set (.inl rfl) _,u'.set_ 2 v',v2.far (p:=⟨U,2,none⟩) (Ne.symm hUV) _,own_far (own_grow h.og hg (own_own_ne h.og h.os (by decide))) u' (by decide),own_far ho u' (by decide),own_far (own_grow h.fo hg (own_own_ne h.fo h.os (by decide))) u' (by decide),dfar ?_ (by omega),dfar ?_ (by omega)⟩
 ·exact (hg.block _ (Array.getElem?_eq_some_iff.1 h.D).1 (fun e=>own_noD h.os h.D e.symm)).trans h.D
 ·exact (hg.block _ (Array.getElem?_eq_some_iff.1 h.L).1 (fun e=>own_noL h.os h.L e.symm)).trans h.L
theorem RB.lot (h:RB W0 U V lp vg vs vf kg ks kf gs ss fs W) (_hU:U<W0.heap.size) (hV:V<W0.heap.size) (hUV:U≠V) (hg:W.grownBy W' vf.ownBlock) (ho:W'.ownsRow W0.heap.size lT 7 v' (kf+1) xs) :
  Blk W' V bT #[vf]∧RB W0 U V lp vg vs v' kg ks (kf+1) gs ss xs (W'.setCell ⟨V,0,none⟩ v'):=by
 have u':=blkGrown h.u h.fo hg (by decide)
 have v2:=blkGrown h.v h.fo hg (by decide)
 refine ⟨v2,(h.ex.grown hg (own_base h.fo)).set (.inr (.inl rfl)) _,u'.far (p:=⟨V,0,none⟩) hUV _,v2.set_ 0 v',own_far (own_grow h.og hg (own_own_ne h.og h.fo (by decide))) v2 (by decide),own_far (own_grow h.os hg (own_own_ne h.os h.fo (by decide))) v2 (by decide),own_far ho v2 (by decide),dfar ?_ (by omega),dfar ?_ (by omega)⟩
 ·exact (hg.block _ (Array.getElem?_eq_some_iff.1 h.D).1 (fun e=>own_noD h.fo h.D e.symm)).trans h.D
 ·exact (hg.block _ (Array.getElem?_eq_some_iff.1 h.L).1 (fun e=>own_noL h.fo h.L e.symm)).trans h.L
end
end
section
open Go.RowKit Go.BigFrame
section
variable {F:Fence} {n:Nat} {P:Program} {ops:Array Oper} {Q:Exit→Act→World→Prop} {a:Act} {w:World} {rest:List Oper} {o:Oper}
theorem wpListIn_loadG (hfn:∀ k,F.fn k) (hw:Region.wanted o (yielded ops a.tmps)=true) (ty:TypeId) (x:Operand) (ho:o.op = .load ty x)
  (b off:Nat) (hx:a.eval x = .pointer (some ⟨b,off,none⟩)) (cs:List Value) (d:TypeDesc) (hc:w.rangeAt b off cs)
  (hu:P.underlying ty=some d) (hd:d.isRow=true) (hi:(P.info? ty).map (·.size)=some cs.length)
  (h:wpListIn F n P ops Q rest (a.put o.dst (.agg cs.toArray)) w):wpListIn F n P ops Q (o :: rest) a w:=by
 refine wpListIn_want hw fun K hK=>?_
 unfold Oper.wpIn
 refine ⟨fun f _=>hfn f,?_⟩
 rw [semAt_plain (by rw [ho];rfl)]
 unfold execOp
 simp only [ho,hx,Instr.loadAt,Instr.sureAddr,Sem.run_bind,Sem.run_pure,Result.andThen_ok,run_loadVar_mid w b off ty cs d hc hu hd hi]
 exact hK _ _ h
theorem wpListIn_store1 (hfn:∀ k,F.fn k) (hg:o.guard=none) (ty:TypeId) (x y:Operand) (ho:o.op = .store ty x y) (p v:Value) (hx:a.eval x=p) (hy:a.eval y=v) (w':World)
  (hrun:(Instr.storeAt ty p v).run P w = .ok () w') (h:wpListIn F n P ops Q rest (a.put o.dst undef) w'):wpListIn F n P ops Q (o :: rest) a w:=by
 refine wpListIn_plain hg fun K hK=>?_
 unfold Oper.wpIn
 refine ⟨fun f _=>hfn f,?_⟩
 rw [semAt_plain (by rw [ho];rfl)]
 unfold execOp
 simp only [ho,hx,hy,Sem.run_bind,hrun,Result.andThen_ok]
 exact hK _ _ h
end
end
end Go.Proofs.YthgpheopnhajaaaGreatDoor
