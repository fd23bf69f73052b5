/- The seat's texts, part U5. -/
import Derived.Test.YthgpheopnhajaaaGreatDoorU2
import Derived.Test.YthgpheopnhajaaaGreatDoorU3
import Derived.Test.YthgpheopnhajaaaGreatDoorU4
import Derived.BigQuiet
import Derived.Deep.RegionHeld3
set_option maxRecDepth 100000
set_option maxHeartbeats 8000000
namespace Go.Proofs.YthgpheopnhajaaaGreatDoor
section
open Go.RowKit
attribute [local go_sem] size_bs toList_bs
def icells (gs:List Nat):List Value:=gs.map fun g:Nat=>Value.int .i64 (g:Int)
def RdI (w:World) (A:Option Addr) (gs:List Nat):Prop:=Reads w 1 A gs.length (icells gs)
theorem RdI.ext {w w':World} {A:Option Addr} {gs:List Nat} (h:RdI w A gs) (he:Ext w w'):RdI w' A gs:=Reads.ext h he
theorem RdI.at_ {w:World} {A:Option Addr} {gs:List Nat} (h:RdI w A gs) {k:Nat} (hk:k<gs.length) :
  ∃ b o,A=some ⟨b,o,none⟩∧b<w.heap.size∧w.cell? ⟨b,o+k,none⟩=some (.int .i64 (gs[k]'hk)):=by
 obtain ⟨b,o,rfl,hb⟩:=Reads.at_ h (by omega)
 exact ⟨b,o,rfl,hb,Reads.cell h (by simp [icells,hk])⟩
theorem RdI.take {w:World} {A:Option Addr} {gs:List Nat} (h:RdI w A gs) (n:Nat):RdI w A (gs.take n):=by
 refine ⟨by simp [icells],fun hn=>?_⟩
 have h0:0<gs.length:=by rw [List.length_take] at hn;omega
 obtain ⟨b,o,rfl,hb,hc⟩:=h.2 h0
 refine ⟨b,o,rfl,hb,fun j u hu=>hc j u ?_⟩
 unfold icells at hu ⊢
 rw [List.map_take,List.getElem?_take] at hu
 split at hu
 ·exact hu
 ·cases hu
theorem refTrim (gs:List Nat) (A:Option Addr) (c:Nat) (w:World) (hA:RdI w A gs) (hc:gs.length≤c) (hm:c≤maxLen) (hb:∀ g ∈ gs,g<B9) :
  Calls Tryz.prog 281 #[.slice A gs.length c] w fun e w'=>e = .returned (.slice A (cutL gs).length c)∧w=w':=by
 have HA:=Lib.hid hA
 have HB:=Lib.hid hb
 unfold maxLen at hm
 clear hA hb
 go_enter Tryz.func281,Tryz.ntmps281
 go_wp2_with fail
 go_loop [0] (fun v=>∃ k:Nat,k≤gs.length∧v = .slice A k c∧cutL (gs.take k)=cutL gs) (fun v=>slLen v)
 case atStart=>exact ⟨gs.length,Nat.le_refl _,rfl,by rw [List.take_length]⟩
 case round =>
  obtain ⟨k,hk,rfl,hz⟩:=hrel
  have HZ:=Lib.hid hz
  clear hz
  rcases Nat.eq_zero_or_pos k with h0 | h0
  ·subst h0
   have HL:Hid ((cutL gs).length=0):=Lib.hid (by rw [← HZ.out];rfl)
   go_wp2_with fail
   go_ret
   exact ⟨by rw [HL.out];rfl,rfl⟩
  ·obtain ⟨j,rfl⟩:∃ j,k=j+1:=⟨k-1,by omega⟩
   have hj:j<gs.length:=by omega
   obtain ⟨b,o,rfl,hbw,hcell⟩:=HA.out.at_ hj
   have hts:gs.take (j+1)=gs.take j++[gs[j]]:=List.take_succ_eq_append_getElem hj
   have HTS:=Lib.hid hts
   clear hts
   by_cases hg:gs[j]=0
   ·have HN:Hid (cutL (gs.take j)=cutL gs):=Lib.hid (by rw [← HZ.out,HTS.out,hg,cutL_snoc_zero])
    rw [hg] at hcell
    clear hg
    go_wp2_with fail
    go_round
    case rel=>exact ⟨j,by omega,rfl,HN.out⟩
    case measure=>simp [slLen]
   ·have HL:Hid ((cutL gs).length=j+1):=Lib.hid (by rw [← HZ.out,HTS.out,cutL_snoc _ hg];simp;omega)
    have hgb:((gs[j]:Int) == 0)=false:=by rw [beq_eq_false_iff_ne];omega
    clear hg
    generalize (gs[j]'hj)=g at *
    go_wp2_with fail
    go_ret
    exact ⟨by rw [HL.out];rfl,rfl⟩
theorem refGroup (gs:List Nat) (A:Option Addr) (c k:Nat) (w:World) (hA:RdI w A gs) (_hn:gs.length≤1000000) :
  Calls Tryz.prog 280 #[.slice A gs.length c,.int .i64 (k:Int)] w fun e w'=>e = .returned (.int .i64 (at0 gs k:Nat))∧w=w':=by
 have HA:=Lib.hid hA
 clear hA
 by_cases h:k<gs.length
 ·obtain ⟨b,o,rfl,hb,hcell⟩:=HA.out.at_ h
  have HV:=Lib.hid (at0_lt h)
  generalize gs[k]'h=g at *
  go_enter Tryz.func280,Tryz.ntmps280
  go_wp2_with fail
  go_ret
  exact ⟨by rw [HV.out];rfl,rfl⟩
 ·have HV:=Lib.hid (at0_ge (l:=gs) (k:=k) (by omega))
  go_enter Tryz.func280,Tryz.ntmps280
  go_wp2_with fail
  go_ret
  exact ⟨by rw [HV.out];rfl,rfl⟩
theorem refOrder (x y:Nat) (A A':Option Addr) (c c':Nat) (w:World) (hA:RdI w A (gr x)) (hA':RdI w A' (gr y)) (hn:(gr x).length≤1000000) (_hn':(gr y).length≤1000000) :
  Calls Tryz.prog 247 #[.slice A (gr x).length c,.slice A' (gr y).length c'] w (CmpEnds x y w):=by
 have HA:=Lib.hid hA
 have HA':=Lib.hid hA'
 clear hA hA'
 by_cases hl:(gr x).length=(gr y).length
 ·have HLL:=Lib.hid hl
  have hbl:(((gr x).length:Int) != ((gr y).length:Int))=false:=by rw [bne_eq_false_iff_eq];omega
  have HLS:=Lib.hid (fun k (a:k<(gr x).length) (b:k<(gr y).length) he h=>gr_less (x:=x) (y:=y) (k:=k) hl a b he h)
  have HGT:=Lib.hid (fun k (a:k<(gr y).length) (b:k<(gr x).length) he h=>gr_less (x:=y) (y:=x) (k:=k) hl.symm a b he h)
  have HEQ:Hid (gr x=gr y→x=y):=Lib.hid gr_inj
  generalize gr x=gx at *
  generalize gr y=gy at *
  clear hl
  go_enter Tryz.func247,Tryz.ntmps247
  go_wp2_with fail
  go_loopw [5,31,40] (fun z _ _ wr=>∃ k:Nat,k≤gx.length∧z = .int .i64 ((k:Int)-1)∧(∀ (j:Nat) (h1:j<gx.length) (h2:j<gy.length),k≤j→gx[j]=gy[j])∧Ext w wr) (fun z _ _ _=>(intOf z+1).toNat)
  case atStart=>exact ⟨gx.length,Nat.le_refl _,rfl,fun j h1 _ hj=>absurd h1 (by omega),Ext.refl _⟩
  case round =>
   obtain ⟨k,hk,rfl,hz,hx⟩:=hrel
   have HZ:=Lib.hid hz
   have HX:=Lib.hid hx
   clear hz hx
   rcases Nat.eq_zero_or_pos k with h0 | h0
   ·subst h0
    have HY:Hid (x=y):=Lib.hid (HEQ.out (List.ext_getElem HLL.out (fun j h1 h2=>HZ.out j h1 h2 (by omega))))
    go_wp2_with fail
    go_ret
    exact ⟨HX.out,0,rfl,.inr (.inl ⟨rfl,HY.out⟩)⟩
   ·obtain ⟨j,rfl⟩:∃ j,k=j+1:=⟨k-1,by omega⟩
    have hj:j<gx.length:=by omega
    have hj':j<gy.length:=by have:=HLL.out;omega
    obtain ⟨b,o,rfl,hbw,hcell⟩:=(HA.out.ext HX.out).at_ hj
    obtain ⟨b',o',rfl,hbw',hcell'⟩:=(HA'.out.ext HX.out).at_ hj'
    have e0:((j+1:Nat):Int)-1=(j:Int):=by omega
    rw [e0]
    clear e0
    rcases Nat.lt_trichotomy (gx[j]'hj) (gy[j]'hj') with h | h | h
    ·have HY:Hid (x<y):=Lib.hid (HLS.out j hj hj' (fun i h1 h2 hi=>HZ.out i h1 h2 (by omega)) h)
     generalize (gx[j]'hj)=p at *
     generalize (gy[j]'hj')=q at *
     go_wp2_with fail
     go_quiet (fail)
     go_wp2_with fail
     go_ret
     exact ⟨HX.out.drewN _, -1,rfl,.inl ⟨by decide,HY.out⟩⟩
    ·have HNX:=Lib.hid (fun i (h1:i<gx.length) (h2:i<gy.length) (hi:j≤i)=>(by
      rcases Nat.lt_or_ge j i with h' | h'
      ·exact HZ.out i h1 h2 (by omega)
      ·obtain rfl:i=j:=by omega
       exact h:gx[i]=gy[i]))
     rw [← h] at hcell'
     generalize (gx[j]'hj)=p at *
     clear h
     go_wp2_with fail
     go_quiet (fail)
     go_wp2_with fail
     go_quiet (fail)
     go_wp2_with fail
     go_roundw
     case rel=>exact ⟨j,by omega,rfl,HNX.out,HX.out.drewN _⟩
     case measure=>simp [intOf]
    ·have HY:Hid (y<x):=Lib.hid (HGT.out j hj' hj (fun i h1 h2 hi=>(HZ.out i h2 h1 (by omega)).symm) h)
     have hb1:¬ (gx[j]'hj)<(gy[j]'hj'):=by omega
     generalize (gx[j]'hj)=p at *
     generalize (gy[j]'hj')=q at *
     go_wp2_with fail
     go_quiet (fail)
     go_wp2_with fail
     go_quiet (fail)
     go_wp2_with fail
     go_ret
     exact ⟨(HX.out.drewN _).drewN _,1,rfl,.inr (.inr ⟨by decide,HY.out⟩)⟩
 ·have hbl:(((gr x).length:Int) != ((gr y).length:Int))=true:=by rw [bne_iff_ne];omega
  rcases Nat.lt_or_ge (gr x).length (gr y).length with h | h
  ·have HY:Hid (x<y):=Lib.hid (gr_shorter h)
   generalize gr x=gx at *
   generalize gr y=gy at *
   clear hl
   go_enter Tryz.func247,Tryz.ntmps247
   go_wp2_with fail
   go_ret
   exact ⟨Ext.refl _, -1,rfl,.inl ⟨by decide,HY.out⟩⟩
  ·have HY:Hid (y<x):=Lib.hid (gr_shorter (by omega))
   have h':¬ (gr x).length<(gr y).length:=by omega
   generalize gr x=gx at *
   generalize gr y=gy at *
   clear hl
   go_enter Tryz.func247,Tryz.ntmps247
   go_wp2_with fail
   go_ret
   exact ⟨Ext.refl _,1,rfl,.inr (.inr ⟨by decide,HY.out⟩)⟩
end
section
open Go.RowKit Go.Shelf
attribute [local go_sem] size_bs toList_bs extract_bs get_bs append_bs lit_append append_lit
theorem i64Info:(Tryz.prog.info? 3).map (fun i=>(i.zero,i.size,i.bytes))=some (some (.int .i64 0),1,8):=by kernel_rfl
theorem results_numI {fn:Func} {a:Tmp} (h:fn.results=#[.cell a 230]) (tmps:Array Value) (w:World) (g:Nat) (x y:Value) (ha:tmps.getD a undef = .pointer (some ⟨g,0,none⟩)) (hb:Blk w g 230 #[x,y]) :
  (results fn tmps).run Tryz.prog w = .ok (.agg #[x,y]) w:=by
 have h0:=hb.cell 0
 have h1:=hb.cell 1
 simp only [List.getElem?_toArray,List.getElem?_cons_zero,List.getElem?_cons_succ] at h0 h1
 unfold results
 rw [h]
 simp only [List.mapM_toArray,List.mapM_cons,List.mapM_nil,ha]
 go_simp
def NumEndsI (neg:Bool) (gs:List Nat) (w:World) (e:Ending) (w':World):Prop :=
 ∃ A c,e = .returned (.agg #[.bool neg,.slice A gs.length c])∧RdI w' A gs∧Ext w w'∧gs.length≤c∧c≤maxLen
def ReadAtI (m:Bs) (N:Nat) (ng:Bool) (w:World) (z:Value) (wr:World):Prop :=
 ∃ (y:Int) (done:List Nat) (v:Value),z = .int .i64 y ∧ -9<y∧y≤m.length∧wr.ownsRow (w.heap.size+2) 3 1 v done.length (icells done)∧done++groupsOf (m.take y.toNat)=gr N∧Ext w wr∧Blk wr w.heap.size 230 #[.bool false,.slice none 0 0]∧Blk wr (w.heap.size+1) 230 #[.bool ng,v]
theorem drop_snoc (m:Bs) (a k:Nat) (ha:a≤k) (hk:k<m.length):natOf ((m.take (k+1)).drop a)=10*natOf ((m.take k).drop a)+dval (m[k]'hk):=by
 rw [List.take_succ_eq_append_getElem hk,List.drop_append_of_le_length (by rw [List.length_take];omega),natOf_snoc]
theorem nine_lt {m:Bs} (hd:m.all isD=true) (a k:Nat) (h:k≤a+9):natOf ((m.take k).drop a)<1000000000:=by
 have h1:=natOf_lt (l:=(m.take k).drop a) (all_drop (all_take hd k) a)
 have h2:((m.take k).drop a).length≤9:=by rw [List.length_drop,List.length_take];omega
 exact Nat.lt_of_lt_of_le h1 (Nat.le_trans (Nat.pow_le_pow_right (by decide) h2) (by decide))
theorem refReadN (l:Bs) (w:World) (hs:l.length≤1000000) :
  Calls Tryz.prog 195 #[.string (bs l)] w (NumEndsI (neg l) (gr (natOf (mag l))) w):=by
 obtain ⟨i0,hI,hz0,hz1,hz2⟩:=info_parts i64Info
 have hml:=mag_le l
 have HG:=Lib.hid (groupsOf_gr (mag l) (mag_all l) (mag_lead l))
 have HD:=Lib.hid (mag_all l)
 have HGL:Hid ((gr (natOf (mag l))).length≤1000000):=Lib.hid (by rw [← groupsOf_gr (mag l) (mag_all l) (mag_lead l)];have:=groupsOf_len (mag l);omega)
 have HI:=Lib.hid hI
 have HS:=Lib.hid (Nat.le_trans hml hs)
 have HDIG:=Lib.hid (fun w=>refDigits l w (by omega))
 clear hI hml
 generalize hm:mag l=m at *
 generalize hN:natOf m=N at *
 generalize hng:neg l=ng at *
 clear hm hng hs hN
 have HX0:Hid (Ext w ((w.alloc (.cells #[.bool false,.slice none 0 0] 230)).alloc (.cells #[.bool ng,.slice none 0 0] 230))):=Lib.hid ((Ext.new _ _).alloc _)
 have HB0:Hid (Blk ((w.alloc (.cells #[.bool false,.slice none 0 0] 230)).alloc (.cells #[.bool ng,.slice none 0 0] 230)) w.heap.size 230 #[.bool false,.slice none 0 0]):=Lib.hid ((blk_at w _ _ w.heap.size rfl).alloc _)
 have HB1:Hid (Blk ((w.alloc (.cells #[.bool false,.slice none 0 0] 230)).alloc (.cells #[.bool ng,.slice none 0 0] 230)) (w.heap.size+1) 230 #[.bool ng,.slice none 0 0]):=Lib.hid (blk_at (w.alloc (.cells #[.bool false,.slice none 0 0] 230)) _ _ (w.heap.size+1) (by simp))
 go_enter Tryz.func195,Tryz.ntmps195
 go_wp2_with fail
 refine (HDIG.out _).mono ?_
 rintro e w1 ⟨rfl,rfl⟩
 clear HDIG
 have hsm:=HS.out
 go_wp2_with fail
 go_loopw [6,7,8] (fun z _ _ wr=>ReadAtI m N ng w z wr) (fun z _ _ _=>(intOf z).toNat)
 case atStart=>exact ⟨m.length,[],.slice none 0 0,rfl,by omega,by omega,⟨rfl,.inl ⟨rfl,rfl⟩⟩,by rw [Int.toNat_natCast,List.take_of_length_le (Nat.le_refl _),List.nil_append];exact HG.out,HX0.out,HB0.out,HB1.out⟩
 case round =>
  clear HX0 HB0 HB1
  obtain ⟨z,done,v,rfl,hz1',hz2',hown,hsum,hx,hb0,hb1⟩:=hrel
  have HOWN:=Lib.hid hown
  have HSUM:=Lib.hid hsum
  have HX:=Lib.hid hx
  have HBR:=Lib.hid hb0
  have HBO:=Lib.hid hb1
  clear hown hsum hx hb0 hb1
  by_cases hpos:0<z
  ·obtain ⟨e,rfl⟩:∃ e:Nat,z=(e:Int):=⟨z.toNat,by omega⟩
   have hel:e≤m.length:=by omega
   have he0:0<e:=by omega
   have HST:=Lib.hid (groups_step he0 hel)
   have HLN:Hid (done.length≤1000000):=Lib.hid (by
    have h1:=congrArg List.length HSUM.out
    rw [List.length_append] at h1
    have h2:=HGL.out;omega)
   have HNX:Hid (done++[natOf ((m.take e).drop (e-9))]++groupsOf (m.take (e-9))=gr N):=Lib.hid (by
    rw [← HSUM.out,Int.toNat_natCast,HST.out];simp)
   have hmx:max (0:Int) ((e:Int)-9)=((e-9:Nat):Int):=by omega
   have ha9:e-9≤e:=by omega
   have ha10:e≤(e-9)+9:=by omega
   have HEA:Hid (((e:Int)-9).toNat=e-9):=Lib.hid (by omega)
   clear HST
   generalize hea:e-9=a at *
   go_wp2_with fail
   clear hmx
   go_loop [7,8] (fun nv iv=>∃ k:Nat,a≤k∧k≤e∧iv = .int .i64 k∧nv = .int .i64 (natOf ((m.take k).drop a):Nat)) (fun _ iv=>e-(intOf iv).toNat)
   case atStart=>exact ⟨a,Nat.le_refl _,ha9,rfl,by rw [List.drop_eq_nil_of_le (by rw [List.length_take];omega)];rfl⟩
   case round =>
    obtain ⟨k,hak,hke,rfl,rfl⟩:=hrel
    by_cases hlt:k<e
    ·have hkm:k<m.length:=by omega
     have hv:=nine_lt HD.out a k (by omega)
     have HDS:=Lib.hid (drop_snoc m a k hak hkm)
     obtain ⟨hc1,hc2,hc3⟩:=dval_u8 (all_at HD.out hkm)
     have HC:=Lib.hid hc3
     clear hc3
     generalize natOf ((m.take k).drop a)=p at *
     go_wp2_with fail
     go_round
     case rel=>exact ⟨k+1,by omega,by omega,by go_num,by rw [HDS.out];have:=HC.out;congr 1;omega⟩
     case measure=>simp [intOf];omega
    ·obtain rfl:k=e:=by omega
     have hv:=nine_lt HD.out a k ha10
     generalize natOf ((m.take k).drop a)=p at *
     have hln:=HLN.out
     have q1:=HBO.out.cell 1
     simp only [List.getElem?_toArray,List.getElem?_cons_zero,List.getElem?_cons_succ] at q1
     go_wp2_with (at_builtin;refine wpList_append_lies _ rfl (.tmp 39) (.tmp 41) 206 rfl (w.heap.size+2) 3 i0 _ 1 8 Tryz.underlying206 HI.out hz0 hz1 hz2 rfl (by decide) _ done.length (icells done) rfl (own_ext2 HOWN.out (Ext.new _ _)) ⟨wr.heap.size,0,none⟩ 1 1 [.int .i64 p] rfl rfl (World.news_of_block (heap_alloc_new wr _)) (by simp [Value.oneCell']) (by omega) (by simp only [maxLen];omega) (by omega) (by have:=HBO.out.lt;simp;omega) _ rfl ?_;intro g' cap' w' hown hgrow hat hlt';have HGR:=Lib.hid hgrow;have HON:=Lib.hid hown;have hbo:=(hgrow.block (w.heap.size+1) (by have:=HBO.out.lt;simp;omega) (fun e=>by have:=own_base HOWN.out (w.heap.size+1) e.symm;omega)).trans (HBO.out.alloc _);have HBO2:Hid (Blk w' (w.heap.size+1) 230 #[.bool ng,v]):=Lib.hid hbo;have HBR2:Hid (Blk w' w.heap.size 230 #[.bool false,.slice none 0 0]):=Lib.hid ((hgrow.block w.heap.size (by have:=HBR.out.lt;simp;omega) (fun e=>by have:=own_base HOWN.out w.heap.size e.symm;omega)).trans (HBR.out.alloc _));have HX2:Hid (Ext w w'):=Lib.hid (Ext.grown (HX.out.trans (Ext.new _ _)) hgrow (fun k hk=>by have:=own_base HOWN.out k hk;omega));have r1:=HBO2.out.cell 1;have f1:=HBO2.out.frozen 1;simp only [List.getElem?_toArray,List.getElem?_cons_zero,List.getElem?_cons_succ] at r1;clear hown hgrow hat hbo)
     refine ⟨⟨(k:Int)-9,done++[p],.slice (some ⟨g',0,none⟩) (done.length+1) cap',rfl,by omega,by omega,?_,?_,?_,?_,?_⟩,by simp [intOf];omega⟩
     ·have hnb:(Value.slice (some ⟨g',0,none⟩) (done.length+1) cap').ownBlock≠some (w.heap.size+1):=fun h=>by have:=own_base HON.out _ h;omega
      simpa [icells] using own_set HON.out hnb (i:=1) (.slice (some ⟨g',0,none⟩) (done.length+1) cap')
     ·rw [HEA.out];exact HNX.out
     ·exact HX2.out.setCell (p:=⟨w.heap.size+1,1,none⟩) (Nat.le_succ _) _
     ·exact HBR2.out.far (p:=⟨w.heap.size+1,1,none⟩) (by show w.heap.size≠w.heap.size+1;omega) _
     ·exact HBO2.out.set_ 1 _
  ·have HDN:Hid (done=gr N):=Lib.hid (by have:=HSUM.out;rw [show z.toNat=0 by omega,List.take_zero,groupsOf_nil,List.append_nil] at this;exact this)
   obtain ⟨A,c,rfl⟩:=own_slice HOWN.out
   have q0:=HBO.out.cell 0
   have q1:=HBO.out.cell 1
   have r0:=HBR.out.cell 0
   have r1:=HBR.out.cell 1
   have f0:=HBR.out.frozen 0
   have f1:=HBR.out.frozen 1
   simp only [List.getElem?_toArray,List.getElem?_cons_zero,List.getElem?_cons_succ] at q0 q1 r0 r1
   go_wp2_with fail
   have hnb:(Value.slice A done.length c).ownBlock≠some w.heap.size:=fun h=>by have:=own_base HOWN.out _ h;omega
   have hfin:=own_set (own_set HOWN.out hnb (i:=0) (.bool ng)) hnb (i:=1) (.slice A done.length c)
   refine bodyPost_ret (results_numI rfl _ _ w.heap.size (.bool ng) (.slice A done.length c) rfl ((HBR.out.set_ 0 (.bool ng)).set_ 1 (.slice A done.length c))) rfl ?_
   have hcp:=own_cap hfin
   rw [HDN.out] at hfin hcp ⊢
   exact ⟨A,c,rfl,Reads.own hfin,(HX.out.setCell (p:=⟨w.heap.size,0,none⟩) (Nat.le_refl _) _).setCell (p:=⟨w.heap.size,1,none⟩) (Nat.le_refl _) _,hcp.1,hcp.2⟩
theorem lastT_step (g q:Nat) (l:Bs):lastT g (q+1)++l=UInt8.ofNat (48+g / 10 ^ q % 10) :: (lastT g q++l):=rfl
theorem canon_sgn (b:Bool) (gs:List Nat) (h:∀ g ∈ gs,g<B9):canon (if b then 45 :: lowT gs else lowT gs)=ofI (sgn b (gval gs)):=canon_low b gs h
theorem refWrite (b:Bool) (gs:List Nat) (A:Option Addr) (c:Nat) (w:World) (hA:RdI w A gs) (hn:gs.length≤1000000) (hb:∀ g ∈ gs,g<B9) :
  Calls Tryz.prog 193 #[.agg #[.bool b,.slice A gs.length c]] w fun e w'=>e = .returned (.string (bs (ofI (sgn b (gval gs)))))∧Ext w w':=by
 have HC:=Lib.hid (canon_sgn b gs hb)
 generalize ofI (sgn b (gval gs))=r at *
 have HA:=Lib.hid (hA.ext (Ext.new w (.cells #[.bool b,.slice A gs.length c] 230)))
 have HB:=Lib.hid hb
 have HTL:=Lib.hid (fun k=>(show (lowT (gs.take k)).length≤9*gs.length from by rw [lowT_len _ (fun g hg=>hb g (List.mem_of_mem_take hg)),List.length_take];omega))
 clear hA hb
 go_enter Tryz.func193,Tryz.ntmps193
 go_wp2_with fail
 go_loop [3,4,5,6] (fun t i _ _=>∃ k:Nat,k≤gs.length∧i = .int .i64 k∧t = .string (bs (lowT (gs.take k)))) (fun _ i _ _=>gs.length-(intOf i).toNat)
 case atStart=>exact ⟨0,Nat.zero_le _,rfl,rfl⟩
 case round =>
  obtain ⟨k,hk,rfl,rfl⟩:=hrel
  have hlt9:=HTL.out k
  by_cases hlt:k<gs.length
  ·obtain ⟨ab,ao,rfl,hab,hcell⟩:=HA.out.at_ hlt
   have hg:=HB.out _ (List.getElem_mem hlt)
   have HNX:Hid (lastT (gs[k]'hlt) 9++lowT (gs.take k)=lowT (gs.take (k+1))):=Lib.hid (by
    rw [lastT_nine hg,List.take_succ_eq_append_getElem hlt,lowT_snoc])
   generalize gs[k]'hlt=g at *
   generalize lowT (gs.take k)=low at *
   have hg':g<1000000000:=hg
   clear hg
   go_wp2_with fail
   clear hcell
   go_loop [3,5,6] (fun t v j=>∃ q:Nat,q≤9∧j = .int .i64 q∧v = .int .i64 (g / 10 ^ q:Nat)∧t = .string (bs (lastT g q++low))) (fun _ _ j=>9-(intOf j).toNat)
   case atStart=>exact ⟨0,Nat.zero_le _,rfl,by rw [Nat.pow_zero,Nat.div_one],rfl⟩
   case round =>
    obtain ⟨q,hq,rfl,rfl,rfl⟩:=hrel
    by_cases hq9:q<9
    ·have HS:=Lib.hid (lastT_step g q low)
     have HV:Hid (g / 10 ^ q / 10=g / 10 ^ (q+1)):=Lib.hid (by rw [Nat.pow_succ,Nat.div_div_eq_div_mul])
     have hvl:g / 10 ^ q≤g:=Nat.div_le_self _ _
     have hll:(lastT g q++low).length≤9+9*gs.length:=by rw [List.length_append,lastT_len];omega
     generalize lastT g q++low=t at *
     generalize g / 10 ^ q=v at *
     have hcv:∀ W:World,(convert 21 9 (.int .i32 (48+(v:Int) % 10))).run Tryz.prog W = .ok (.string (bs [UInt8.ofNat (48+v % 10)])) W:=fun W=>by rw [run_convert_int_string W _ _ _ _ (by rw [Tryz.underlying21];rfl) Tryz.underlying9,encode_dig]
     generalize UInt8.ofNat (48+v % 10)=dd at *
     go_wp2_with fail
     go_round
     case rel=>exact ⟨q+1,by omega,by go_num,by rw [← HV.out] <;> go_num,by rw [HS.out]⟩
     case measure=>simp [intOf];omega
    ·obtain rfl:q=9:=by omega
     rw [HNX.out]
     generalize g / 10 ^ 9=v at *
     go_wp2_with fail
     go_round
     case rel=>exact ⟨k+1,by omega,by go_num,rfl⟩
     case measure=>simp [intOf];omega
  ·have HT:Hid (lowT (gs.take k)=lowT gs):=Lib.hid (by rw [List.take_of_length_le (by omega)])
   cases b
   ·have HC':Hid (canon (lowT gs)=r):=Lib.hid HC.out
    rw [← HT.out] at HC'
    clear HT HC
    generalize lowT (gs.take k)=t at *
    go_wp2_with fail
    refine (refCanonical t _ (by omega)).mono ?_
    rintro e w1 ⟨rfl,rfl⟩
    go_wp2_with fail
    go_ret
    exact ⟨by rw [HC'.out];rfl,Ext.new _ _⟩
   ·have HC':Hid (canon (45 :: lowT gs)=r):=Lib.hid HC.out
    rw [← HT.out] at HC'
    clear HT HC
    generalize lowT (gs.take k)=t at *
    go_wp2_with fail
    refine (refCanonical (45 :: t) _ (by rw [List.length_cons];omega)).mono ?_
    rintro e w1 ⟨rfl,rfl⟩
    go_wp2_with fail
    go_ret
    exact ⟨by rw [HC'.out];rfl,Ext.new _ _⟩
end
section
open Go.RowKit Go.Shelf
attribute [local go_sem] size_bs toList_bs
def MagEndsI (n:Nat) (w:World) (e:Ending) (w':World):Prop :=
 ∃ A c,e = .returned (.slice A (gr n).length c)∧RdI w' A (gr n)∧Ext w w'∧(gr n).length≤c∧c≤maxLen
theorem RdI.cut {w:World} {A:Option Addr} {gs:List Nat} (h:RdI w A gs):RdI w A (cutL gs):=by rw [cutL_prefix];exact h.take _
theorem icells_snoc (l:List Nat) (x:Nat) (z:Int) (h:z=(x:Int)):icells (l++[x])=icells l++[.int .i64 z]:=by subst h;simp [icells]
def SumAt (f g:Nat→Nat) (L:Nat) (w:World) (v cv z:Value) (wr:World):Prop :=
 ∃ k:Nat,k≤L∧z = .int .i64 k∧cv = .int .i64 (g k:Nat)∧wr.ownsRow w.heap.size 3 1 v k (icells ((List.range k).map f))∧Ext w wr
theorem own_next {w:World} {base k g c:Nat} {e:TypeId} {f:Nat→Nat} {z:Int} (h:w.ownsRow base e 1 (.slice (some ⟨g,0,none⟩) (k+1) c) (k+1) (icells ((List.range k).map f)++[.int .i64 z])) (hz:z=(f k:Nat)):w.ownsRow base e 1 (.slice (some ⟨g,0,none⟩) (k+1) c) (k+1) (icells ((List.range (k+1)).map f)):=by
 rw [List.range_succ,List.map_append,List.map_cons,List.map_nil,icells_snoc _ _ _ hz];exact h
theorem plus_all {x y k:Nat} (h1:(gr x).length≤k) (h2:(gr y).length≤k) (hc:cy (at0 (gr x)) (at0 (gr y)) k=0):cutL ((List.range k).map (pl (at0 (gr x)) (at0 (gr y))))=gr (x+y):=by
 rw [cutL_gr (by intro g hg;obtain ⟨j,_,rfl⟩:=List.mem_map.1 hg;exact pl_lt _ _ _),gval_range]
 have h:=plus_sum (at0 (gr x)) (at0 (gr y)) k
 rw [hc,Nat.zero_mul,Nat.add_zero,← gval_gsum (gr x) k h1,← gval_gsum (gr y) k h2,gval_gr,gval_gr] at h
 rw [h]
theorem refPlus (x y:Nat) (A A':Option Addr) (c c':Nat) (w:World) (hA:RdI w A (gr x)) (hA':RdI w A' (gr y)) (hn:(gr x).length≤1000000) (hn':(gr y).length≤1000000) :
  Calls Tryz.prog 246 #[.slice A (gr x).length c,.slice A' (gr y).length c'] w (MagEndsI (x+y) w):=by
 obtain ⟨i0,hI,hz0,hz1,hz2⟩:=info_parts i64Info
 have HI:=Lib.hid hI
 have HA:=Lib.hid hA
 have HA':=Lib.hid hA'
 have HFIN:=Lib.hid (fun k=>plus_all (x:=x) (y:=y) (k:=k))
 have HL1:=Lib.hid (fun k=>at0_bd (gr_lt x) k)
 have HL2:=Lib.hid (fun k=>at0_bd (gr_lt y) k)
 have HCY:=Lib.hid (fun k=>cy_le (HL1.out) (HL2.out) k)
 have HZA:=Lib.hid (fun k h=>at0_ge (l:=gr x) (k:=k) h)
 have HZB:=Lib.hid (fun k h=>at0_ge (l:=gr y) (k:=k) h)
 clear hI hA hA'
 generalize gr x=gx at *
 generalize gr y=gy at *
 go_enter Tryz.func246,Tryz.ntmps246
 go_wp2_with fail
 go_loopw [5,6,7,8] (fun v cv z _ wr=>SumAt (pl (at0 gx) (at0 gy)) (cy (at0 gx) (at0 gy)) (max gx.length gy.length+1) w v cv z wr) (fun _ _ z _ _=>max gx.length gy.length+2-(intOf z).toNat)
 case atStart=>exact ⟨0,by omega,rfl,rfl,⟨rfl,.inr ⟨w.heap.size,0,#[],rfl,Nat.le_refl _,heap_alloc_new w _,Nat.le_refl _,by decide,rfl,rfl⟩⟩,Ext.new _ _⟩
 case round =>
  obtain ⟨k,hk,rfl,rfl,hown,hx⟩:=hrel
  have HOWN:=Lib.hid hown
  have HX:=Lib.hid hx
  clear hown hx
  have hpk:=HL1.out k
  have hqk:=HL2.out k
  have hck:=HCY.out k
  have hkk:k≤1000001:=by omega
  by_cases hgo:k<gx.length∨k<gy.length∨0<cy (at0 gx) (at0 gy) k
  ·have hkL:k≤max gx.length gy.length:=by
    rcases Nat.lt_or_ge (max gx.length gy.length) k with h | h
    ·exfalso
     obtain ⟨j,rfl⟩:∃ j,k=j+1:=⟨k-1,by omega⟩
     have e1:=HZA.out j (by omega)
     have e2:=HZB.out j (by omega)
     have h3:=HCY.out j
     have e3:cy (at0 gx) (at0 gy) (j+1)=(at0 gx j+at0 gy j+cy (at0 gx) (at0 gy) j) / B9:=rfl
     rw [e1,e2] at e3
     have e4:(0+0+cy (at0 gx) (at0 gy) j) / B9=0:=Nat.div_eq_of_lt (by show _<1000000000;omega)
     omega
    ·exact h
   have HP:Hid ((((at0 gx k:Nat):Int)+(at0 gy k:Nat)+(cy (at0 gx) (at0 gy) k:Nat)) % 1000000000=(pl (at0 gx) (at0 gy) k:Nat)):=Lib.hid (by show _=(((at0 gx k+at0 gy k+cy (at0 gx) (at0 gy) k) % 1000000000:Nat):Int);omega)
   have HQ:Hid ((((at0 gx k:Nat):Int)+(at0 gy k:Nat)+(cy (at0 gx) (at0 gy) k:Nat)) / 1000000000=(cy (at0 gx) (at0 gy) (k+1):Nat)):=Lib.hid (by show _=(((at0 gx k+at0 gy k+cy (at0 gx) (at0 gy) k) / 1000000000:Nat):Int);omega)
   have hpk':at0 gx k<1000000000:=hpk
   have hqk':at0 gy k<1000000000:=hqk
   clear hpk hqk
   have HG1:=Lib.hid (fun W h=>refGroup gx A c k W h hn)
   have HG2:=Lib.hid (fun W h=>refGroup gy A' c' k W h hn')
   have hcases:k<gx.length∨(¬ k<gx.length∧k<gy.length)∨(¬ k<gx.length∧¬ k<gy.length∧0<cy (at0 gx) (at0 gy) k):=by omega
   generalize at0 gx k=p at *
   generalize at0 gy k=q at *
   generalize cy (at0 gx) (at0 gy) k=cc at *
   clear hgo
   rcases hcases with h1 | ⟨h1,h2⟩ | ⟨h1,h2,h3⟩
   all_goals
    go_wp2_with fail
    refine (HG1.out _ (HA.out.ext HX.out)).mono ?_
    rintro e w1 ⟨rfl,rfl⟩
    go_wp2_with fail
    refine (HG2.out _ (HA'.out.ext HX.out)).mono ?_
    rintro e w1 ⟨rfl,rfl⟩
    go_wp2_with (at_builtin;refine wpList_append_lies _ rfl (.tmp 35) (.tmp 38) 206 rfl w.heap.size 3 i0 _ 1 8 Tryz.underlying206 HI.out hz0 hz1 hz2 rfl (by decide) _ k (icells ((List.range k).map (pl (at0 gx) (at0 gy)))) rfl (own_ext2 HOWN.out (Ext.new _ _)) ⟨wr.heap.size,0,none⟩ 1 1 [.int .i64 (((p:Int)+(q:Int)+(cc:Int)) % 1000000000)] rfl rfl (World.news_of_block (heap_alloc_new wr _)) (by simp [Value.oneCell']) (by omega) (by simp only [maxLen];omega) (by omega) (by have:=HX.out.size;simp;omega) _ rfl ?_;intro g' cap' w' hown hgrow hat hlt';have HX2:Hid (Ext w w'):=Lib.hid (Ext.grown (HX.out.trans (Ext.new _ _)) hgrow (fun k hk=>own_base HOWN.out k hk));have HON:=Lib.hid (own_next hown HP.out);clear hown hgrow hat)
    refine ⟨⟨k+1,by omega,by go_num,by rw [← HQ.out],HON.out,HX2.out⟩,by simp [intOf];omega⟩
  ·have h1:¬ k<gx.length:=by omega
   have h2:¬ k<gy.length:=by omega
   have h3:cy (at0 gx) (at0 gy) k=0:=by omega
   have HF:=Lib.hid (HFIN.out k (by omega) (by omega) h3)
   rw [h3]
   clear hgo h3 hck hpk hqk HFIN
   obtain ⟨A1,c1,rfl⟩:=own_slice HOWN.out
   have hcp:=own_cap HOWN.out
   have hlen:((List.range k).map (pl (at0 gx) (at0 gy))).length=k:=by simp
   have HRD:Hid (RdI wr A1 ((List.range k).map (pl (at0 gx) (at0 gy)))):=Lib.hid (by
    have:=Reads.own HOWN.out
    unfold RdI;rw [hlen];exact this)
   have HTR:=Lib.hid (refTrim ((List.range k).map (pl (at0 gx) (at0 gy))) A1 c1 wr HRD.out (by rw [hlen];exact hcp.1) hcp.2 (by intro g hg;obtain ⟨j,_,rfl⟩:=List.mem_map.1 hg;exact pl_lt _ _ _))
   rw [hlen,HF.out] at HTR
   have HRC:Hid (RdI wr A1 (gr (x+y))):=Lib.hid (by rw [← HF.out];exact HRD.out.cut)
   have HCL:Hid ((gr (x+y)).length≤c1∧c1≤maxLen):=Lib.hid ⟨by rw [← HF.out];have:=cutL_le ((List.range k).map (pl (at0 gx) (at0 gy)));omega,hcp.2⟩
   clear hlen hcp
   go_wp2_with fail
   refine HTR.out.mono ?_
   rintro e w1 ⟨rfl,rfl⟩
   go_wp2_with fail
   go_ret
   exact ⟨A1,c1,rfl,HRC.out,HX.out,HCL.out.1,HCL.out.2⟩
theorem quiet_same {P:Program} {f:FuncId} {args:Array Value} {w:World} {n:Nat} {v:Value}
  (h:Calls P f args (w.drewN n) fun e w'=>e = .returned v∧w.drewN n=w'):Calls P f args (w.drewN n) fun e w''=>e = .returned v∧∃ m,w''=w.drewN m :=
 h.mono fun _ _ ⟨he,hm⟩=>⟨he,n,hm.symm⟩
theorem own_drewN {w:World} {base:Nat} {e:TypeId} {size n:Nat} {v:Value} {xs:List Value} (h:w.ownsRow base e size v n xs) (k:Nat):(w.drewN k).ownsRow base e size v n xs:=own_ext2 h ((Ext.refl w).drewN k)
theorem refMinus (x y:Nat) (hle:y≤x) (A A':Option Addr) (c c':Nat) (w:World) (hA:RdI w A (gr x)) (hA':RdI w A' (gr y)) (hn:(gr x).length≤1000000) (hn':(gr y).length≤1000000) :
  Calls Tryz.prog 248 #[.slice A (gr x).length c,.slice A' (gr y).length c'] w (MagEndsI (x-y) w):=by
 obtain ⟨i0,hI,hz0,hz1,hz2⟩:=info_parts i64Info
 have HI:=Lib.hid hI
 have HA:=Lib.hid hA
 have HA':=Lib.hid hA'
 have HFIN:=Lib.hid (cut_mixed hle)
 have HL1:=Lib.hid (fun k=>at0_bd (gr_lt x) k)
 have HL2:=Lib.hid (fun k=>at0_bd (gr_lt y) k)
 have HMI:=Lib.hid (fun k=>mi_lt (HL1.out) (HL2.out) k)
 have HV1:=Lib.hid (fun k (h:k<(gr x).length)=>at0_lt h)
 clear hI hA hA' hle
 generalize gr x=gx at *
 generalize gr y=gy at *
 go_enter Tryz.func248,Tryz.ntmps248
 go_wp2_with fail
 go_loopw [5,6,7,8] (fun v cv z _ wr=>SumAt (mi (at0 gx) (at0 gy)) (bw (at0 gx) (at0 gy)) gx.length w v cv z wr) (fun _ _ z _ _=>gx.length-(intOf z).toNat)
 case atStart=>exact ⟨0,by omega,rfl,rfl,⟨rfl,.inr ⟨w.heap.size,0,#[],rfl,Nat.le_refl _,heap_alloc_new w _,Nat.le_refl _,by decide,rfl,rfl⟩⟩,Ext.new _ _⟩
 case round =>
  obtain ⟨k,hk,rfl,rfl,hown,hx⟩:=hrel
  have HOWN:=Lib.hid hown
  have HX:=Lib.hid hx
  clear hown hx
  by_cases hlt:k<gx.length
  ·have hpk:at0 gx k<1000000000:=HL1.out k
   have hqk:at0 gy k<1000000000:=HL2.out k
   have hbk:bw (at0 gx) (at0 gy) k≤1:=bw_le _ _ k
   obtain ⟨ab,ao,rfl,hab,hcell⟩:=(HA.out.ext HX.out).at_ hlt
   rw [← HV1.out k hlt] at hcell
   have HG2:=Lib.hid (fun W h=>refGroup gy A' c' k W h hn')
   have HM1:Hid (at0 gx k<at0 gy k+bw (at0 gx) (at0 gy) k→((at0 gx k:Nat):Int)-(at0 gy k:Nat)-(bw (at0 gx) (at0 gy) k:Nat)+1000000000=(mi (at0 gx) (at0 gy) k:Nat)∧bw (at0 gx) (at0 gy) (k+1)=1):=Lib.hid (fun h=>by
    have e1:mi (at0 gx) (at0 gy) k=at0 gx k+1000000000-(at0 gy k+bw (at0 gx) (at0 gy) k):=by unfold mi;rw [if_pos h];rfl
    have e2:bw (at0 gx) (at0 gy) (k+1)=1:=by show (if _ then 1 else 0)=1;rw [if_pos h]
    exact ⟨by omega,e2⟩)
   have HM2:Hid (¬ at0 gx k<at0 gy k+bw (at0 gx) (at0 gy) k→((at0 gx k:Nat):Int)-(at0 gy k:Nat)-(bw (at0 gx) (at0 gy) k:Nat)=(mi (at0 gx) (at0 gy) k:Nat)∧bw (at0 gx) (at0 gy) (k+1)=0):=Lib.hid (fun h=>by
    have e1:mi (at0 gx) (at0 gy) k=at0 gx k-(at0 gy k+bw (at0 gx) (at0 gy) k):=by unfold mi;rw [if_neg h]
    have e2:bw (at0 gx) (at0 gy) (k+1)=0:=by show (if _ then 1 else 0)=0;rw [if_neg h]
    exact ⟨by omega,e2⟩)
   generalize at0 gx k=p at *
   generalize at0 gy k=q at *
   generalize bw (at0 gx) (at0 gy) k=bb at *
   have hw1:IntKind.i64.wrap ((p:Int)-(q:Int))=(p:Int)-q:=IntWalk.i64_in _ (by omega)
   have hw2:IntKind.i64.wrap ((p:Int)-(q:Int)-(bb:Int))=(p:Int)-q-bb:=IntWalk.i64_in _ (by omega)
   by_cases hbo:p<q+bb
   ·obtain ⟨he1,he2⟩:=HM1.out hbo
    have HP:=Lib.hid he1
    have HQ:=Lib.hid he2
    have hneg:(p:Int)-(q:Int)-(bb:Int)<0:=by omega
    clear HM1 HM2 he1 he2
    go_wp2_with fail
    go_quiet ((go_at_call 280;exact quiet_same (HG2.out _ (HA'.out.ext (HX.out.drewN _)))))
    clear hw1 hw2
    go_wp2_with (at_builtin;refine wpList_append_lies _ rfl (.tmp 30) (.tmp 32) 206 rfl w.heap.size 3 i0 _ 1 8 Tryz.underlying206 HI.out hz0 hz1 hz2 rfl (by decide) _ k (icells ((List.range k).map (mi (at0 gx) (at0 gy)))) rfl (own_ext2 (own_drewN HOWN.out _) (Ext.new _ _)) ⟨wr.heap.size,0,none⟩ 1 1 [.int .i64 ((p:Int)-(q:Int)-(bb:Int)+1000000000)] rfl rfl (World.news_of_block (heap_alloc_new _ _)) (by simp [Value.oneCell']) (by omega) (by simp only [maxLen];omega) (by omega) (by have:=HX.out.size;simp;omega) _ rfl ?_;intro g' cap' w' hown hgrow hat hlt';have HX2:Hid (Ext w w'):=Lib.hid (Ext.grown ((HX.out.drewN _).trans (Ext.new _ _)) hgrow (fun k hk=>own_base HOWN.out k hk));have HON:=Lib.hid (own_next hown HP.out);clear hown hgrow hat)
    refine ⟨⟨k+1,by omega,by go_num,by rw [HQ.out];rfl,HON.out,HX2.out⟩,by simp [intOf];omega⟩
   ·obtain ⟨he1,he2⟩:=HM2.out hbo
    have HP:=Lib.hid he1
    have HQ:=Lib.hid he2
    have hneg:¬ (p:Int)-(q:Int)-(bb:Int)<0:=by omega
    clear HM1 HM2 he1 he2
    go_wp2_with fail
    go_quiet ((go_at_call 280;exact quiet_same (HG2.out _ (HA'.out.ext (HX.out.drewN _)))))
    clear hw1 hw2
    go_wp2_with (at_builtin;refine wpList_append_lies _ rfl (.tmp 30) (.tmp 32) 206 rfl w.heap.size 3 i0 _ 1 8 Tryz.underlying206 HI.out hz0 hz1 hz2 rfl (by decide) _ k (icells ((List.range k).map (mi (at0 gx) (at0 gy)))) rfl (own_ext2 (own_drewN HOWN.out _) (Ext.new _ _)) ⟨wr.heap.size,0,none⟩ 1 1 [.int .i64 ((p:Int)-(q:Int)-(bb:Int))] rfl rfl (World.news_of_block (heap_alloc_new _ _)) (by simp [Value.oneCell']) (by omega) (by simp only [maxLen];omega) (by omega) (by have:=HX.out.size;simp;omega) _ rfl ?_;intro g' cap' w' hown hgrow hat hlt';have HX2:Hid (Ext w w'):=Lib.hid (Ext.grown ((HX.out.drewN _).trans (Ext.new _ _)) hgrow (fun k hk=>own_base HOWN.out k hk));have HON:=Lib.hid (own_next hown HP.out);clear hown hgrow hat)
    refine ⟨⟨k+1,by omega,by go_num,by rw [HQ.out];rfl,HON.out,HX2.out⟩,by simp [intOf];omega⟩
  ·obtain rfl:k=gx.length:=by omega
   generalize bw (at0 gx) (at0 gy) gx.length=bb at *
   obtain ⟨A1,c1,rfl⟩:=own_slice HOWN.out
   have hcp:=own_cap HOWN.out
   have hlen:((List.range gx.length).map (mi (at0 gx) (at0 gy))).length=gx.length:=by simp
   have HRD:Hid (RdI wr A1 ((List.range gx.length).map (mi (at0 gx) (at0 gy)))):=Lib.hid (by
    have:=Reads.own HOWN.out
    unfold RdI;rw [hlen];exact this)
   have HTR:=Lib.hid (refTrim ((List.range gx.length).map (mi (at0 gx) (at0 gy))) A1 c1 wr HRD.out (by rw [hlen];exact hcp.1) hcp.2 (by intro g hg;obtain ⟨j,_,rfl⟩:=List.mem_map.1 hg;exact HMI.out _))
   rw [hlen,HFIN.out] at HTR
   have HRC:Hid (RdI wr A1 (gr (x-y))):=Lib.hid (by rw [← HFIN.out];exact HRD.out.cut)
   have HCL:Hid ((gr (x-y)).length≤c1∧c1≤maxLen):=Lib.hid ⟨by rw [← HFIN.out];have:=cutL_le ((List.range gx.length).map (mi (at0 gx) (at0 gy)));omega,hcp.2⟩
   clear hlen hcp
   go_wp2_with fail
   refine HTR.out.mono ?_
   rintro e w1 ⟨rfl,rfl⟩
   go_wp2_with fail
   go_ret
   exact ⟨A1,c1,rfl,HRC.out,HX.out,HCL.out.1,HCL.out.2⟩
end
section
open Go.RowKit
attribute [local go_sem] size_bs toList_bs
theorem RdI.far {w:World} {A:Option Addr} {gs:List Nat} (h:RdI w A gs) {g i:Nat} (u:Value) (hne:0<gs.length→∀ b o,A=some ⟨b,o,none⟩→b≠g):RdI (w.setCell ⟨g,i,none⟩ u) A gs:=by
 refine ⟨h.1,fun hn=>?_⟩
 obtain ⟨b,o,rfl,hb,hc⟩:=h.2 hn
 have hbg:=hne hn b o rfl
 refine ⟨b,o,rfl,by simpa [World.setCell] using hb,fun j v hv=>?_⟩
 rw [← hc j v hv]
 unfold World.cell?
 rw [Below.heap_setCell w ⟨g,i,none⟩ u b hbg]
theorem RdI.box {w:World} {A:Option Addr} {gs:List Nat} (h:RdI w A gs) {g:Nat} {t:TypeId} {x:Bool} {B:Option Addr} {n c:Nat} (hb:Blk w g t #[.bool x,.slice B n c]):0<gs.length→∀ b o,A=some ⟨b,o,none⟩→b≠g:=by
 intro hn b o e hbg
 subst e;subst hbg
 have h0:=Reads.cell h (j:=0) (u := .int .i64 (gs[0]'hn)) (by simp [icells,hn])
 rw [Nat.add_zero,hb.cell o] at h0
 match o,h0 with
 |0,h0=>simp at h0
 |1,h0=>simp at h0
 |o+2,h0=>simp at h0
def AddEndsI (z:Int) (w:World) (e:Ending) (w':World):Prop :=
 ∃ b n A c,e = .returned (.agg #[.bool b,.slice A (gr n).length c])∧sgn b n=z∧RdI w' A (gr n)∧Ext w w'∧(gr n).length≤c∧c≤maxLen
theorem refAdd_same (b:Bool) (x y:Nat) (A A':Option Addr) (c c':Nat) (w:World) (hA:RdI w A (gr x)) (hA':RdI w A' (gr y)) (hn:(gr x).length≤1000000) (hn':(gr y).length≤1000000) :
  Calls Tryz.prog 194 #[.agg #[.bool b,.slice A (gr x).length c],.agg #[.bool b,.slice A' (gr y).length c']] w (AddEndsI (sgn b x+sgn b y) w):=by
 have HA:=Lib.hid hA
 have HA':=Lib.hid hA'
 have HPL:=Lib.hid (fun W h1 h2=>refPlus x y A A' c c' W h1 h2 hn hn')
 have HS:Hid (sgn b (x+y)=sgn b x+sgn b y):=Lib.hid (by unfold sgn;cases b <;> simp;omega)
 generalize gr x=gx at *
 generalize gr y=gy at *
 clear hA hA'
 have HX0:Hid (Ext w (((w.alloc (.cells #[.bool b,.slice A gx.length c] 230)).alloc (.cells #[.bool b,.slice A' gy.length c'] 230)).alloc (.cells #[.bool false,.slice none 0 0] 230))):=Lib.hid (((Ext.new _ _).alloc _).alloc _)
 have HBR:=Lib.hid (blk_at ((w.alloc (.cells #[.bool b,.slice A gx.length c] 230)).alloc (.cells #[.bool b,.slice A' gy.length c'] 230)) 230 #[.bool false,.slice none 0 0] (w.heap.size+1+1) (by simp))
 have HBX:=Lib.hid (((blk_at w 230 #[.bool b,.slice A gx.length c] w.heap.size rfl).alloc (.cells #[.bool b,.slice A' gy.length c'] 230)).alloc (.cells #[.bool false,.slice none 0 0] 230))
 have HBY:=Lib.hid ((blk_at (w.alloc (.cells #[.bool b,.slice A gx.length c] 230)) 230 #[.bool b,.slice A' gy.length c'] (w.heap.size+1) (by simp)).alloc (.cells #[.bool false,.slice none 0 0] 230))
 have hn1:w.heap.size≠w.heap.size+1+1:=by omega
 have hn2:w.heap.size+1+1≠w.heap.size:=by omega
 have hn3:¬ (w.heap.size=w.heap.size+1+1):=by omega
 go_enter Tryz.func194,Tryz.ntmps194
 go_wp2_with fail
 have HXW:=HX0
 have HBRW:=HBR
 have HBXW:=HBX
 have HBYW:=HBY
 skip
 go_region_held3 (fun w'=>w'.cell? ⟨w.heap.size,0,none⟩=some (.bool b)∧w'.cell? ⟨w.heap.size,1,none⟩=some (.slice A gx.length c)∧w'.cell? ⟨w.heap.size+1,1,none⟩=some (.slice A' gy.length c'))
  (go_keep)
  (first
   |(go_at_call 246;refine (HPL.out _ (HA.out.ext HXW.out.drew) (HA'.out.ext HXW.out.drew)).mono ?_;rintro e w2 ⟨A1,c1,rfl,hrd,hx2,hc1,hc2⟩;have hbr:=HBRW.out.drew.ext hx2;have q0:=hbr.cell 0;have q1:=hbr.cell 1;have f0:=hbr.frozen 0;have f1:=hbr.frozen 1;have hba:=HBXW.out.drew.ext hx2;have u0:=hba.cell 0;have u1:=hba.cell 1;have hbb:=HBYW.out.drew.ext hx2;have v1:=hbb.cell 1;simp only [List.getElem?_toArray,List.getElem?_cons_zero,List.getElem?_cons_succ] at q0 q1 u0 u1 v1;have HBR2:=Lib.hid hbr;have HX2:=Lib.hid (HXW.out.drew.trans hx2);have HRD:=Lib.hid hrd;have HC:=Lib.hid (And.intro hc1 hc2);clear hbr hba hbb hx2 hrd hc1 hc2))
 all_goals
  go_wp2_with fail
  refine bodyPost_ret (results_numI rfl _ _ (w.heap.size+1+1) (.bool b) (.slice A1 (gr (x+y)).length c1) rfl ((HBR2.out.set_ 0 (.bool b)).set_ 1 (.slice A1 (gr (x+y)).length c1))) rfl ?_
  have hne:=HRD.out.box HBR2.out
  exact ⟨b,x+y,A1,c1,rfl,HS.out,(HRD.out.far (.bool b) hne).far _ hne,(HX2.out.setCell (p:=⟨w.heap.size+1+1,0,none⟩) (by show w.heap.size≤w.heap.size+1+1;omega) _).setCell (p:=⟨w.heap.size+1+1,1,none⟩) (by show w.heap.size≤w.heap.size+1+1;omega) _,HC.out.1,HC.out.2⟩
theorem refAdd_diff (b:Bool) (x y:Nat) (A A':Option Addr) (c c':Nat) (w:World) (hA:RdI w A (gr x)) (hA':RdI w A' (gr y)) (hn:(gr x).length≤1000000) (hn':(gr y).length≤1000000) :
  Calls Tryz.prog 194 #[.agg #[.bool b,.slice A (gr x).length c],.agg #[.bool (!b),.slice A' (gr y).length c']] w (AddEndsI (sgn b x+sgn (!b) y) w):=by
 have HA:=Lib.hid hA
 have HA':=Lib.hid hA'
 have HCP:=Lib.hid (fun W h1 h2=>refOrder x y A A' c c' W h1 h2 hn hn')
 have HM1:=Lib.hid (fun h W h1 h2=>refMinus x y h A A' c c' W h1 h2 hn hn')
 have HM2:=Lib.hid (fun h W h1 h2=>refMinus y x h A' A c' c W h1 h2 hn' hn)
 have HS1:Hid (y≤x→sgn b (x-y)=sgn b x+sgn (!b) y):=Lib.hid (by intro h;unfold sgn;cases b <;> simp <;> omega)
 have HS2:Hid (x≤y→sgn (!b) (y-x)=sgn b x+sgn (!b) y):=Lib.hid (by intro h;unfold sgn;cases b <;> simp <;> omega)
 generalize gr x=gx at *
 generalize gr y=gy at *
 clear hA hA'
 have hbb:(b == !b)=false:=by cases b <;> rfl
 generalize hnb:(!b)=nb at *
 clear hnb
 have HX0:Hid (Ext w (((w.alloc (.cells #[.bool b,.slice A gx.length c] 230)).alloc (.cells #[.bool nb,.slice A' gy.length c'] 230)).alloc (.cells #[.bool false,.slice none 0 0] 230))):=Lib.hid (((Ext.new _ _).alloc _).alloc _)
 have HBR:=Lib.hid (blk_at ((w.alloc (.cells #[.bool b,.slice A gx.length c] 230)).alloc (.cells #[.bool nb,.slice A' gy.length c'] 230)) 230 #[.bool false,.slice none 0 0] (w.heap.size+1+1) (by simp))
 have HBX:=Lib.hid (((blk_at w 230 #[.bool b,.slice A gx.length c] w.heap.size rfl).alloc (.cells #[.bool nb,.slice A' gy.length c'] 230)).alloc (.cells #[.bool false,.slice none 0 0] 230))
 have HBY:=Lib.hid ((blk_at (w.alloc (.cells #[.bool b,.slice A gx.length c] 230)) 230 #[.bool nb,.slice A' gy.length c'] (w.heap.size+1) (by simp)).alloc (.cells #[.bool false,.slice none 0 0] 230))
 have hn1:w.heap.size≠w.heap.size+1+1:=by omega
 have hn2:w.heap.size+1+1≠w.heap.size:=by omega
 have hn3:¬ (w.heap.size=w.heap.size+1+1):=by omega
 go_enter Tryz.func194,Tryz.ntmps194
 go_wp2_with fail
 refine (HCP.out _ (HA.out.ext HX0.out) (HA'.out.ext HX0.out)).mono ?_
 rintro e w1 ⟨hx1,r,rfl,hcase⟩
 have hbx:=HBX.out.ext hx1
 have hby:=HBY.out.ext hx1
 have hbr:=HBR.out.ext hx1
 have x0:=hbx.cell 0
 have x1:=hbx.cell 1
 have y0:=hby.cell 0
 have y1:=hby.cell 1
 simp only [List.getElem?_toArray,List.getElem?_cons_zero,List.getElem?_cons_succ] at x0 x1 y0 y1
 have HXW:=Lib.hid (HX0.out.trans hx1)
 have HBXW:=Lib.hid hbx
 have HBYW:=Lib.hid hby
 have HBRW:=Lib.hid hbr
 clear hbx hby hbr hx1 HX0 HBX HBY HBR
 by_cases hr:r<0
 ·have hle:x≤y:=by omega
  have HM:=Lib.hid (HM2.out hle)
  have HS:=Lib.hid (HS2.out hle)
  have hr':¬ 0≤r:=by omega
  clear hcase hle
  go_wp2_with fail
  go_region_held3 (fun w'=>w'.cell? ⟨w.heap.size+1,0,none⟩=some (.bool nb)∧w'.cell? ⟨w.heap.size+1,1,none⟩=some (.slice A' gy.length c')∧w'.cell? ⟨w.heap.size,1,none⟩=some (.slice A gx.length c))
   (go_keep)
   (first
    |(go_at_call 248;refine (HM.out _ (HA'.out.ext HXW.out.drew) (HA.out.ext HXW.out.drew)).mono ?_;rintro e w2 ⟨A1,c1,rfl,hrd,hx2,hc1,hc2⟩;have hbr:=HBRW.out.drew.ext hx2;have q0:=hbr.cell 0;have q1:=hbr.cell 1;have f0:=hbr.frozen 0;have f1:=hbr.frozen 1;have hba:=HBYW.out.drew.ext hx2;have u0:=hba.cell 0;have u1:=hba.cell 1;have hbb:=HBXW.out.drew.ext hx2;have v1:=hbb.cell 1;simp only [List.getElem?_toArray,List.getElem?_cons_zero,List.getElem?_cons_succ] at q0 q1 u0 u1 v1;have HBR2:=Lib.hid hbr;have HX2:=Lib.hid (HXW.out.drew.trans hx2);have HRD:=Lib.hid hrd;have HC:=Lib.hid (And.intro hc1 hc2);clear hbr hba hbb hx2 hrd hc1 hc2))
  all_goals
   go_wp2_with fail
   refine bodyPost_ret (results_numI rfl _ _ (w.heap.size+1+1) (.bool nb) (.slice A1 (gr (y-x)).length c1) rfl ((HBR2.out.set_ 0 (.bool nb)).set_ 1 (.slice A1 (gr (y-x)).length c1))) rfl ?_
   have hne:=HRD.out.box HBR2.out
   exact ⟨nb,y-x,A1,c1,rfl,HS.out,(HRD.out.far (.bool nb) hne).far _ hne,(HX2.out.setCell (p:=⟨w.heap.size+1+1,0,none⟩) (by show w.heap.size≤w.heap.size+1+1;omega) _).setCell (p:=⟨w.heap.size+1+1,1,none⟩) (by show w.heap.size≤w.heap.size+1+1;omega) _,HC.out.1,HC.out.2⟩
 ·have hle:y≤x:=by omega
  have HM:=Lib.hid (HM1.out hle)
  have HS:=Lib.hid (HS1.out hle)
  have hr':0≤r:=by omega
  clear hcase hle
  go_wp2_with fail
  go_region_held3 (fun w'=>w'.cell? ⟨w.heap.size,0,none⟩=some (.bool b)∧w'.cell? ⟨w.heap.size,1,none⟩=some (.slice A gx.length c)∧w'.cell? ⟨w.heap.size+1,1,none⟩=some (.slice A' gy.length c'))
   (go_keep)
   (first
    |(go_at_call 248;refine (HM.out _ (HA.out.ext HXW.out.drew) (HA'.out.ext HXW.out.drew)).mono ?_;rintro e w2 ⟨A1,c1,rfl,hrd,hx2,hc1,hc2⟩;have hbr:=HBRW.out.drew.ext hx2;have q0:=hbr.cell 0;have q1:=hbr.cell 1;have f0:=hbr.frozen 0;have f1:=hbr.frozen 1;have hba:=HBXW.out.drew.ext hx2;have u0:=hba.cell 0;have u1:=hba.cell 1;have hbb:=HBYW.out.drew.ext hx2;have v1:=hbb.cell 1;simp only [List.getElem?_toArray,List.getElem?_cons_zero,List.getElem?_cons_succ] at q0 q1 u0 u1 v1;have HBR2:=Lib.hid hbr;have HX2:=Lib.hid (HXW.out.drew.trans hx2);have HRD:=Lib.hid hrd;have HC:=Lib.hid (And.intro hc1 hc2);clear hbr hba hbb hx2 hrd hc1 hc2))
  all_goals
   go_wp2_with fail
   refine bodyPost_ret (results_numI rfl _ _ (w.heap.size+1+1) (.bool b) (.slice A1 (gr (x-y)).length c1) rfl ((HBR2.out.set_ 0 (.bool b)).set_ 1 (.slice A1 (gr (x-y)).length c1))) rfl ?_
   have hne:=HRD.out.box HBR2.out
   exact ⟨b,x-y,A1,c1,rfl,HS.out,(HRD.out.far (.bool b) hne).far _ hne,(HX2.out.setCell (p:=⟨w.heap.size+1+1,0,none⟩) (by show w.heap.size≤w.heap.size+1+1;omega) _).setCell (p:=⟨w.heap.size+1+1,1,none⟩) (by show w.heap.size≤w.heap.size+1+1;omega) _,HC.out.1,HC.out.2⟩
theorem refAddN (b b':Bool) (x y:Nat) (A A':Option Addr) (c c':Nat) (w:World) (hA:RdI w A (gr x)) (hA':RdI w A' (gr y)) (hn:(gr x).length≤1000000) (hn':(gr y).length≤1000000) :
  Calls Tryz.prog 194 #[.agg #[.bool b,.slice A (gr x).length c],.agg #[.bool b',.slice A' (gr y).length c']] w (AddEndsI (sgn b x+sgn b' y) w):=by
 by_cases h:b'=b
 ·subst h;exact refAdd_same b' x y A A' c c' w hA hA' hn hn'
 ·have e:b'=!b:=by cases b <;> cases b' <;> simp_all
  subst e;exact refAdd_diff b x y A A' c c' w hA hA' hn hn'
end
end Go.Proofs.YthgpheopnhajaaaGreatDoor
