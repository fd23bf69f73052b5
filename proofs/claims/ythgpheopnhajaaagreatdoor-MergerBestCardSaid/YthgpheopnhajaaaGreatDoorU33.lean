/- The seat's texts, part U33. -/
import Derived.Test.YthgpheopnhajaaaGreatDoorU0
import Derived.Test.YthgpheopnhajaaaGreatDoorU4
import Derived.Test.YthgpheopnhajaaaGreatDoorU14
import Derived.Test.YthgpheopnhajaaaGreatDoorU15
import Derived.Test.YthgpheopnhajaaaGreatDoorU17
import Derived.Test.YthgpheopnhajaaaGreatDoorU18
import Derived.Test.YthgpheopnhajaaaGreatDoorU19
import Derived.Test.YthgpheopnhajaaaGreatDoorU20
import Derived.Test.YthgpheopnhajaaaGreatDoorU31
import Derived.Test.YthgpheopnhajaaaGreatDoorU32
import Derived.Deep.MidRow
import Derived.Test.YthgpheopnhajaaaGreatDoorRows
import Derived.ProofKit
import Derived.OpenShut
import Derived.Deep.Slices
import Derived.Deep.Fields
import Derived.Lib.SmallJoins
import Derived.ChangeSame
import Derived.WideKeyArgs
import Derived.Stop.LaidErr
import Derived.Lib.LaidTab
import Derived.Shelf.Vars
set_option maxRecDepth 100000
set_option maxHeartbeats 8000000
namespace Go.Proofs.YthgpheopnhajaaaGreatDoor
section
open Go.RowKit Go.Shelf
attribute [local go_sem] size_bs toList_bs
theorem fact_there {w:World} {g:Nat} {cs:Array Value} (h:Blk w g 30 cs):w.there g 0 cs.size:=fun j hj=>by
 rw [Nat.zero_add,h.cell j,h.frozen j,Array.getElem?_eq_getElem hj]
 exact ⟨rfl,rfl⟩
abbrev xz:Array Value:=#[.string ⟨#[]⟩,.int .i64 0,.bool false,.int .i64 0,.int .i64 0,.string ⟨#[]⟩,.string ⟨#[]⟩,.string ⟨#[]⟩,.string ⟨#[]⟩,.string ⟨#[]⟩,.string ⟨#[]⟩,.string ⟨#[]⟩,.string ⟨#[]⟩,.string ⟨#[]⟩,.string ⟨#[]⟩,.string ⟨#[]⟩,.string ⟨#[]⟩,.string ⟨#[]⟩,.slice none 0 0,.slice none 0 0,.int .i64 0]
def ExEnds (w:World) (e:Ending) (w':World):Prop:=∃ A AO,e = .returned (.tuple #[.slice A 2 2,xv exKey 19723 exIns AO 1 1])∧RdL w' A exLs∧RdO w' AO [exO]∧Ext w w'
theorem fact_over {w:World} {g:Nat} {xs ys:List Value} (h:Blk w g 30 xs.toArray) (hl:xs.length=ys.length):Blk (w.setCells g 0 ys) g 30 ys.toArray:=by
 have:=Blk.sets ys 0 w xs h (by omega)
 unfold lsplice at this
 rw [List.take_zero,List.nil_append,List.drop_of_length_le (by omega),List.append_nil] at this
 exact this
theorem results_tx {fn:Func} {a b:Tmp} (h:fn.results=#[.tmp a,.cell b 30]) (tmps:Array Value) (w:World) (g:Nat) (z:Value) (cs:List Value) (hl:cs.length=21) (hz:tmps.getD a undef=z) (ha:tmps.getD b undef = .pointer (some ⟨g,0,none⟩)) (hb:Blk w g 30 cs.toArray) :
  (results fn tmps).run Tryz.prog w = .ok (.tuple #[z,.agg cs.toArray]) w:=by
 have hs1:(Tryz.prog.info? 30).map (·.size)=some cs.length:=by rw [hl];kernel_rfl
 have hrg:w.rangeAt g 0 cs:=fact_range hb
 have hld:=run_loadVar_mid w g 0 30 cs _ hrg Tryz.underlying30 rfl hs1
 unfold results
 rw [h]
 simp only [List.mapM_toArray,List.mapM_cons,List.mapM_nil,ha,hz]
 simp [asAddr,hld]
theorem lawExample (w:World):Calls Tryz.prog 51 #[] w (ExEnds w):=by
 have HB:=Lib.hid (((Blk.new w 30 xz).alloc (.cells #[.string ⟨#[97,47,49]⟩,.string ⟨#[97,98,99]⟩,.int .i64 19700,.int .i64 19700,.string ⟨#[49,48]⟩,.string ⟨#[49,48,48]⟩,.string ⟨#[]⟩,.string ⟨#[98,47,49]⟩,.string ⟨#[97,98,99]⟩,.int .i64 19710,.int .i64 19710,.string ⟨#[53]⟩,.string ⟨#[50,48]⟩,.string ⟨#[]⟩] 71)).alloc (.cells #[.string ⟨#[100,101,102]⟩,.string ⟨#[49]⟩,.string ⟨#[50]⟩,.string ⟨#[50]⟩,.string ⟨#[]⟩,.string ⟨#[49,54]⟩,.string ⟨#[]⟩] 50))
 have HL:=Lib.hid ((Blk.newAt (w.alloc (.cells xz 30)) 71 #[.string ⟨#[97,47,49]⟩,.string ⟨#[97,98,99]⟩,.int .i64 19700,.int .i64 19700,.string ⟨#[49,48]⟩,.string ⟨#[49,48,48]⟩,.string ⟨#[]⟩,.string ⟨#[98,47,49]⟩,.string ⟨#[97,98,99]⟩,.int .i64 19710,.int .i64 19710,.string ⟨#[53]⟩,.string ⟨#[50,48]⟩,.string ⟨#[]⟩] (w.heap.size+1) (by simp)).alloc (.cells #[.string ⟨#[100,101,102]⟩,.string ⟨#[49]⟩,.string ⟨#[50]⟩,.string ⟨#[50]⟩,.string ⟨#[]⟩,.string ⟨#[49,54]⟩,.string ⟨#[]⟩] 50))
 have HO:=Lib.hid (Blk.newAt ((w.alloc (.cells xz 30)).alloc (.cells #[.string ⟨#[97,47,49]⟩,.string ⟨#[97,98,99]⟩,.int .i64 19700,.int .i64 19700,.string ⟨#[49,48]⟩,.string ⟨#[49,48,48]⟩,.string ⟨#[]⟩,.string ⟨#[98,47,49]⟩,.string ⟨#[97,98,99]⟩,.int .i64 19710,.int .i64 19710,.string ⟨#[53]⟩,.string ⟨#[50,48]⟩,.string ⟨#[]⟩] 71)) 50 #[.string ⟨#[100,101,102]⟩,.string ⟨#[49]⟩,.string ⟨#[50]⟩,.string ⟨#[50]⟩,.string ⟨#[]⟩,.string ⟨#[49,54]⟩,.string ⟨#[]⟩] (w.heap.size+1+1) (by simp))
 have HX:Hid (Ext w _):=Lib.hid (((Ext.new w (.cells xz 30)).alloc (.cells #[.string ⟨#[97,47,49]⟩,.string ⟨#[97,98,99]⟩,.int .i64 19700,.int .i64 19700,.string ⟨#[49,48]⟩,.string ⟨#[49,48,48]⟩,.string ⟨#[]⟩,.string ⟨#[98,47,49]⟩,.string ⟨#[97,98,99]⟩,.int .i64 19710,.int .i64 19710,.string ⟨#[53]⟩,.string ⟨#[50,48]⟩,.string ⟨#[]⟩] 71)).alloc (.cells #[.string ⟨#[100,101,102]⟩,.string ⟨#[49]⟩,.string ⟨#[50]⟩,.string ⟨#[50]⟩,.string ⟨#[]⟩,.string ⟨#[49,54]⟩,.string ⟨#[]⟩] 50))
 have hs2:(Tryz.prog.info? 30).map (·.size)=some (xc exKey 19723 exIns (some ⟨w.heap.size+1+1,0,none⟩) 1 1).size:=by kernel_rfl
 have hth:World.there _ w.heap.size 0 (xc exKey 19723 exIns (some ⟨w.heap.size+1+1,0,none⟩) 1 1).size:=(fact_there HB.out:World.there _ w.heap.size 0 (xz:Array Value).size)
 have hoc:(xc exKey 19723 exIns (some ⟨w.heap.size+1+1,0,none⟩) 1 1).all (·.oneCell')=true:=by simp [Value.oneCell']
 have HF:=Lib.hid (fact_over (w:=_) (xs:=xz.toList) (ys:=(xc exKey 19723 exIns (some ⟨w.heap.size+1+1,0,none⟩) 1 1).toList) (show Blk _ _ _ xz.toList.toArray from HB.out) rfl)
 have HXF:=Lib.hid (ext_sets (xc exKey 19723 exIns (some ⟨w.heap.size+1+1,0,none⟩) 1 1).toList 0 _ () HX.out (Nat.le_refl w.heap.size))
 have HLF:=Lib.hid (HL.out.sets_far (g':=w.heap.size) (by omega) (xc exKey 19723 exIns (some ⟨w.heap.size+1+1,0,none⟩) 1 1).toList 0)
 have HOF:=Lib.hid (HO.out.sets_far (g':=w.heap.size) (by omega) (xc exKey 19723 exIns (some ⟨w.heap.size+1+1,0,none⟩) 1 1).toList 0)
 go_enter Tryz.func51,Tryz.ntmps51
 go_wp2_with (first | (refine wpList_store_mid rfl 30 _ _ rfl w.heap.size 0 (xc exKey 19723 exIns (some ⟨w.heap.size+1+1,0,none⟩) 1 1) rfl rfl hth hs2 hoc ?_) | fail)
 refine bodyPost_ret (results_tx rfl _ _ w.heap.size (.slice (some ⟨w.heap.size+1,0,none⟩) 2 2) (xc exKey 19723 exIns (some ⟨w.heap.size+1+1,0,none⟩) 1 1).toList rfl rfl rfl HF.out) rfl ?_
 refine ⟨_,_,rfl,?_,?_,HXF.out⟩
 ·exact ⟨rfl,fun _=>⟨_,_,rfl,HLF.out.lt,fun j u hu=>by rw [Nat.zero_add,HLF.out.cell,List.getElem?_toArray];exact hu⟩⟩
 ·exact ⟨rfl,fun _=>⟨_,_,rfl,HOF.out.lt,fun j u hu=>by rw [Nat.zero_add,HOF.out.cell,List.getElem?_toArray];exact hu⟩⟩
end
section
open Go.RowKit Go.Shelf
attribute [local go_sem] size_bs toList_bs
theorem ex_termsA:termsA exO [49,53]=([55],[51,56],⟨[49],[50]⟩,0):=by
 unfold termsA
 rw [if_neg (by rw [ex_e];decide +kernel),if_neg (by decide +kernel)]
 exact ex_terms
theorem ex_recV:recV [49,50,48] [51,56] [49,49,50]=([51,48],[49,49,50],0):=by
 rw [recV_ok (by decide +kernel) (by decide +kernel)]
 rw [show recG (valI [49,50,48]) (valI [51,56]) (valI [49,49,50])=30 by decide +kernel,ofI_of (l:=[51,48]) (z:=30) (by decide +kernel) (by decide +kernel),ofI_of (l:=[49,49,50]) (z:=valI [49,50,48]+30-valI [51,56]) (by decide +kernel) (by decide +kernel)]
theorem awakeOK:AwakeOK:=by
 intro w hE
 have HE:=Lib.hid hE
 clear hE
 go_enter Tryz.func13,Tryz.ntmps13
 go_wp2_with fail
 refine (lawExample _).mono ?_
 rintro e w1 ⟨A,AO,rfl,hA,hO,hx1⟩
 have HZ:=Lib.hid (Blk.new w1 30 xz)
 have HX:=Lib.hid (hx1.trans (ext_sets (xc exKey 19723 exIns AO 1 1).toList 0 _ () (Ext.new w1 (.cells xz 30)) (Nat.le_refl w1.heap.size)))
 have HX1:=Lib.hid (ext_sets (xc exKey 19723 exIns AO 1 1).toList 0 _ () (Ext.new w1 (.cells xz 30)) (Nat.le_refl w1.heap.size))
 have HA:=Lib.hid (hA.ext HX1.out)
 have HO:=Lib.hid (hO.ext HX1.out)
 have HF:Hid (Blk _ w1.heap.size 30 (xc exKey 19723 exIns AO 1 1)):=Lib.hid (fact_over (w:=_) (xs:=xz.toList) (ys:=(xc exKey 19723 exIns AO 1 1).toList) (show Blk _ _ _ xz.toList.toArray from HZ.out) rfl)
 have hs2:(Tryz.prog.info? 30).map (·.size)=some (xc exKey 19723 exIns AO 1 1).size:=by kernel_rfl
 have hs1:(Tryz.prog.info? 30).map (·.size)=some (xc exKey 19723 exIns AO 1 1).toList.length:=by kernel_rfl
 have hth:World.there _ w1.heap.size 0 (xc exKey 19723 exIns AO 1 1).size:=(fact_there HZ.out:World.there _ w1.heap.size 0 (xz:Array Value).size)
 have hoc:(xc exKey 19723 exIns AO 1 1).all (·.oneCell')=true:=by simp [Value.oneCell']
 clear hA hO hx1 HX1 HZ
 go_wp2_with (first | (refine wpList_store_mid rfl 30 _ _ rfl w1.heap.size 0 (xc exKey 19723 exIns AO 1 1) rfl rfl hth hs2 hoc ?_;refine halt_in ?_) | fail)
 refine halt_out ?_
 clear hth hoc hs2
 generalize ((w1.alloc (.cells xz 30)).setCells w1.heap.size 0 (xc exKey 19723 exIns AO 1 1).toList)=w2 at *
 generalize w1.heap.size=G2 at *
 have hrg:=fact_range HF.out
 go_wp2_with (first | refine wpList_load_mid rfl 30 _ rfl G2 0 rfl _ _ hrg Tryz.underlying30 rfl hs1 ?_ | fail)
 refine (apEx A 2 AO 1 w2 HA.out (Nat.le_refl _) HO.out (HE.out.ext HX.out)).mono ?_
 rintro e w3 ⟨AL,cl,gG,oG,cg,AS,n,cs,AE,rfl,hr,hg1,hg2,hx1⟩
 have hgl:=cell_in hg1
 have HG:Hid (∀ W,Ext w3 W→W.cell? ⟨gG,oG+6,none⟩=some (.string (bs [50,53]))∧W.cell? ⟨gG,oG+10+7,none⟩=some (.string (bs [49]))):=Lib.hid (fun W hx=>⟨(hx.cell (p:=⟨gG,oG+6,none⟩) hgl).trans hg1,(hx.cell (p:=⟨gG,oG+10+7,none⟩) hgl).trans hg2⟩)
 have HL:=Lib.hid hr
 replace HX:=Lib.hid (HX.out.trans hx1)
 replace HF:=Lib.hid (HF.out.ext hx1)
 replace HO:=Lib.hid (HO.out.ext hx1)
 clear hx1 hr hg1 hg2 hgl hrg HA
 have HR:=Lib.hid (Blk.new w3 37 #[.slice AL 2 cl,.slice (some ⟨gG,oG,none⟩) 2 cg,.slice AS n cs,.slice AE 1 1])
 have hx1:=Ext.new w3 (.cells #[.slice AL 2 cl,.slice (some ⟨gG,oG,none⟩) 2 cg,.slice AS n cs,.slice AE 1 1] 37)
 replace HX:=Lib.hid (HX.out.trans hx1)
 replace HF:=Lib.hid (HF.out.ext hx1)
 replace HO:=Lib.hid (HO.out.ext hx1)
 have HY:=Lib.hid hx1
 clear hx1
 have x19:=(xBlk HF.out (Ext.refl _)).2.2.2.2.2.2.2.2.2.2.2.2.2.2.2.2.2.2.2.1
 obtain ⟨bo,oo,rfl,hbo,o0,o1,o2,o3,o4,o5,o6⟩:=HO.out.at_ (k:=0) (by decide)
 simp only [List.getElem_cons_zero,Nat.zero_mul,Nat.add_zero] at o0 o1 o2 o3 o4 o5 o6
 have TM:=Lib.hid (mgTerms (L:=100) (by decide) (by decide) exO [49,53] ⟨by decide,by decide,by decide,by decide,by decide,by decide,by decide⟩ (by decide))
 rw [ex_termsA] at TM
 have RV:=Lib.hid (mgRecognized [49,50,48] [51,56] [49,49,50] (by decide) (by decide) (by decide))
 rw [ex_recV] at RV
 dsimp only at TM RV
 go_wp2_with fail
 generalize w3.alloc (.cells #[.slice AL 2 cl,.slice (some ⟨gG,oG,none⟩) 2 cg,.slice AS n cs,.slice AE 1 1] 37)=W3 at *
 generalize w3.heap.size=G3 at *
 refine (TM.out _ (HE.out.ext HX.out)).mono ?_
 rintro e w4 ⟨rfl,hx1⟩
 replace HX:=Lib.hid (HX.out.trans hx1)
 replace HY:=Lib.hid (HY.out.trans hx1)
 replace HR:=Lib.hid (HR.out.ext hx1)
 clear hx1 x19 o0 o1 o2 o3 o4 o5 o6 hbo TM
 have HP:=Lib.hid (Blk.new w4 26 #[.string (bs [49]),.string (bs [50])])
 replace HX:=Lib.hid (HX.out.alloc (.cells #[.string (bs [49]),.string (bs [50])] 26))
 replace HY:=Lib.hid (HY.out.alloc (.cells #[.string (bs [49]),.string (bs [50])] 26))
 replace HR:=Lib.hid (HR.out.alloc (.cells #[.string (bs [49]),.string (bs [50])] 26))
 go_wp2_with fail
 generalize w4.alloc (.cells #[.string (bs [49]),.string (bs [50])] 26)=W4 at *
 generalize w4.heap.size=G4 at *
 refine (RV.out _ (HE.out.ext HX.out)).mono ?_
 rintro e w5 ⟨rfl,hx1⟩
 replace HX:=Lib.hid (HX.out.trans hx1)
 replace HY:=Lib.hid (HY.out.trans hx1)
 replace HR:=Lib.hid (HR.out.ext hx1)
 replace HP:=Lib.hid (HP.out.ext hx1)
 clear hx1 RV
 obtain ⟨p0,p1,_,_⟩:=frBlk HP.out (Ext.refl _)
 obtain ⟨r0,r1,r2,r3⟩:=rcB HR.out (Ext.refl _)
 obtain ⟨g0,g1⟩:=HG.out _ HY.out
 have hLL:=HL.out.ext HY.out
 obtain ⟨b,o,rfl,hb,a0,a1,a2,a3,a4,a5,a6⟩:=hLL.at_ (k:=0) (by decide)
 obtain ⟨b2,o2,e2,_,c0,c1,c2,c3,c4,c5,c6⟩:=hLL.at_ (k:=1) (by decide)
 injection e2 with e2
 injection e2 with e3 e4 _
 subst e3
 subst e4
 simp only [List.getElem_cons_zero,List.getElem_cons_succ,Nat.zero_mul,Nat.add_zero,Nat.one_mul] at a0 a1 a2 a3 a4 a5 a6 c0 c1 c2 c3 c4 c5 c6
 clear hLL HL HG HP HR HY hb
 go_wp2_with fail
 go_ret
 exact ⟨rfl,HX.out⟩
end
section
open Go.ChangeShapes Go.WideShapes Go.ChangeAt Go.RowKit Go.Deep Go.Joins
theorem list_of {α:Type} [Inhabited α] (n:Nat) (Q:Nat→α→Prop) (h:∀ i,i<n→∃ a,Q i a):∃ xs:List α,xs.length=n∧∀ (i:Nat) (hi:i<xs.length),Q i (xs[i]'hi):=by
 induction n with
 |zero=>exact ⟨[],rfl,fun i hi=>absurd hi (by simp)⟩
 |succ n ih =>
  obtain ⟨xs,hl,hx⟩:=ih (fun i hi=>h i (by omega))
  obtain ⟨a,ha⟩:=h n (by omega)
  refine ⟨xs++[a],by simp [hl],fun i hi=>?_⟩
  rcases Nat.lt_or_ge i xs.length with h1 | h1
  ·rw [List.getElem_append_left h1];exact hx i h1
  ·have:i=n:=by simp at hi;omega
   subst this
   rw [List.getElem_append_right h1]
   simpa [hl] using ha
section
variable {H:Type} {enc:TypeId × Value→H} {P:Program} {w:World} {base:Nat} {spare:Nat→Bool} {held:Bool}
theorem open_list {α:Type} [Inhabited α] (f:α→List Value) (k:Nat) (hk:0<k) (hf:∀ a,(f a).length=k) {t e:TypeId} {fuel:Nat} {cs:List Value} {x:DataW H × List MemPlace} (ht:P.underlying t=some (.slice e)) (hC:P.cellsOf e=k)
  (ho:∀ n cs' y,DataW.trod enc P w base spare held n e cs'=some y→∃ a,cs'=f a) (h:DataW.trod enc P w base spare held fuel t cs=some x) :
  ∃ (A:Option Addr) (c:Nat) (xs:List α),cs=[.slice A xs.length c]∧Reads w k A xs.length (xs.flatMap f)∧xs.length≤c∧(xs=[]∨∃ el sp,x.1 = .slice el sp∧el.length=xs.length):=by
 rcases open_slice ht h with ⟨rfl,_⟩ | ⟨a,len,cap,m,n,D,Pl,rfl,_,hlc,_,hm,hx,hi⟩
 ·exact ⟨none,0,[],rfl,Reads.nil,Nat.le_refl _,.inl rfl⟩
 ·have hml:len≤m:=by rw [hm];split <;> omega
  obtain ⟨xs,hl,hq⟩:=list_of len (fun i b=>∀ j,j<k→w.cell? (a.add (i*k+j))=(f b)[j]?) (fun i hlt=>by
   obtain ⟨cs',hc,ht'⟩:=hi i (by omega)
   obtain ⟨b,rfl⟩:=ho _ _ _ ht'
   obtain ⟨_,hcl,hat⟩:=World.cells?_some hc
   rw [hC] at hat
   exact ⟨b,fun j hj=>by rw [← hat j hj,Go.Deep.add_add]⟩)
  subst hl
  refine ⟨some a,cap,xs,rfl,⟨flat_len f k hf xs,fun hn=>?_⟩,hlc,.inr ⟨_,_,by rw [hx],by simp⟩⟩
  have h00:=hq 0 hn 0 hk
  rw [Nat.zero_mul,Nat.zero_add] at h00
  have h0:w.cell? a=(f (xs[0]'hn))[0]? := h00
  have hl0:0<(f (xs[0]'hn)).length:=by rw [hf];exact hk
  rw [List.getElem?_eq_getElem hl0] at h0
  obtain ⟨b,o,sp⟩:=a
  have hsp:sp=none∧b<w.heap.size:=by
   unfold World.cell? at h0
   cases hb:w.heap[b]? with
   |none=>simp [hb] at h0
   |some ob =>
    have hlt:=(Array.getElem?_eq_some_iff.1 hb).1
    cases sp with
    |none=>exact ⟨rfl,hlt⟩
    |some q =>
     exfalso
     simp only [hb] at h0
     cases ob <;> simp at h0
  obtain ⟨rfl,hlt⟩:=hsp
  refine ⟨b,o,rfl,hlt,fun j u hu=>?_⟩
  have hj:j<xs.length*k:=by
   have:=(List.getElem?_eq_some_iff.1 hu).1;rw [flat_len f k hf xs] at this;exact this
  have hjk:j / k<xs.length:=(Nat.div_lt_iff_lt_mul hk).2 hj
  have he:j=(j / k)*k+j % k:=by have:=Nat.div_add_mod j k;rw [Nat.mul_comm] at this;omega
  have h1:=flat_at f k hf xs (j / k) (j % k) hjk (Nat.mod_lt _ hk)
  rw [← he,hu] at h1
  have h2:=hq (j / k) hjk (j % k) (Nat.mod_lt _ hk)
  rw [← he,← h1] at h2
  rw [← h2]
  unfold Addr.add
  rcases Nat.eq_zero_or_pos j with h0 | h0
  ·subst h0;rfl
  ·rw [if_neg (by omega)]
end
theorem trodAll_stays {H:Type} {enc:TypeId × Value→H} {P:Program} (hl:laidOutB P=true) {W W':World} (hb:Below W.heap.size W W') {sp:Nat→Bool} :
  ∀ {ts:List TypeId} {vs:List Value} {ds:List (DataW H)} {ps:List MemPlace},(ts.all fun t=>P.readableRec t && decide (t<P.types.size))=true→DataW.TrodAll enc P W 0 (fun _=>true) true ts vs ds ps→(∀ p ∈ ps,p.block<W.heap.size)→(∀ p ∈ ps,sp p.block=true) →
    DataW.TrodAll enc P W' 0 sp true ts vs ds ps
 |[],vs,ds,ps,_,h,_,_=>by
  obtain ⟨rfl,rfl,rfl⟩:=trodAll_nil h
  exact trodAll_mk0
 |t :: ts,vs,ds,ps,hr,h,h1,h2=>by
  obtain ⟨v0,vs0,d0,ds0,p0,q0,rfl,rfl,rfl,h0,r0⟩:=trodAll_cons h
  simp only [List.all_cons,Bool.and_eq_true,decide_eq_true_eq] at hr
  refine trodAll_cons_mk (WideElems.Trod_stays hl hr.1.1 hr.1.2 h0 (fun x hx=>hb.same (h1 x (by simp [hx]))) (fun x hx=>h2 x (by simp [hx]))) ?_
  exact trodAll_stays hl hb (by simpa using hr.2) r0 (fun p hp=>h1 p (by simp [hp])) (fun p hp=>h2 p (by simp [hp]))
theorem post_law {H:Type} {enc:TypeId × Value→H} {P:Program} {f:Func} {s:ChangeSpec} {apart fresh handsOn again:Bool} {W W':World} {args:Array Value} {tb:TypeId} {ds gs:List (DataW H)} {before:List MemPlace}
  (hl:laidOutB P=true) (hts:(f.params.toList.all fun t=>P.readableRec t && decide (t<P.types.size))=true) (hrt:f.resultTypes=#[tb]) (hbt:P.underlying tb=some .bool) (hvs:s.vars=[])
  (hW:DataW.Whole enc P f.params.toList s.vars apart W args.toList ds gs before) (hsr:(s.fn H (ds++gs)).results=[.lit (.bool true)]) (hsa:(s.fn H (ds++gs)).args=ds) (hsv:(s.fn H (ds++gs)).vars=[]) (hb:Below W.heap.size W W') :
  s.post enc P f apart fresh handsOn again W args (.bool true) W':=by
 have hlt:∀ p ∈ before,p.block<W.heap.size:=fun p hp=>hW.lt p hp
 have hold:∀ p ∈ before,(fun b=>decide (b<W.heap.size)) p.block=true:=fun p hp=>by simpa using hlt p hp
 have hW0:=hW
 obtain ⟨pa,pv,hA,hV,hpp,hz,hn⟩:=hW0
 rw [hvs] at hV
 obtain ⟨rfl,rfl⟩:=trodVars_none hV
 rw [List.append_nil] at hpp
 subst hpp
 have hres:∀ (b:Nat) (sp:Nat→Bool) (hd:Bool),DataW.TrodAll enc P W' b sp hd f.resultTypes.toList ((Value.bool true).resultList f.resultTypes.size) (s.fn H (ds++[])).results []:=by
  intro b sp hd;rw [hrt,hsr];exact trodAll_cons_mk (shut_bool hbt _) trodAll_mk0
 have hargs:∀ sp:Nat→Bool,(∀ p ∈ before,sp p.block=true)→DataW.TrodAll enc P W' 0 sp true f.params.toList args.toList (s.fn H (ds++[])).args before:=by
  intro sp hsp;rw [hsa];exact trodAll_stays hl hb hts hA hlt hsp
 have hvars:∀ sp:Nat→Bool,DataW.TrodVars enc P W' sp s.vars (s.fn H (ds++[])).vars []:=by
  intro sp;rw [hvs,hsv];exact rfl
 have hok:∀ (j:Nat) (t:TypeId) (r:Value),f.resultTypes[j]? = some t→((Value.bool true).resultList f.resultTypes.size)[j]? = some r→Value.okWide P W' .any 0 t r :=
  ok_one hrt rfl (okWide_bool_mk hbt _)
 refine ⟨ds,[],before,[],before,[],hW,hres _ _ _,hargs _ hold,hvars _,World.keptBut_mono (fun p hp=>⟨hp,Or.inr (by simpa using hp)⟩) (hb.frame (· ∈ before)),fun _=>⟨hok,_,_,([]++before)++[],⟨[]++before,[],trodAll_append (hargs _ (fun _ _=>rfl)) (hres _ _ _),hvars _,rfl,?_,?_⟩,?_⟩⟩
 ·intro b off hp
  have hin:MemPlace.cell b off ∈ before:=by simpa using hp
  rw [hb.frozen (hlt _ hin)]
  exact hz b off hin
 ·intro ha
  simpa using hn ha
 ·intro p hp _
  simpa using hp
end
section
open Go.ChangeShapes Go.WideShapes Go.ChangeAt Go.RowKit Go.Deep Go.Joins
theorem list_small {H:Type} {P:Program} {t e:TypeId} {α:Type} {xs:List α} {d:DataW H} (ht:P.underlying t=some (.slice e)) (hb:0<P.bytesOf e) (hw:(d.weights P t).all (·≤reachBytes)=true) (hx:xs=[]∨∃ el sp,d = .slice el sp∧el.length=xs.length):xs.length≤4611686018427387904:=by
 rcases hx with rfl | ⟨el,sp,rfl,hl⟩
 ·simp
 ·simp only [DataW.weights,ht,List.all_cons,Bool.and_eq_true,decide_eq_true_eq] at hw
  have h1:el.length*1≤(el.length+sp.length)*P.bytesOf e:=Nat.mul_le_mul (by omega) hb
  have h2:reachBytes≤4611686018427387904:=by decide
  omega
theorem laidOut:laidOutB Tryz.prog=true:=by kernel_rfl
theorem star: "*" ++ "errors.errorString" = "*errors.errorString":=by decide
theorem errRow (u:TypeId) (h:Tryz.prog.typeName? 3 u=some "*errors.errorString"):u=319 :=
 typeName_ptr_named (nm:= "errors.errorString") (by rw [star];kernel_rfl) (by kernel_rfl) (by decide) u (by rw [star];exact h)
theorem block_of_cell {w:World} {p:Addr} {u:Value} (h:w.cell? p=some u):p.block<w.heap.size:=by
 unfold World.cell? at h
 cases hb:w.heap[p.block]? with
 |none=>simp [hb] at h
 |some o=>exact (Array.getElem?_eq_some_iff.1 hb).1
theorem env_of {W:World} {x y u:String × DataW Unit} {rest:List (String × DataW Unit)} (h:laidMet Tryz.prog (x :: y :: ("internal/strconv.uint64pow10",Rows.laid_internal_strconv_uint64pow10) :: u :: ("strconv.ErrRange",Rows.laid_strconv_ErrRange) :: ("strconv.ErrSyntax",Rows.laid_strconv_ErrSyntax) :: rest) W) (hsh:W.ShapedOpen Tryz.prog):Env W:=by
 have h1:Lib.TabIs Tryz.prog W "internal/strconv.uint64pow10" .u64 Lib.pow10Tab :=
  Lib.tabIs_of_head (g:=0) (by kernel_rfl) (by kernel_rfl) Tryz.underlying295 Tryz.underlying183 (by kernel_rfl) (by kernel_rfl) h.tail.tail
 have h2:∃ m,W.cell? ⟨3,0,none⟩=some (.int .i64 m) :=
  cell_of_shapedOpen_int (zero:=#[.int .i64 0]) hsh (by decide +kernel) (by kernel_rfl) (by kernel_rfl) (by kernel_rfl) (by kernel_rfl) Tryz.underlying3
 have h3:=h1.cell (g:=0) (by kernel_rfl) 0 (by decide)
 have gR:Tryz.prog.globalNamed "strconv.ErrRange"=some 2:=by kernel_rfl
 have gS:Tryz.prog.globalNamed "strconv.ErrSyntax"=some 1:=by kernel_rfl
 obtain ⟨a1,s1,v1,_,_,_⟩:=laid_sentinel h.tail.tail.tail.tail gR (by kernel_rfl) Tryz.underlying185 errRow Tryz.underlying319 Tryz.underlying321 rfl rfl Tryz.underlying9 (by kernel_rfl) (by kernel_rfl)
 obtain ⟨a2,s2,v2,_,_,_⟩:=laid_sentinel h.tail.tail.tail.tail.tail gS (by kernel_rfl) Tryz.underlying185 errRow Tryz.underlying319 Tryz.underlying321 rfl rfl Tryz.underlying9 (by kernel_rfl) (by kernel_rfl)
 refine ⟨h1,h2,⟨block_of_cell h3,?_⟩,⟨_,World.var?_cell gS v2 0,.inr ⟨_,_,rfl⟩⟩,⟨_,World.var?_cell gR v1 0,.inr ⟨_,_,rfl⟩⟩⟩
 obtain ⟨m,hm⟩:=h2
 exact block_of_cell hm
end
section
open Go.ChangeShapes Go.WideShapes Go.ChangeAt Go.RowKit Go.Deep Go.Joins
instance:Inhabited OptV:=⟨⟨[],⟨[],[]⟩,⟨[],[]⟩,⟨[],[]⟩⟩⟩
section
variable {w:World} {base:Nat} {spare:Nat→Bool} {held:Bool} {H:Type} {enc:TypeId × Value→H}
theorem open_frac {n:Nat} {cs:List Value} {y:DataW H × List MemPlace} (h:DataW.trod enc Tryz.prog w base spare held n 26 cs=some y):∃ f:Fr,cs=[.string (bs f.num),.string (bs f.den)]:=by
 obtain ⟨xs,n,_,_,hlen,hl,hg⟩:=DataW.trod_struct Tryz.underlying26 h
 rw [show Tryz.prog.cellsOf 26=2 by kernel_rfl] at hlen
 have hc:Tryz.prog.cellsOf 24=1:=by kernel_rfl
 match cs,hlen,xs,hl with
 |[c0,c1],_,[y0,y1],_ =>
  have g0:DataW.trod enc Tryz.prog w base spare held n 24 (([c0,c1].drop 0).take (Tryz.prog.cellsOf 24))=some y0:=hg 0 _ rfl
  have g1:DataW.trod enc Tryz.prog w base spare held n 24 (([c0,c1].drop 1).take (Tryz.prog.cellsOf 24))=some y1:=hg 1 _ rfl
  rw [hc] at g0 g1
  obtain ⟨s0,e0,_⟩:=DataW.trod_string Tryz.underlying24 (x:=y0) (by simpa using g0)
  obtain ⟨s1,e1,_⟩:=DataW.trod_string Tryz.underlying24 (x:=y1) (by simpa using g1)
  simp at e0 e1
  subst e0;subst e1
  exact ⟨⟨L s0,L s1⟩,by simp [bs_L]⟩
theorem open_option {n:Nat} {cs:List Value} {y:DataW H × List MemPlace} (h:DataW.trod enc Tryz.prog w base spare held n 50 cs=some y):∃ o:OptV,cs=optCells o:=by
 obtain ⟨xs,n,_,_,hlen,hl,hg⟩:=DataW.trod_struct Tryz.underlying50 h
 rw [show Tryz.prog.cellsOf 50=7 by kernel_rfl] at hlen
 have hc:Tryz.prog.cellsOf 9=1:=by kernel_rfl
 have hf:Tryz.prog.cellsOf 26=2:=by kernel_rfl
 match cs,hlen,xs,hl with
 |[c0,c1,c2,c3,c4,c5,c6],_,[y0,y1,y2,y3],_ =>
  have g0:DataW.trod enc Tryz.prog w base spare held n 9 (([c0,c1,c2,c3,c4,c5,c6].drop 0).take (Tryz.prog.cellsOf 9))=some y0:=hg 0 _ rfl
  have g1:DataW.trod enc Tryz.prog w base spare held n 26 (([c0,c1,c2,c3,c4,c5,c6].drop 1).take (Tryz.prog.cellsOf 26))=some y1:=hg 1 _ rfl
  have g2:DataW.trod enc Tryz.prog w base spare held n 26 (([c0,c1,c2,c3,c4,c5,c6].drop 3).take (Tryz.prog.cellsOf 26))=some y2:=hg 2 _ rfl
  have g3:DataW.trod enc Tryz.prog w base spare held n 26 (([c0,c1,c2,c3,c4,c5,c6].drop 5).take (Tryz.prog.cellsOf 26))=some y3:=hg 3 _ rfl
  rw [hc] at g0
  rw [hf] at g1 g2 g3
  obtain ⟨s0,e0,_⟩:=DataW.trod_string Tryz.underlying9 (x:=y0) (by simpa using g0)
  obtain ⟨f1,e1⟩:=open_frac (y:=y1) (by simpa using g1)
  obtain ⟨f2,e2⟩:=open_frac (y:=y2) (by simpa using g2)
  obtain ⟨f3,e3⟩:=open_frac (y:=y3) (by simpa using g3)
  simp at e0 e1 e2 e3
  obtain ⟨rfl,rfl⟩:=e1
  obtain ⟨rfl,rfl⟩:=e2
  obtain ⟨rfl,rfl⟩:=e3
  subst e0
  exact ⟨⟨L s0,f1,f2,f3⟩,by simp [optCells,bs_L]⟩
end
theorem open_opts {H:Type} {enc:TypeId × Value→H} {W:World} {r:Reach} {b0 base:Nat} {spare:Nat→Bool} {held:Bool} {v:Value} {d:DataW H} {p:List MemPlace} (hv:Value.okWide Tryz.prog W r b0 28 v) (h:DataW.Trod enc Tryz.prog W base spare held 28 v d p)
  (hw:(d.weights Tryz.prog 28).all (·≤reachBytes)=true) :
  ∃ (os:List OptV) (A:Option Addr) (c:Nat),v = .slice A os.length c∧RdO W A os∧os.length≤c∧os.length≤4611686018427387904:=by
 obtain ⟨a,n,c,rfl⟩:=okWide_slice Tryz.underlying28 hv
 obtain ⟨fuel,hf⟩:=h
 obtain ⟨A,c',os,e,hr,hlc,hx⟩:=open_list (α:=OptV) optCells 7 (by decide) optCells_len Tryz.underlying28 (by kernel_rfl) (fun n cs y hy=>open_option hy) hf
 simp only [Value.cells,List.cons.injEq,and_true] at e
 rw [e]
 exact ⟨os,A,c',rfl,hr,hlc,list_small Tryz.underlying28 (by rw [show Tryz.prog.bytesOf 50=112 by kernel_rfl];decide) hw hx⟩
theorem open_opt1 {H:Type} {enc:TypeId × Value→H} {W:World} {r:Reach} {b0 base:Nat} {spare:Nat→Bool} {held:Bool} {v:Value} {d:DataW H} {p:List MemPlace} (hv:Value.okWide Tryz.prog W r b0 50 v) (h:DataW.Trod enc Tryz.prog W base spare held 50 v d p) :
  ∃ o:OptV,v=ov o:=by
 obtain ⟨cs,rfl,_⟩:=okWide_struct Tryz.underlying50 hv
 obtain ⟨fuel,hf⟩:=h
 obtain ⟨x,e⟩:=open_option hf
 refine ⟨x,?_⟩
 simp only [Value.cells] at e
 exact congrArg Value.agg (Array.toList_inj.1 (e.trans (by simp [optCells]:optCells x=(oc x).toList)))
theorem open_frac1 {H:Type} {enc:TypeId × Value→H} {W:World} {r:Reach} {b0 base:Nat} {spare:Nat→Bool} {held:Bool} {v:Value} {d:DataW H} {p:List MemPlace} (hv:Value.okWide Tryz.prog W r b0 26 v) (h:DataW.Trod enc Tryz.prog W base spare held 26 v d p) :
  ∃ f:Fr,v=fv f:=by
 obtain ⟨cs,rfl,_⟩:=okWide_struct Tryz.underlying26 hv
 obtain ⟨fuel,hf⟩:=h
 obtain ⟨x,e⟩:=open_frac hf
 refine ⟨x,?_⟩
 simp only [Value.cells] at e
 exact congrArg Value.agg (Array.toList_inj.1 (e.trans (by simp)))
end
section
open Go.RowKit Go.Shelf
theorem floorQ_le (q:Rat):0≤q-((floorQ q:Int):Rat)∧q-((floorQ q:Int):Rat)<1:=by
 have hm:=rest_mul q
 have hd:(0:Int)<q.den:=by have:=q.den_pos;omega
 have hdR:(0:Rat)<((q.den:Int):Rat):=Rat.intCast_pos.2 hd
 have h1:(0:Rat)≤((q.num % (q.den:Int):Int):Rat):=by
  rw [← Rat.intCast_zero,Rat.intCast_le_intCast];exact Int.emod_nonneg _ (by omega)
 have h2:((q.num % (q.den:Int):Int):Rat)<((q.den:Int):Rat):=by
  rw [Rat.intCast_lt_intCast];exact Int.emod_lt_of_pos _ hd
 generalize ((q.num % (q.den:Int):Int):Rat)=re at *
 generalize q-((floorQ q:Int):Rat)=x at *
 generalize ((q.den:Int):Rat)=d at *
 subst hm
 refine ⟨Rat.le_of_mul_le_mul_right (c:=d) (by grind) hdR,Rat.lt_of_mul_lt_mul_right (c:=d) (by grind) (by grind)⟩
theorem terms_parts {o:OptV} {q:Bs} (h:optE o=0) (hq:checkI q=0) (hn:¬ valI q<0) :
  ((valI (termsS o q).1:Int):Rat)+frQ (termsS o q).2.1=((valI q:Int):Rat)*frQ o.r∧0≤frQ (termsS o q).2.1∧frQ (termsS o q).2.1<1:=by
 obtain ⟨g,e1,_,_,eb⟩:=opt_ok h
 obtain ⟨c1,_,_,p1,k1⟩:=num_ok e1
 unfold termsS
 by_cases hne:o.other=[]
 ·rw [if_pos hne]
  unfold optBad at eb
  rw [if_pos hne] at eb
  have hr:o.r=⟨[],[]⟩:=by
   cases hh:o.r with
   |mk n d =>
    rw [hh] at eb
    cases n <;> cases d <;> simp_all
  rw [hr,frQ_nilN]
  refine ⟨by simp [show valI []=0 by decide,Rat.add_zero],Rat.le_refl,by decide⟩
 ·rw [if_neg hne]
  have hz:frQ o.r≠0:=by
   intro hz
   rw [hz,ofQ_zero] at k1
   unfold optBad at eb
   rw [if_neg hne,← k1] at eb
   exact absurd eb (by decide)
  have:¬ frQ o.r≤0:=fun hle=>hz (Rat.le_antisymm hle p1)
  have e:partsE q o.r=0:=by
   unfold partsE
   rw [if_neg (by omega),if_neg]
   rintro (a | a)
   ·exact hn a
   ·exact this a
  unfold partsV
  rw [if_pos e]
  unfold partsW partsR
  rw [valI_ofI,frQ_ofQ]
  obtain ⟨f1,f2⟩:=floorQ_le (partsP q o.r)
  refine ⟨?_,f1,f2⟩
  show _=partsP q o.r
  generalize partsP q o.r=x at *
  generalize ((floorQ x:Int):Rat)=y at *
  grind
theorem floor_twice (x:Rat):floorQ (x+x)-(floorQ x+floorQ x)=0∨floorQ (x+x)-(floorQ x+floorQ x)=1:=by
 obtain ⟨a1,a2⟩:=floorQ_le x
 obtain ⟨b1,b2⟩:=floorQ_le (x+x)
 have h1:((floorQ (x+x):Int):Rat)<((floorQ x+floorQ x+2:Int):Rat):=by
  rw [Rat.intCast_add,Rat.intCast_add]
  generalize ((floorQ (x+x):Int):Rat)=b at *
  generalize ((floorQ x:Int):Rat)=a at *
  have:((2:Int):Rat)=2:=rfl
  rw [this]
  grind
 have h2:((floorQ x+floorQ x-1:Int):Rat)<((floorQ (x+x):Int):Rat):=by
  rw [Int.sub_eq_add_neg,Rat.intCast_add,Rat.intCast_add]
  generalize ((floorQ (x+x):Int):Rat)=b at *
  generalize ((floorQ x:Int):Rat)=a at *
  have:((-1:Int):Rat) = -1:=rfl
  rw [this]
  grind
 rw [Rat.intCast_lt_intCast] at h1 h2
 omega
theorem terms_twice {o:OptV} {q:Bs} (h:optE o=0) (hq:checkI q=0) (hn:¬ valI q<0) :
  (termsV o (ofI (valI q+valI q))).2.2.2=0∧(valI (termsV o (ofI (valI q+valI q))).1-(valI (termsV o q).1+valI (termsV o q).1)=0∨valI (termsV o (ofI (valI q+valI q))).1-(valI (termsV o q).1+valI (termsV o q).1)=1):=by
 have hq2:checkI (ofI (valI q+valI q))=0:=checkI_ok.2 (by rw [valI_ofI])
 have hn2:¬ valI (ofI (valI q+valI q))<0:=by rw [valI_ofI];omega
 rw [terms_ok h hq hn,terms_ok h hq2 hn2]
 refine ⟨rfl,?_⟩
 show valI (termsS o (ofI (valI q+valI q))).1-(valI (termsS o q).1+valI (termsS o q).1)=0∨valI (termsS o (ofI (valI q+valI q))).1-(valI (termsS o q).1+valI (termsS o q).1)=1
 have key:∀ q,checkI q=0→¬ valI q<0→valI (termsS o q).1=floorQ (((valI q:Int):Rat)*frQ o.r):=fun q hq hn=>by
  obtain ⟨e1,e2,e3⟩:=terms_parts h hq hn
  generalize frQ (termsS o q).2.1=r at *
  rw [← e1]
  generalize valI (termsS o q).1=z at *
  obtain ⟨a1,a2⟩:=floorQ_le ((z:Rat)+r)
  generalize floorQ ((z:Rat)+r)=y at *
  have h1:((z:Int):Rat)<((y+1:Int):Rat):=by
   rw [Rat.intCast_add]
   have:((1:Int):Rat)=1:=rfl
   rw [this]
   grind
  have h2:((y:Int):Rat)<((z+1:Int):Rat):=by
   rw [Rat.intCast_add]
   have:((1:Int):Rat)=1:=rfl
   rw [this]
   grind
  rw [Rat.intCast_lt_intCast] at h1 h2
  omega
 rw [key q hq hn,key _ hq2 hn2,valI_ofI,Rat.intCast_add,Rat.add_mul]
 exact floor_twice _
end
end Go.Proofs.YthgpheopnhajaaaGreatDoor
