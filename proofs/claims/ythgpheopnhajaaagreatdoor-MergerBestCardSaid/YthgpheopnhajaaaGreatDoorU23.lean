/- The seat's texts, part U23. -/
import Derived.Test.YthgpheopnhajaaaGreatDoorU0
import Derived.Test.YthgpheopnhajaaaGreatDoorU5
import Derived.Test.YthgpheopnhajaaaGreatDoorU11
import Derived.Test.YthgpheopnhajaaaGreatDoorU12
import Derived.Test.YthgpheopnhajaaaGreatDoorU14
import Derived.Test.YthgpheopnhajaaaGreatDoorU15
import Derived.Test.YthgpheopnhajaaaGreatDoorU16
import Derived.Test.YthgpheopnhajaaaGreatDoorU17
import Derived.Test.YthgpheopnhajaaaGreatDoorU21
import Derived.Test.YthgpheopnhajaaaGreatDoorU22
import Derived.Deep.RegionHeld3
import Derived.Deep.RegionLaw
import Derived.BigQuiet
import Derived.OrdersIn
import Derived.Maps.RangeWalk
import Derived.Maps.OwnSet
set_option maxRecDepth 100000
set_option maxHeartbeats 8000000
namespace Go.Proofs.YthgpheopnhajaaaGreatDoor
section
open Go.RowKit Go.Shelf
attribute [local go_sem] size_bs toList_bs
def negK (sp:List Int) (k:Nat):List Bs:=((sp.take k).map (-·)++sp.drop k).map ofI
theorem negK_zero (sp:List Int):negK sp 0=sp.map ofI:=by simp [negK]
theorem negK_full (sp:List Int) {k:Nat} (h:sp.length≤k):negK sp k=(sp.map (-·)).map ofI:=by simp [negK,List.take_of_length_le h,List.drop_of_length_le h]
theorem negK_at (sp:List Int) {k:Nat} (hk:k<sp.length):(negK sp k)[k]? = some (ofI (sp[k]'hk)):=by
 unfold negK
 rw [List.getElem?_map,List.getElem?_append_right (by simp;omega)]
 simp [Nat.min_eq_left (Nat.le_of_lt hk),hk]
theorem negK_set (sp:List Int) {k:Nat} (hk:k<sp.length):(negK sp k).set k (ofI (-(sp[k]'hk)))=negK sp (k+1):=by
 unfold negK
 rw [← List.map_set]
 congr 1
 have e:((sp.take k).map (-·)).length=k:=by simp;omega
 rw [List.set_append_right _ _ (by omega),e,Nat.sub_self,List.take_succ_eq_append_getElem hk,List.map_append,List.append_assoc]
 congr 1
 rw [List.drop_eq_getElem_cons hk]
 rfl
theorem split_len {L:Nat} {t:Bs} {ls:List Bs} (ht:t.length≤L) (hs:∀ x ∈ ls,x.length≤L) (h0:0≤valI t) (hW:WtOK ls):∀ v ∈ splitP (valI t) (ls.map valI),(ofI v).length≤L+L+2:=by
 intro v hv
 obtain ⟨i,hi,rfl⟩:=List.getElem_of_mem hv
 refine bump_len ht hs h0 hW (topL (valI t) (ls.map valI)).length i _ ?_
 rw [List.take_length]
 exact List.getElem?_eq_getElem hi
theorem allDivide (t:Bs) (ls:List Bs) (A:Option Addr) (c:Nat) (w:World) (hE:Env w) (hA:RdS w A ls) (ht:t.length≤3000) (hW:WtOK ls) :
  Calls Tryz.prog 236 #[.string (bs t),.slice A ls.length c] w fun e w'=>∃ P,e = .returned (.slice (some ⟨P,0,none⟩) ls.length ls.length)∧w.heap.size≤P∧RowS w' P ls.length ((splitV (valI t) (ls.map valI)).map ofI)∧Ext w w':=by
 have HE:=Lib.hid hE
 have HA:=Lib.hid hA
 have HX:Hid (Ext w w):=Lib.hid (Ext.refl w)
 have N1:=Lib.hid (allNeg t (by omega))
 by_cases hneg:valI t<0
 ·rw [show decide (valI t<0)=true by simp [hneg]] at N1
  have HSV:Hid (splitV (valI t) (ls.map valI)=(splitP (-valI t) (ls.map valI)).map (-·)):=Lib.hid (by unfold splitV;rw [if_pos hneg])
  rw [HSV.out]
  have n2:=negP t (by omega)
  have hl:(ofI (-valI t)).length≤3000+1:=ofI_lt10 (L:=3000) (by have:=valI_lt10 ht;omega)
  have h0:0≤valI (ofI (-valI t)):=by rw [valI_ofI];omega
  have HPO:=Lib.hid (fun W hx=>allPositive (ofI (-valI t)) ls A c W (hE.ext hx) (hA.ext hx) (by omega) h0 hW)
  have HLS:=Lib.hid (split_len (L:=4000) (t:=ofI (-valI t)) (by omega) hW.sm h0 hW)
  rw [valI_ofI] at HPO HLS
  have N2:=Lib.hid n2
  have hspl:(splitP (-valI t) (ls.map valI)).length=ls.length:=by rw [splitP_len,List.length_map]
  have hnn:=hW.le
  clear hE hA hW ht hneg n2 h0 hl HSV
  generalize ofI (-valI t)=t' at *
  generalize splitP (-valI t) (ls.map valI)=sp at *
  go_enter Tryz.func236,Tryz.ntmps236
  go_wp2_with fail
  refine (N1.out _ HE.out).mono ?_
  rintro e w1 ⟨rfl,hx1⟩
  replace HX:=Lib.hid (HX.out.trans hx1)
  clear hx1
  go_wp2_with fail
  refine (N2.out _ (HE.out.ext HX.out)).mono ?_
  rintro e w2 ⟨rfl,hx1⟩
  replace HX:=Lib.hid (HX.out.trans hx1)
  clear hx1
  go_wp2_with fail
  refine (HPO.out _ HX.out).mono ?_
  rintro e w3 ⟨P,rfl,hP,hrow,hx1⟩
  have hPw:w.heap.size≤P:=Nat.le_trans HX.out.size hP
  replace HX:=Lib.hid (HX.out.trans hx1)
  rw [← negK_zero] at hrow
  have HR:=Lib.hid hrow
  clear hx1 hP hrow HPO N1 N2
  go_wp2_with fail
  go_loopw [19,6] (fun i _ wr=>∃ k:Nat,k≤ls.length∧i = .int .i64 k∧RowS wr P ls.length (negK sp k)∧Ext w wr) (fun i _ _=>ls.length-(intOf i).toNat)
  case atStart=>exact ⟨0,by omega,rfl,HR.out,HX.out⟩
  case round =>
   clear HR HX
   obtain ⟨k,hk,rfl,hr,hx⟩:=hrel
   have HR:=Lib.hid hr
   have HX:=Lib.hid hx
   clear hr hx
   by_cases hlt:k<ls.length
   ·have hks:k<sp.length:=by omega
    have n3:=negP (ofI (sp[k]'hks)) (by have:=HLS.out _ (List.getElem_mem hks);omega)
    rw [valI_ofI] at n3
    have N3:=Lib.hid n3
    have c0:=HR.out.cell (negK_at sp hks)
    have HCC:=Lib.hid (fun W hx=>(HR.out.ext (w':=W) hx).cell (negK_at sp hks))
    have HSET:=Lib.hid (negK_set sp hks)
    have hki:(k:Int)<(ls.length:Int):=by omega
    have hk0:(0:Int)≤(k:Int):=by omega
    clear n3
    generalize ofI (-(sp[k]'hks))=z1 at *
    generalize ofI (sp[k]'hks)=z0 at *
    go_wp2_with fail
    refine (N3.out _ (HE.out.ext HX.out)).mono ?_
    rintro e w4 ⟨rfl,hx⟩
    have d0:=HCC.out _ hx
    have d1:=(HR.out.ext hx).frozen k
    have HR2:=Lib.hid ((HR.out.ext hx).set_ k z1)
    rw [HSET.out] at HR2
    have HX2:=Lib.hid ((HX.out.trans hx).setCell (p:=⟨P,k,none⟩) hPw (.string (bs z1)))
    clear hx
    go_wp2_with fail
    go_roundw
    case rel=>exact ⟨k+1,by omega,by go_num,HR2.out,HX2.out⟩
    case measure=>simp [intOf];omega
   ·have HF:=Lib.hid (negK_full sp (k:=k) (by omega))
    rw [HF.out] at HR
    go_wp2_with fail
    go_ret
    exact ⟨P,rfl,hPw,HR.out,HX.out⟩
 ·rw [show decide (valI t<0)=false by simp;omega] at N1
  have HSV:Hid (splitV (valI t) (ls.map valI)=splitP (valI t) (ls.map valI)):=Lib.hid (by unfold splitV;rw [if_neg hneg])
  rw [HSV.out]
  have HPO:=Lib.hid (fun W hx=>allPositive t ls A c W (hE.ext hx) (hA.ext hx) (by omega) (by omega) hW)
  clear hE hA hW ht hneg HSV
  generalize splitP (valI t) (ls.map valI)=sp at *
  go_enter Tryz.func236,Tryz.ntmps236
  go_wp2_with fail
  refine (N1.out _ HE.out).mono ?_
  rintro e w1 ⟨rfl,hx1⟩
  replace HX:=Lib.hid (HX.out.trans hx1)
  clear hx1
  go_wp2_with fail
  refine (HPO.out _ HX.out).mono ?_
  rintro e w3 ⟨P,rfl,hP,hrow,hx1⟩
  have hPw:w.heap.size≤P:=Nat.le_trans HX.out.size hP
  replace HX:=Lib.hid (HX.out.trans hx1)
  have HR:=Lib.hid hrow
  clear hx1 hP hrow HPO N1
  go_wp2_with fail
  go_ret
  exact ⟨P,rfl,hPw,HR.out,HX.out⟩
theorem allSplit (t:Bs) (ls:List Bs) (A:Option Addr) (c:Nat) (w:World) (hE:Env w) (hA:RdS w A ls) (ht:t.length≤3000) (htc:checkI t=0) (hW:WtOK ls) :
  Calls Tryz.prog 175 #[.string (bs t),.slice A ls.length c] w fun e w'=>∃ P,e = .returned (.tuple #[.slice (some ⟨P,0,none⟩) ls.length ls.length,.int .i64 0])∧w.heap.size≤P∧RowS w' P ls.length ((splitV (valI t) (ls.map valI)).map ofI)∧Ext w w':=by
 have HX:Hid (Ext w w):=Lib.hid (Ext.refl w)
 have HC:=Lib.hid (allCheck t ls A c w hE hA (by omega) htc hW)
 have HD:=Lib.hid (fun W hx=>allDivide t ls A c W (hE.ext hx) (hA.ext hx) ht hW)
 clear hE hA ht htc hW
 generalize splitV (valI t) (ls.map valI)=sp at *
 go_enter Tryz.func175,Tryz.ntmps175
 go_wp2_with fail
 refine HC.out.mono ?_
 rintro e w1 ⟨rfl,hx1⟩
 replace HX:=Lib.hid (HX.out.trans hx1)
 clear hx1
 go_wp2_with fail
 refine (HD.out _ HX.out).mono ?_
 rintro e w3 ⟨P,rfl,hP,hrow,hx1⟩
 have hPw:w.heap.size≤P:=Nat.le_trans HX.out.size hP
 replace HX:=Lib.hid (HX.out.trans hx1)
 have HR:=Lib.hid hrow
 clear hx1 hP hrow HD HC
 go_wp2_with fail
 go_ret2
 exact ⟨P,rfl,hPw,HR.out,HX.out⟩
end
section
open Go.RowKit Go.Shelf
attribute [local go_sem] size_bs toList_bs
def CaAt (w:World) (ls:List LotV) (k:Nat) (wr:World):Prop:=Ext w wr∧IdsAt wr w.heap.size ((ls.take k).map (·.id))∧goAll [] ls=goAll ((ls.take k).map (·.id)) (ls.drop k)
theorem goAll_step {seen:List Bs} {x:LotV} {r:List LotV}:(checkL x≠0→goAll seen (x :: r)=checkL x)∧(checkL x=0→x.id ∈ seen→goAll seen (x :: r)=5)∧(checkL x=0→x.id ∉ seen→goAll seen (x :: r)=goAll (seen++[x.id]) r):=by
 refine ⟨fun h=>?_,fun h h2=>?_,fun h h2=>?_⟩
 ·rw [goAll,if_pos h]
 ·rw [goAll,if_neg (by simpa using h),if_pos h2]
 ·rw [goAll,if_neg (by simpa using h),if_neg h2]
theorem take_ids {ls:List LotV} {k:Nat} (h:k<ls.length):(ls.take (k+1)).map (·.id)=(ls.take k).map (·.id)++[(ls[k]'h).id]:=by
 rw [List.take_succ_eq_append_getElem h,List.map_append];rfl
theorem lotCheckAll (ls:List LotV) (A:Option Addr) (c:Nat) (w:World) (hE:Env w) (hA:RdL w A ls) (hs:∀ x ∈ ls,SmallL x) (hn:ls.length≤100000) :
  Calls Tryz.prog 31 #[.slice A ls.length c] w fun e w'=>e = .returned (.int .i64 (checkAllL ls))∧Ext w w':=by
 have HE:=Lib.hid hE
 have HA:=Lib.hid hA
 have HS:=Lib.hid hs
 clear hE hA hs
 by_cases hbig:1000<ls.length
 ·have HR:Hid (checkAllL ls=4):=Lib.hid (by unfold checkAllL;rw [if_pos hbig])
  rw [HR.out]
  have g:decide (1000<(ls.length:Int))=true:=by rw [decide_eq_true_iff];omega
  go_enter Tryz.func31,Tryz.ntmps31
  go_wp2_with fail
  go_ret
  exact ⟨rfl,Ext.refl _⟩
 ·have HR:Hid (checkAllL ls=goAll [] ls):=Lib.hid (by unfold checkAllL;rw [if_neg hbig])
  rw [HR.out]
  have g:decide (1000<(ls.length:Int))=false:=by rw [decide_eq_false_iff_not];omega
  have hmm:=@run_makeMap Tryz.prog
  obtain ⟨R,hR⟩:∃ R,goAll [] ls=R:=⟨_,rfl⟩
  have HRR:=Lib.hid hR
  rw [hR]
  clear hR HR
  go_enter Tryz.func31,Tryz.ntmps31
  go_wp2_with fail
  go_loopw [13,5,6] (fun i _ _ wr=>∃ k:Nat,k≤ls.length∧i = .int .i64 k∧CaAt w ls k wr) (fun i _ _ _=>ls.length-(intOf i).toNat)
  case atStart=>exact ⟨0,by omega,rfl,Ext.new _ _,heap_alloc_new w _,by simp⟩
  case round =>
   obtain ⟨k,hk,rfl,hx,hids,hgo⟩:=hrel
   clear hmm
   by_cases hlt:k<ls.length
   ·have HX:=Lib.hid hx
    have HI:=Lib.hid hids
    have hst:=goAll_step (seen:=(ls.take k).map (·.id)) (x:=ls[k]'hlt) (r:=ls.drop (k+1))
    rw [← List.drop_eq_getElem_cons hlt,← hgo,HRR.out] at hst
    have HST:=Lib.hid hst
    have HTI:=Lib.hid (take_ids hlt)
    have HSM:=Lib.hid (HS.out (ls[k]'hlt) (List.getElem_mem _))
    obtain ⟨b,o,rfl,hb,c0,c1,c2,c3,c4,c5,c6⟩:=(HA.out.ext hx).at_ hlt
    have hwr:=hx.size
    have hne:w.heap.size<wr.heap.size:=(Array.getElem?_eq_some_iff.1 hids).1
    generalize hids2:(ls.take k).map (·.id)=ids at *
    generalize hxx:ls[k]'hlt=x at *
    clear hx hids hgo hst hids2 hxx
    have HCK:=Lib.hid (lotCheck x HSM.out)
    have HB:=Lib.hid (Blk.new wr 71 (lc x))
    have HXN:Hid (Ext wr (wr.alloc (.cells (lc x) 71))):=Lib.hid (Ext.new _ _)
    go_wp2_with fail
    refine (HCK.out _ (HE.out.ext (HX.out.trans HXN.out))).mono ?_
    rintro e w1 ⟨rfl,hx1⟩
    obtain ⟨p0,p1,p2,p3,p4,p5,p6⟩:=lotBlk HB.out hx1
    replace HX:=Lib.hid ((HX.out.trans HXN.out).trans hx1)
    have hi1:=ext_heap HI.out (HXN.out.trans hx1)
    have HI1:=Lib.hid hi1
    clear hx1 HI HXN
    by_cases hck:checkL x=0
    ·rw [hck]
     have HK0:=Lib.hid hck
     clear hck
     by_cases hin:x.id ∈ ids
     ·obtain ⟨j,hj⟩:=find_in x.id ids 0 0 hin
      have hlook:=run_look (P:=Tryz.prog) (w:=w1) 135 9 4 w.heap.size _ (entsL ids 0).toArray (bs x.id) j (.bool true) Tryz.underlying135 Tryz.underlying9 HI1.out (by simpa using hj)
      have HF:=Lib.hid (HST.out.2.1 HK0.out hin)
      clear hin hj hi1
      go_wp2_with fail
      go_ret
      exact ⟨by rw [HF.out];rfl,HX.out⟩
     ·have hj:=find_out x.id ids 0 0 hin
      have hlook:=run_look_no (P:=Tryz.prog) (w:=w1) 135 9 4 w.heap.size _ (entsL ids 0).toArray (bs x.id) (.bool false) Tryz.underlying135 Tryz.underlying9 HI1.out (by simpa using hj) (Tryz.zeroValue4 w1)
      have hins:=run_ins (P:=Tryz.prog) (w:=w1) 135 9 4 w.heap.size _ (entsL ids 0).toArray (bs x.id) (.bool true) Tryz.underlying135 Tryz.underlying9 HI1.out (by simpa using hj)
      have HF:=Lib.hid (HST.out.2.2 HK0.out hin)
      clear hin hj hi1
      go_wp2_with fail
      go_roundw
      case rel =>
       refine ⟨k+1,by omega,by go_num,HX.out.putObj (Nat.le_refl _) _,?_,?_⟩
       ·unfold IdsAt
        rw [World.putObj_heap_same (Array.getElem?_eq_some_iff.1 HI1.out).1]
        rw [HTI.out,entsL_snoc];simp
       ·rw [HTI.out,HRR.out];exact HF.out
      case measure=>simp [intOf];omega
    ·have g2:(checkL x != 0)=true:=by rw [bne_iff_ne];exact hck
     have HF:=Lib.hid (HST.out.1 hck)
     clear hck hi1
     go_wp2_with fail
     go_ret
     exact ⟨by rw [HF.out];rfl,HX.out⟩
   ·have HF:Hid (R=0):=Lib.hid (by rw [← HRR.out,hgo,List.drop_eq_nil_of_le (by omega)];rfl)
    have HX:=Lib.hid hx
    clear hgo hids hx
    go_wp2_with fail
    go_ret
    exact ⟨by rw [HF.out];rfl,HX.out⟩
end
section
open Go.RowKit Go.Shelf
attribute [local go_sem] size_bs toList_bs
structure LotsAt (w:World) (A:Option Addr) (ls:List LotV):Prop where
 rd:RdL w A ls
 sm:∀ x ∈ ls,SmallL x
 le:ls.length≤100000
end
section
open Go.RowKit
attribute [local go_sem] size_bs toList_bs
theorem lotInfo:(Tryz.prog.info? 71).map (fun i=>(i.zero,i.size,i.bytes))=some (some (.agg #[.string ⟨#[]⟩,.string ⟨#[]⟩,.int .i64 0,.int .i64 0,.string ⟨#[]⟩,.string ⟨#[]⟩,.string ⟨#[]⟩]),7,96):=by kernel_rfl
abbrev lots (ls:List LotV):List Value:=ls.flatMap lotCells
theorem lots_len (ls:List LotV):(lots ls).length=ls.length*7:=by
 induction ls with
 |nil=>rfl
 |cons x r ih=>simp only [lots,List.flatMap_cons,List.length_append,List.length_cons] at *;rw [ih,lotCells_len];omega
theorem oneL (ls:List LotV):∀ u ∈ lots ls,u.oneCell'=true:=by
 intro u hu
 obtain ⟨h,_,hh⟩:=List.mem_flatMap.1 hu
 unfold lotCells at hh
 simp only [List.mem_cons,List.not_mem_nil,or_false] at hh
 rcases hh with rfl | rfl | rfl | rfl | rfl | rfl | rfl <;> rfl
def RowL (w:World) (g cap:Nat) (ls:List LotV):Prop:=∃ cur,Row w g 71 7 ls.length cap (lots ls) cur
section
variable {w w':World} {g cap:Nat} {ls:List LotV}
theorem RowL.lt (h:RowL w g cap ls):g<w.heap.size:=by obtain ⟨cur,h⟩:=h;exact h.blk.lt
theorem RowL.ext (h:RowL w g cap ls) (hx:Ext w w'):RowL w' g cap ls:=by obtain ⟨cur,h⟩:=h;exact ⟨cur,h.ext hx⟩
end
def CloneL (ls:List LotV) (w:World) (e:Ending) (w':World):Prop :=
 ∃ A c,e = .returned (.slice A ls.length c)∧Ext w w'∧(0<ls.length→∃ g,A=some ⟨g,0,none⟩∧w.heap.size≤g∧RowL w' g c ls)
theorem cloneL (ls:List LotV) (A:Option Addr) (c:Nat) (w:World) (hA:RdL w A ls) (hn:ls.length≤1000000) :
  Calls Tryz.prog 52 #[.slice A ls.length c] w (CloneL ls w):=by
 obtain ⟨i0,hI,hz0,hz1,hz2⟩:=info_parts lotInfo
 have HI:=Lib.hid hI
 clear hI
 cases A with
 |none =>
  have h0:ls=[]:=by
   rcases Nat.eq_zero_or_pos ls.length with h | h
   ·exact List.length_eq_zero_iff.1 h
   ·obtain ⟨b,o,e,_⟩:=hA.2 h;cases e
  subst h0
  clear hA
  have hnil:∀ W:World,(binOp .eql 22 (.slice none 0 c) (.slice none 0 0)).run Tryz.prog W = .ok (.bool true) W:=fun W=>Lib.run_eql_slice_nil W _ _ _ _ _ _ _ Tryz.underlying22
  go_enter Tryz.func52,Tryz.ntmps52
  go_wp2_with fail
  go_ret
  exact ⟨none,0,rfl,Ext.refl _,fun h=>absurd h (by simp)⟩
 |some a =>
  have hnil:∀ W:World,(binOp .eql 22 (.slice (some a) ls.length c) (.slice none 0 0)).run Tryz.prog W = .ok (.bool false) W:=fun W=>Lib.run_eql_slice_nil W _ _ _ _ _ _ _ Tryz.underlying22
  rcases Nat.eq_zero_or_pos ls.length with h0 | h0
  ·have h1:ls=[]:=List.length_eq_zero_iff.1 h0
   subst h1
   simp only [List.length_nil] at hnil
   clear hA h0
   go_enter Tryz.func52,Tryz.ntmps52
   have hr:∀ ty,(Builtin.append_ #[22,22] ty #[.slice (some ⟨w.heap.size,0,none⟩) 0 0,.slice (some a) 0 c]).run Tryz.prog (w.alloc (.cells #[] 71)) = .ok (.slice (some ⟨w.heap.size,0,none⟩) 0 0) (w.alloc (.cells #[] 71)):=fun ty =>
    run_append_room_cells _ _ ty 71 i0 Tryz.underlying22 HI.out w.heap.size 0 0 0 a 0 c [] (by simp) (by simp) (by simp) (Nat.le_refl _) (by simp) (by simp)
   go_wp2_with (at_builtin;refine Lib.wpList_append_run _ rfl (.tmp 5) (.tmp 6) _ _ rfl _ _ rfl rfl _ _ (hr _) ?_)
   go_ret
   exact ⟨some ⟨w.heap.size,0,none⟩,0,rfl,Ext.new _ _,fun h=>absurd h (by simp)⟩
  ·obtain ⟨b,o,e,hb,hc⟩:=hA.2 h0
   injection e with e
   subst e
   have HC:Hid (∀ j u,(lots ls)[j]? = some u→(w.alloc (.cells #[] 71)).cell? ((⟨b,o,none⟩:Addr).add j)=some u):=Lib.hid (fun j u hu=>by
    rw [Addr.add_lit];exact ((Ext.new w _).cell (p:=⟨b,o+j,none⟩) hb).trans (hc j u hu))
   have HL:Hid ((lots ls).length=ls.length*7):=Lib.hid (lots_len ls)
   clear hc hA
   go_enter Tryz.func52,Tryz.ntmps52
   go_wp2_with (at_builtin;refine wpList_append_lies _ rfl (.tmp 5) (.tmp 6) 22 rfl w.heap.size 71 i0 _ 7 96 Tryz.underlying22 HI.out hz0 hz1 hz2 rfl (by decide) _ 0 [] rfl ⟨rfl,.inr ⟨w.heap.size,0,#[],rfl,Nat.le_refl _,heap_alloc_new w _,Nat.le_refl _,by decide,rfl,rfl⟩⟩ ⟨b,o,none⟩ ls.length c (lots ls) rfl HL.out HC.out (oneL ls) h0 (by simp only [maxLen];omega) (by omega) (by simp) _ rfl ?_;intro g cap w' hown hgrow hat hlt)
   go_ret
   simp only [Nat.zero_add,List.nil_append] at hown
   obtain ⟨hg,cur,hrow⟩:=Row.of_own hown
   exact ⟨some ⟨g,0,none⟩,cap,rfl,Ext.only (Ext.new w (.cells #[] 71)) hgrow (Nat.le_refl _),fun _=>⟨g,rfl,hg,cur,hrow⟩⟩
end
section
open Go.RowKit
attribute [local go_sem] size_bs toList_bs
theorem blk_ne {w:World} {g g':Nat} {t t':TypeId} {cs cs':Array Value} (h:Blk w g t cs) (h':Blk w g' t' cs') (hne:t≠t'):g≠g':=by
 rintro rfl
 unfold Blk at h h'
 rw [h] at h'
 injection h' with h'
 injection h' with _ h2 _
 exact hne h2
end
section
open Go.RowKit
attribute [local go_sem] size_bs toList_bs
theorem extL {a b:LotV} (h0:a.id=b.id) (h1:a.ins=b.ins) (h2:a.acq=b.acq) (h3:a.opn=b.opn) (h4:a.q=b.q) (h5:a.c=b.c) (h6:a.u=b.u):a=b:=by cases a;cases b;simp_all
instance:DecidableEq LotV:=fun a b=>by
 by_cases h:(a.id=b.id∧a.ins=b.ins∧a.acq=b.acq∧a.opn=b.opn∧a.q=b.q∧a.c=b.c∧a.u=b.u)
 ·exact isTrue (by obtain ⟨h0,h1,h2,h3,h4,h5,h6⟩:=h;exact extL h0 h1 h2 h3 h4 h5 h6)
 ·exact isFalse (by rintro rfl;exact h ⟨rfl,rfl,rfl,rfl,rfl,rfl,rfl⟩)
end
section
open Go.RowKit
attribute [local go_sem] size_bs toList_bs
def OwnT (w:World) (base:Nat) (v:Value) (ls:List Bs):Prop:=w.ownsRow base 24 1 v ls.length (scells ls)
theorem OwnT.ext {w w':World} {base:Nat} {v:Value} {ls:List Bs} (h:OwnT w base v ls) (hx:Ext w w'):OwnT w' base v ls:=own_ext2 h hx
theorem OwnT.rd {w:World} {base:Nat} {A:Option Addr} {n c:Nat} {ls:List Bs} (h:OwnT w base (.slice A n c) ls):n=ls.length→RdS w A ls:=by
 rintro rfl
 exact Reads.own h
theorem scellsApp (a b:List Bs):scells a++scells b=scells (a++b):=by simp [scells]
def DivT (wt:LotV→Bs) (t:Bs) (ls:List LotV):List Bs:=(splitV (valI t) ((ls.map wt).map valI)).map ofI
def DivT.Ends (wt:LotV→Bs) (t:Bs) (ls:List LotV) (w:World) (e:Ending) (w':World):Prop:=∃ P,e = .returned (.slice (some ⟨P,0,none⟩) ls.length ls.length)∧RowS w' P ls.length (DivT wt t ls)∧(DivT wt t ls).length=ls.length∧w.heap.size≤P∧Ext w w'
theorem mgDivide (kf:Nat) (wt:LotV→Bs) (ek:∀ args w,(callFunc kf args).run Tryz.prog w = .ok (.enter kf args) w) (t:Bs) (ls:List LotV) (A:Option Addr) (c:Nat) (w:World) (hE:Env w) (hA:RdL w A ls)
  (hF:∀ x ∈ ls,∀ W,Ext w W→Calls Tryz.prog kf #[lv x] W fun e w'=>e = .returned (.string (bs (wt x)))∧Ext W w')
  (h0:t≠[]) (ht:t.length≤3000) (htc:checkI t=0) (hW:WtOK (ls.map wt)) (hn:ls.length≤100000) :
  Calls Tryz.prog 109 #[.string (bs t),.slice A ls.length c,.func (.func kf) #[] #[]] w (DivT.Ends wt t ls w):=by
 have HA:=Lib.hid hA
 have HF:=Lib.hid hF
 have HE:=Lib.hid hE
 have HS:=Lib.hid (fun B c' W hx hB=>allSplit t (ls.map wt) B c' W (hE.ext hx) hB ht htc hW)
 simp only [List.length_map] at HS
 have qe:t.isEmpty=false:=by cases t;exact absurd rfl h0;rfl
 obtain ⟨i0,hI,hz0,hz1,hz2⟩:=info_parts strInfo
 have HI:=Lib.hid hI
 have hll:(ls.map wt).length=ls.length:=List.length_map _
 have HLL:=Lib.hid hll
 clear hE hA hF hI hll hW htc
 go_enter Tryz.func109,Tryz.ntmps109
 go_wp2_with fail
 go_loopw [14,7,9] (fun i v _ wr=>∃ k:Nat,k≤ls.length∧i = .int .i64 k∧OwnT wr w.heap.size v ((ls.take k).map wt)∧Ext w wr) (fun i _ _ _=>ls.length-(intOf i).toNat)
 case atStart=>exact ⟨0,by omega,rfl,World.ownsRow_nil _ _ _ _,Ext.refl _⟩
 case round =>
  obtain ⟨k,hk,rfl,hown,hx⟩:=hrel
  have HO:=Lib.hid hown
  have HX:=Lib.hid hx
  clear hx
  by_cases hlt:k<ls.length
  ·obtain ⟨b,o,rfl,hb,c0,c1,c2,c3,c4,c5,c6⟩:=(HA.out.ext HX.out).at_ hlt
   have HC:=Lib.hid (HF.out (ls[k]'hlt) (List.getElem_mem _))
   have hki:(k:Int)<(ls.length:Int):=by omega
   have hk0:(0:Int)≤(k:Int):=by omega
   have hqq:(ls.take (k+1)).map wt=(ls.take k).map wt++[wt (ls[k]'hlt)]:=by rw [List.take_succ_eq_append_getElem hlt,List.map_append];rfl
   have HQQ:=Lib.hid hqq
   have hql:((ls.take k).map wt).length≤100000:=by rw [List.length_map,List.length_take];omega
   unfold OwnT at hown
   obtain ⟨A',c',rfl⟩:=own_slice hown
   clear hqq hown
   generalize hq1:(ls.take (k+1)).map wt=q1 at *
   generalize hq0:(ls.take k).map wt=q0 at *
   generalize (ls[k]'hlt)=x at *
   have HE2:=Lib.hid hq1
   clear hq1 hq0 HF
   have HXN:Hid (Ext wr (wr.alloc (.cells (lc x) 71))):=Lib.hid (Ext.new _ _)
   go_wp2_with fail
   refine (HC.out _ (HX.out.trans HXN.out)).mono ?_
   rintro e w1 ⟨rfl,hx1⟩
   have HX1:=Lib.hid ((HX.out.trans HXN.out).trans hx1)
   have HO1:=Lib.hid ((HO.out.ext (HXN.out.trans hx1)).ext (Ext.new w1 (.cells #[.string (bs (wt x))] 24)))
   have HX2:=Lib.hid (HX1.out.alloc (.cells #[.string (bs (wt x))] 24))
   have hsz:=HX2.out.size
   clear hx1 HC HXN HX HO HX1
   unfold OwnT at HO1
   go_wp2_with (at_builtin;refine wpList_append_lies _ rfl (.tmp 18) (.tmp 22) 106 rfl w.heap.size 24 i0 _ 1 16 Tryz.underlying106 HI.out hz0 hz1 hz2 rfl (by decide) (.slice A' q0.length c') q0.length (scells q0) rfl HO1.out ⟨w1.heap.size,0,none⟩ 1 1 [.string (bs (wt x))] (by simp [Act.eval]) rfl (World.news_of_block (heap_alloc_new w1 _)) (by simp [Value.oneCell']) (by decide) (by simp only [maxLen];omega) (by omega) hsz _ rfl ?_;intro g' cap w' hown' hgrow hat hlt';(have HX3:=Lib.hid (Ext.grown HX2.out hgrow (own_base HO1.out))))
   have HO3:Hid (OwnT w' w.heap.size (.slice (some ⟨g',0,none⟩) q1.length cap) q1):=Lib.hid (by
    rw [HQQ.out]
    unfold OwnT
    rw [List.length_append,← scellsApp]
    exact hown')
   rw [show q0.length+1=q1.length by rw [HQQ.out,List.length_append];rfl]
   go_roundw
   case rel=>exact ⟨k+1,by omega,by go_num,by rw [HE2.out];exact HO3.out,HX3.out⟩
   case measure=>simp [intOf];omega
  ·have hkk:k=ls.length:=by omega
   subst hkk
   rw [List.take_length] at *
   unfold OwnT at hown
   obtain ⟨A',c',rfl⟩:=own_slice hown
   have HR:=Lib.hid (OwnT.rd hown rfl)
   clear hown HO
   go_wp2_with fail
   refine (HS.out A' c' _ HX.out HR.out).mono ?_
   have HX0:=Lib.hid HX.out.size
   rintro e w1 ⟨P,rfl,hP,hrow,hx1⟩
   have HP:=Lib.hid hP
   clear hP
   replace HX:=Lib.hid (HX.out.trans hx1)
   have HRow:=Lib.hid hrow
   clear hx1 hrow HS
   go_wp2_with fail
   go_ret
   have hln:(DivT wt t ls).length=ls.length:=by unfold DivT;rw [List.length_map,splitV_len,List.length_map,List.length_map]
   exact ⟨P,rfl,HRow.out,hln,Nat.le_trans HX0.out HP.out,HX.out⟩
end
section
open Go.RowKit
section
variable {F:Fence} {n:Nat} {P:Program} {ops:Array Oper} {Q:Exit→Act→World→Prop} {md:Region.Mode}
theorem wpAnyIn_inv {Inv:Nat→Array Bool→Act→World→Prop} (hend:∀ f listed a w,Inv f listed a w→Region.ready md ops listed=[]→Q .normal a w)
  (hz:∀ listed a w,Inv 0 listed a w→Region.ready md ops listed=[])
  (hstep:∀ f listed a w i,Inv (f+1) listed a w→i ∈ Region.ready md ops listed→wpOpIn F n P ops Q i (Inv f (listed.setIfInBounds i true)) a w) :
  ∀ f listed a w,Inv f listed a w→wpAnyIn F n P md ops Q f listed a w
 |0,listed,a,w,h=>⟨hz listed a w h,hend 0 listed a w h (hz listed a w h)⟩
 |f+1,listed,a,w,h=>⟨hend (f+1) listed a w h,fun i hi=>wpOpIn_mono (fun a' w' h'=>wpAnyIn_inv hend hz hstep f _ a' w' h') (hstep f listed a w i h hi)⟩
def actOf (base:Array Value) (who:Nat→Option Nat) (val:Nat→Value) (listed:Array Bool):Act :=
 { tmps:=Array.ofFn (n:=base.size) fun s=>match who s with | some i=>if listed.getD i false=true then val s else base.getD s undef | none=>base.getD s undef,defers:=[] }
variable {base:Array Value} {who:Nat→Option Nat} {val:Nat→Value} {listed:Array Bool}
theorem actOf_get {s:Nat} (hs:s<base.size):(actOf base who val listed).tmps.getD s undef=match who s with | some i=>if listed.getD i false=true then val s else base.getD s undef | none=>base.getD s undef:=by
 unfold actOf
 rw [Array.getD_eq_getD_getElem?,Array.getElem?_ofFn,dif_pos hs]
 rfl
theorem actOf_base {s:Nat} (hs:s<base.size) (hw:who s=none):(actOf base who val listed).tmps.getD s undef=base.getD s undef:=by
 rw [actOf_get hs,hw]
theorem actOf_val {s i:Nat} (hs:s<base.size) (hw:who s=some i) (hl:listed.getD i false=true):(actOf base who val listed).tmps.getD s undef=val s:=by
 rw [actOf_get hs,hw]
 dsimp only
 rw [if_pos hl]
theorem getD_set {i j:Nat} (hi:i<listed.size):(listed.setIfInBounds i true).getD j false=if j=i then true else listed.getD j false:=by
 rw [Array.getD_eq_getD_getElem?,Array.getD_eq_getD_getElem?,Array.getElem?_setIfInBounds]
 by_cases e:i=j
 ·subst e
  rw [if_pos rfl,if_pos hi,if_pos rfl]
  rfl
 ·rw [if_neg e,if_neg (fun h=>e h.symm)]
theorem actOf_put {d i:Nat} (hw:who d=some i) (hinj:∀ s,who s=some i→s=d) (hi:i<listed.size) :
  (actOf base who val listed).put (some d) (val d)=actOf base who val (listed.setIfInBounds i true):=by
 have key:(actOf base who val listed).tmps.setIfInBounds d (val d)=(actOf base who val (listed.setIfInBounds i true)).tmps:=by
  unfold actOf
  dsimp only
  apply Array.ext
  ·simp
  ·intro s h1 h2
   have hs:s<base.size:=by simpa using h2
   rw [Array.getElem_setIfInBounds (by simpa using hs)]
   rw [Array.getElem_ofFn,Array.getElem_ofFn]
   by_cases e:d=s
   ·subst e
    rw [if_pos rfl]
    dsimp only
    rw [hw]
    dsimp only
    rw [getD_set hi,if_pos rfl,if_pos rfl]
   ·rw [if_neg e]
    dsimp only
    cases hq:who s with
    |none=>rfl
    |some j =>
     dsimp only
     have hne:j≠i:=fun h=>e (by rw [h] at hq;exact (hinj s hq).symm)
     rw [getD_set hi,if_neg hne]
 show ({ tmps:=(actOf base who val listed).tmps.setIfInBounds d (val d),defers:=[] }:Act)=_
 rw [key]
 rfl
theorem all_true (hs:listed.size=ops.size) (h:∀ i,i<ops.size→listed.getD i false=true):listed=Array.replicate ops.size true:=by
 apply Array.ext
 ·rw [hs,Array.size_replicate]
 ·intro i h1 h2
  have:=h i (by omega)
  rw [Array.getD_eq_getD_getElem?,Array.getElem?_eq_getElem h1] at this
  rw [Array.getElem_replicate]
  exact this
theorem stepIn_read (hfn:∀ k,F.fn k) (hro:F.round=none) {i:Nat} {o:Oper} {K:Act→World→Prop} {a:Act} {w w':World} (ho:ops[i]? = some o) (hg:o.guard=none) (v:Value) (hrun:(execOp a.eval o).run P w = .ok (.value v) w') (hK:K (a.put o.dst v) w'):wpOpIn F n P ops Q i K a w:=by
 unfold wpOpIn
 rw [ho]
 dsimp only
 rw [if_pos (by simp [Region.wanted,hg])]
 refine ⟨fun f _=>hfn f,?_⟩
 rw [hro]
 show Oper.uponIn F n P o a K Q ((execOp a.eval o).run P w)
 rw [hrun]
 exact hK
end
end
section
open Go.RowKit
attribute [local go_sem] size_bs toList_bs
theorem fkTrim (l:Bs) (w:World) :
  Calls Tryz.prog 277 #[.string (bs l),.string ⟨#[45]⟩] w fun e w'=>e = .returned (.string (bs (strip l)))∧w=w':=by
 refine (Tryz.strings_TrimPrefix (bs l) ⟨#[45]⟩ w).mono ?_
 rintro e w' ⟨rfl,rfl⟩
 refine ⟨?_,rfl⟩
 rw [data_bs]
 have h2:Lib.trimPrefix l [45]=strip l:=by
  unfold Lib.trimPrefix Lib.hasPrefix strip isMin
  cases l with
  |nil=>rfl
  |cons c r =>
   have hb:(45 == c)=(c == 45):=BEq.comm
   show (if (45 == c && true)=true then (c :: r).drop 1 else c :: r)=if (c == 45)=true then r else c :: r
   rw [Bool.and_true,hb]
   rfl
 exact congrArg (fun l=>Ending.returned (Value.string (bs l))) h2
theorem fkDigits (l:Bs) (_hl:l.length≤1000000) (w:World):Calls Tryz.prog 217 #[.string (bs l)] w fun e w'=>e = .returned (.int .i64 (digN l:Nat))∧Ext w w':=by
 have HT:=Lib.hid (fkTrim l w)
 have hd:digN l=(strip l).length:=rfl
 rw [hd]
 generalize strip l=s at *
 clear _hl hd
 go_enter Tryz.func217,Tryz.ntmps217
 go_wp2_with fail
 refine HT.out.mono ?_
 rintro e v0 ⟨rfl,rfl⟩
 go_wp2_with fail
 go_ret
 exact ⟨rfl,Ext.refl _⟩
abbrev limV (g1 g2:Nat):Value := .func (.func 216) #[] #[.pointer (some ⟨g1,0,none⟩),.pointer (some ⟨g2,0,none⟩)]
def limE (f:Fr) (pos:Bool):Int :=
 if checkF f≠0 then 1 else if 40<digN f.num∨40<digN f.den then 4 else if cmpQ (frQ f) 0<0∨(pos=true∧cmpQ (frQ f) 0=0) then 2 else 0
structure LimF (f:Fr) (pos:Bool) (e:Int):Prop where
 c:checkF f≠0→e=1
 d:checkF f=0→40<digN f.num∨40<digN f.den→e=4
 s:checkF f=0→¬ 40<digN f.num→¬ 40<digN f.den→cmpQ (frQ f) 0<0∨(pos=true∧cmpQ (frQ f) 0=0)→e=2
 k:checkF f=0→¬ 40<digN f.num→¬ 40<digN f.den→¬ (cmpQ (frQ f) 0<0∨(pos=true∧cmpQ (frQ f) 0=0))→e=0
theorem limF (f:Fr) (pos:Bool):LimF f pos (limE f pos):=by
 refine ⟨fun a=>?_,fun a b=>?_,fun a b c d=>?_,fun a b c d=>?_⟩
 ·unfold limE;rw [if_pos a]
 ·unfold limE;rw [if_neg (by simpa using a),if_pos b]
 ·unfold limE;rw [if_neg (by simpa using a),if_neg (by omega),if_pos d]
 ·unfold limE;rw [if_neg (by simpa using a),if_neg (by omega),if_neg d]
theorem limOK (f:Fr) (h1:f.num.length≤9000) (h2:f.den.length≤9000) (pos:Bool) (g1 g2:Nat) (w:World) (hE:Env w) (b1:Blk w g1 4 #[.bool pos]) (b2:Blk w g2 4 #[.bool false]) :
  Calls Tryz.prog 216 #[fv f,.pointer (some ⟨g1,0,none⟩),.pointer (some ⟨g2,0,none⟩)] w fun e w'=>e = .returned (.int .i64 (limE f pos))∧Ext w w':=by
 have HE:=Lib.hid hE
 have CK:=Lib.hid (fracCheckP f (by omega) (by omega))
 have cm:=fracCmp f ⟨[],[]⟩ (by omega) (by omega) (by simp) (by simp)
 rw [frQ_nilN] at cm
 have CM:=Lib.hid cm
 have lf:=limF f pos
 have F1:=Lib.hid lf.c
 have F2:=Lib.hid lf.d
 have F3:=Lib.hid lf.s
 have F4:=Lib.hid lf.k
 have D1:=Lib.hid (fun W=>fkDigits f.num (by omega) W)
 have D2:=Lib.hid (fun W=>fkDigits f.den (by omega) W)
 clear cm lf h1 h2 hE
 generalize limE f pos=res at *
 obtain ⟨n,d⟩:=f
 dsimp only at F1 F2 F3 F4 D1 D2
 generalize checkF ⟨n,d⟩=ck at *
 generalize digN n=d1 at *
 generalize digN d=d2 at *
 generalize cmpQ (frQ ⟨n,d⟩) 0=sg at *
 have HV:=Lib.hid (Blk.new w 26 #[.string (bs n),.string (bs d)])
 have HX:Hid (Ext w (w.alloc (.cells #[.string (bs n),.string (bs d)] 26))):=Lib.hid (Ext.new _ _)
 have B1:=Lib.hid (b1.ext HX.out)
 have B2:=Lib.hid (b2.ext HX.out)
 clear b1 b2
 go_enter Tryz.func216,Tryz.ntmps216
 obtain ⟨u0,u1,_,_⟩:=frBlk HV.out (Ext.refl _)
 go_wp2_with fail
 refine (CM.out _ (HE.out.ext HX.out)).mono ?_
 rintro e v1 ⟨rfl,hx1⟩
 replace HV:=Lib.hid (HV.out.ext hx1)
 replace B1:=Lib.hid (B1.out.ext hx1)
 replace B2:=Lib.hid (B2.out.ext hx1)
 replace HX:=Lib.hid (HX.out.trans hx1)
 clear hx1
 clear u0 u1
 obtain ⟨u0,u1,_,_⟩:=frBlk HV.out (Ext.refl _)
 go_wp2_with fail
 refine (CK.out _ (HE.out.ext HX.out)).mono ?_
 rintro e v2 ⟨rfl,hx1⟩
 replace HV:=Lib.hid (HV.out.ext hx1)
 replace B1:=Lib.hid (B1.out.ext hx1)
 replace B2:=Lib.hid (B2.out.ext hx1)
 replace HX:=Lib.hid (HX.out.trans hx1)
 clear hx1
 clear u0 u1
 obtain ⟨u0,u1,_,_⟩:=frBlk HV.out (Ext.refl _)
 by_cases y1:ck=0
 rotate_left
 ·have g:(ck != 0)=true:=by rw [bne_iff_ne];exact y1
  have e0:=F1.out y1
  subst e0
  clear F1 F2 F3 F4
  go_wp2_with fail
  go_ret
  exact ⟨rfl,HX.out⟩
 subst y1
 go_wp2_with fail
 refine (D1.out _).mono ?_
 rintro e v4 ⟨rfl,hx1⟩
 replace HV:=Lib.hid (HV.out.ext hx1)
 replace B1:=Lib.hid (B1.out.ext hx1)
 replace B2:=Lib.hid (B2.out.ext hx1)
 replace HX:=Lib.hid (HX.out.trans hx1)
 clear hx1
 clear u0 u1
 obtain ⟨u0,u1,_,_⟩:=frBlk HV.out (Ext.refl _)
 by_cases y2:40<d1
 ·have g:decide ((40:Int)<(d1:Int))=true:=by rw [decide_eq_true_iff];omega
  have e0:=F2.out (by trivial) (.inl y2)
  subst e0
  clear F1 F2 F3 F4
  go_wp2_with fail
  go_ret
  exact ⟨rfl,HX.out⟩
 have g2:decide ((40:Int)<(d1:Int))=false:=by rw [decide_eq_false_iff_not];omega
 go_wp2_with fail
 refine (D2.out _).mono ?_
 rintro e v6 ⟨rfl,hx1⟩
 replace HV:=Lib.hid (HV.out.ext hx1)
 replace B1:=Lib.hid (B1.out.ext hx1)
 replace B2:=Lib.hid (B2.out.ext hx1)
 replace HX:=Lib.hid (HX.out.trans hx1)
 clear hx1
 clear u0 u1
 obtain ⟨u0,u1,_,_⟩:=frBlk HV.out (Ext.refl _)
 by_cases y3:40<d2
 ·have g:decide ((40:Int)<(d2:Int))=true:=by rw [decide_eq_true_iff];omega
  have e0:=F2.out (by trivial) (.inr y3)
  subst e0
  clear F1 F2 F3 F4
  go_wp2_with fail
  go_ret
  exact ⟨rfl,HX.out⟩
 have g3:decide ((40:Int)<(d2:Int))=false:=by rw [decide_eq_false_iff_not];omega
 have q1:=B1.out.cell 0
 have q2:=B2.out.cell 0
 simp only [List.getElem?_toArray,List.getElem?_cons_zero] at q1 q2
 by_cases y4:sg<0
 ·have g4:decide (sg<0)=true:=decide_eq_true y4
  have e0:=F3.out (by trivial) y2 y3 (.inl y4)
  subst e0
  clear F1 F2 F3 F4
  go_wp2_with fail
  go_quiet (fail)
  go_wp2_with fail
  go_ret
  exact ⟨rfl,HX.out.drewN _⟩
 have g4:decide (sg<0)=false:=decide_eq_false y4
 cases pos
 ·have e0:=F4.out (by trivial) y2 y3 (by simp;omega)
  subst e0
  clear F1 F2 F3 F4
  go_wp2_with fail
  go_quiet (fail)
  go_wp2_with fail
  go_ret
  exact ⟨rfl,HX.out.drewN _⟩
 by_cases y5:sg=0
 ·have g5:(sg == 0)=true:=by rw [beq_iff_eq];exact y5
  have e0:=F3.out (by trivial) y2 y3 (.inr ⟨rfl,y5⟩)
  subst e0
  clear F1 F2 F3 F4 y4 y5
  go_wp2_with fail
  go_quiet (fail)
  go_wp2_with fail
  go_ret
  exact ⟨rfl,HX.out.drewN _⟩
 ·have g5:(sg == 0)=false:=by rw [beq_eq_false_iff_ne];exact y5
  have e0:=F4.out (by trivial) y2 y3 (by simp;omega)
  subst e0
  clear F1 F2 F3 F4 y4 y5
  go_wp2_with fail
  go_quiet (fail)
  go_wp2_with fail
  go_ret
  exact ⟨rfl,HX.out.drewN _⟩
theorem fkBetween (p q:Bool) (w:World) :
  Calls Tryz.prog 150 #[.bool p,.bool q] w fun e w'=>e = .returned (limV w.heap.size (w.heap.size+1))∧Blk w' w.heap.size 4 #[.bool p]∧Blk w' (w.heap.size+1) 4 #[.bool q]∧Ext w w':=by
 have e1:(w.alloc (.cells #[.bool p] 4)).heap.size=w.heap.size+1:=Array.size_push ..
 go_enter Tryz.func150,Tryz.ntmps150
 go_wp2_with fail
 go_ret
 exact ⟨rfl,(Blk.new _ _ _).alloc _,Blk.newAt _ _ _ _ e1,(Ext.new _ _).alloc _⟩
end
section
open Go.RowKit
open Go.Maps (Keyed)
attribute [local go_sem] size_bs toList_bs
theorem wpList_insert_own {H:Type} {P:Program} (w:World) {ops:Array Oper} {rest:List Oper} {o:Oper} {a:Act} {Q:Exit→Act→World→Prop}
  (hg:o.guard=none) (m x v:Operand) (t:TypeId) (hop:o.op=Op.insert t m x v)
  (k e:TypeId) (K:Keyed P k) (ht:P.underlying t=some (.map k e)) (R:Value→Option (DataW H × List MemPlace)) (b n:Nat) (D:DataW H)
  (hm:a.eval m = .map (some b)) (hown:w.ownsMap P k R b n D) (hn:n<maxLen) (key val:Value) (kl:Lit) (hx:a.eval x=key) (hv:a.eval v=val) (hkey:keyOf P k key=some kl)
  (d:DataW H) (ps:List MemPlace) (hval:R val=some (d,ps))
  (hK:∀ w',w'.ownsMap P k R b (n+1) (D.put kl d)→w.grownBy w' (some b)→wpList P ops Q rest (a.put o.dst undef) w') :
  wpList P ops Q (o :: rest) a w:=by
 refine wpList_plain hg fun K' hK'=>?_
 obtain ⟨w',hrun,r1,r2⟩:=hown.update K ht hn hkey hval
 unfold Oper.wp
 simp [execOp,hop,hm,hx,hv,hrun,Result.andThen]
 exact hK' _ _ (hK w' r1 r2)
theorem keyInt:Keyed Tryz.prog 3:=Go.Maps.int_keyed Tryz.underlying3
def RK (v:Value):Option (DataW Value × List MemPlace):=some (.held v,[])
abbrev MapAt (W:World) (b n:Nat) (D:DataW Value):Prop:=W.ownsMap Tryz.prog 3 RK b n D
theorem MapAt.ext {W W':World} {b n:Nat} {D:DataW Value} (h:MapAt W b n D) (hx:Ext W W'):MapAt W' b n D :=
 h.kept (row:=none) ⟨hx.os,hx.tape,hx.output,hx.size,fun i hi _=>hx.block i hi⟩ (by simp)
theorem MapAt.only {W W':World} {b n g:Nat} {D:DataW Value} (h:MapAt W b n D) (ho:Only g W W') (hne:b≠g):MapAt W' b n D:=h.kept ho (by simpa using hne)
def kcl (word:Bs) (cl:Int) (bits:List Bool) (num:Value) (code:Bool):List Value := .string (bs word) :: .int .i64 cl :: (bits.map Value.bool++[num,.bool code])
abbrev kv (word:Bs) (cl:Int) (bits:List Bool) (num:Value) (code:Bool):Value := .agg (kcl word cl bits num code).toArray
theorem kcl_set (word:Bs) (cl:Int) (bits:List Bool) (num:Value) (code:Bool) (i:Nat) (u:Bool) (h:i<bits.length) :
  (kcl word cl bits num code).toArray.setIfInBounds (2+i) (.bool u)=(kcl word cl (bits.set i u) num code).toArray:=by
 unfold kcl
 rw [Nat.add_comm 2 i,List.setIfInBounds_toArray,List.set_cons_succ,List.set_cons_succ,List.set_append_left _ _ (by simpa using h),List.map_set]
theorem kcl_at (word:Bs) (cl:Int) (bits:List Bool) (num:Value) (code:Bool) (i:Nat) (h:i<bits.length) :
  (kcl word cl bits num code).toArray[2+i]? = some (.bool (bits[i]'h)):=by
 unfold kcl
 rw [Nat.add_comm 2 i,List.getElem?_toArray,List.getElem?_cons_succ,List.getElem?_cons_succ,List.getElem?_append_left (by simpa using h),List.getElem?_map,List.getElem?_eq_getElem h]
 rfl
theorem kcl_code (word:Bs) (cl:Int) (bits:List Bool) (num:Value) (code:Bool) (h:bits.length=13):(kcl word cl bits num code).toArray[16]? = some (.bool code):=by
 unfold kcl
 rw [List.getElem?_toArray,List.getElem?_cons_succ,List.getElem?_cons_succ,List.getElem?_append_right (by simp [h])]
 simp [h]
theorem len13 {l:List Bool} (h:l.length=13):∃ b0 b1 b2 b3 b4 b5 b6 b7 b8 b9 b10 b11 b12,l=[b0,b1,b2,b3,b4,b5,b6,b7,b8,b9,b10,b11,b12]:=by
 match l,h with
 |[b0,b1,b2,b3,b4,b5,b6,b7,b8,b9,b10,b11,b12],_=>exact ⟨b0,b1,b2,b3,b4,b5,b6,b7,b8,b9,b10,b11,b12,rfl⟩
def setAll (ms:List Nat) (b:List Bool):List Bool:=ms.foldl (fun b i=>b.set i true) b
theorem setAll_len (ms:List Nat):∀ b,(setAll ms b).length=b.length:=by
 induction ms with
 |nil=>intro b;rfl
 |cons i r ih=>intro b;show (setAll r (b.set i true)).length=_;rw [ih,List.length_set]
theorem setAll_succ {ms:List Nat} {k:Nat} (h:k<ms.length) (b:List Bool):setAll (ms.take (k+1)) b=(setAll (ms.take k) b).set (ms[k]'h) true:=by
 unfold setAll
 rw [List.take_add_one,List.getElem?_eq_getElem h,List.foldl_append]
 rfl
def no13:List Bool:=[false,false,false,false,false,false,false,false,false,false,false,false,false]
theorem kindBlk {w:World} {g:Nat} {word:Bs} {cl:Int} {num:Value} {code b0 b1 b2 b3 b4 b5 b6 b7 b8 b9 b10 b11 b12:Bool} (h:Blk w g 144 (kcl word cl [b0,b1,b2,b3,b4,b5,b6,b7,b8,b9,b10,b11,b12] num code).toArray) :
  w.cell? ⟨g,0,none⟩=some (.string (bs word))∧w.cell? ⟨g,1,none⟩=some (.int .i64 cl)∧w.cell? ⟨g,2,none⟩=some (.bool b0)∧w.cell? ⟨g,3,none⟩=some (.bool b1)∧w.cell? ⟨g,4,none⟩=some (.bool b2)∧w.cell? ⟨g,5,none⟩=some (.bool b3)∧w.cell? ⟨g,6,none⟩=some (.bool b4)∧w.cell? ⟨g,7,none⟩=some (.bool b5)∧w.cell? ⟨g,8,none⟩=some (.bool b6)∧w.cell? ⟨g,9,none⟩=some (.bool b7)∧w.cell? ⟨g,10,none⟩=some (.bool b8)∧w.cell? ⟨g,11,none⟩=some (.bool b9)∧w.cell? ⟨g,12,none⟩=some (.bool b10)∧w.cell? ⟨g,13,none⟩=some (.bool b11)∧w.cell? ⟨g,14,none⟩=some (.bool b12)∧w.cell? ⟨g,15,none⟩=some num∧w.cell? ⟨g,16,none⟩=some (.bool code):=by
 refine ⟨h.cell 0,h.cell 1,h.cell 2,h.cell 3,h.cell 4,h.cell 5,h.cell 6,h.cell 7,h.cell 8,h.cell 9,h.cell 10,h.cell 11,h.cell 12,h.cell 13,h.cell 14,h.cell 15,h.cell 16⟩
theorem kind_over {w:World} {g:Nat} {xs ys:List Value} (h:Blk w g 144 xs.toArray) (hl:xs.length=ys.length):Blk (w.setCells g 0 ys) g 144 ys.toArray:=by
 have:=Blk.sets ys 0 w xs h (by omega)
 unfold lsplice at this
 rw [List.take_zero,List.nil_append,List.drop_of_length_le (by omega),List.append_nil] at this
 exact this
theorem results_kind {fn:Func} {a:Tmp} (h:fn.results=#[.cell a 144]) (tmps:Array Value) (w:World) (g:Nat) {word:Bs} {cl:Int} {num:Value} {code:Bool} {bits:List Bool} (hl:bits.length=13) (ha:tmps.getD a undef = .pointer (some ⟨g,0,none⟩)) (hb:Blk w g 144 (kcl word cl bits num code).toArray) :
  (results fn tmps).run Tryz.prog w = .ok (kv word cl bits num code) w:=by
 obtain ⟨b0,b1,b2,b3,b4,b5,b6,b7,b8,b9,b10,b11,b12,rfl⟩:=len13 hl
 obtain ⟨q0,q1,q2,q3,q4,q5,q6,q7,q8,q9,q10,q11,q12,q13,q14,q15,q16⟩:=kindBlk hb
 unfold results
 rw [h]
 simp only [List.mapM_toArray,List.mapM_cons,List.mapM_nil,ha]
 go_simp
 rfl
end
end Go.Proofs.YthgpheopnhajaaaGreatDoor
