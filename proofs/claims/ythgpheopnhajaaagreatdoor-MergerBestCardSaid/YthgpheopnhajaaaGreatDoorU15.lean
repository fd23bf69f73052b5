/- The seat's texts, part U15. -/
import Derived.Test.YthgpheopnhajaaaGreatDoorU4
import Derived.Test.YthgpheopnhajaaaGreatDoorU9
import Derived.Test.YthgpheopnhajaaaGreatDoorU13
import Derived.Test.YthgpheopnhajaaaGreatDoorU14
import Derived.Deep.RegionHeld3
import Derived.BigQuiet
set_option maxRecDepth 100000
set_option maxHeartbeats 8000000
namespace Go.Proofs.YthgpheopnhajaaaGreatDoor
section
open Go.RowKit Go.Shelf
attribute [local go_sem] size_bs toList_bs
def idxZ {α:Type} (p:α→Bool) (l:List α):Int:=match l.findIdx? p with | some i=>(i:Int) | none => -1
theorem idx_miss {α:Type} {p:α→Bool} {l:List α} (h:∀ x ∈ l,p x=false):idxZ p l = -1:=by
 unfold idxZ;rw [List.findIdx?_eq_none_iff.2 h]
theorem idx_hit {α:Type} {p:α→Bool} {l:List α} {k:Nat} (hk:k<l.length) (h:∀ x ∈ l.take k,p x=false) (hp:p (l[k]'hk)=true):idxZ p l=k:=by
 have:l.findIdx? p=some k:=by
  rw [List.findIdx?_eq_some_iff_getElem]
  refine ⟨hk,hp,fun j hj=>?_⟩
  have:=h (l[j]'(by omega)) (List.mem_take_iff_getElem.2 ⟨j,by omega,rfl⟩)
  simp [this]
 unfold idxZ;rw [this]
theorem idx_next {α:Type} {p:α→Bool} {l:List α} {k:Nat} (hk:k<l.length) (h:∀ x ∈ l.take k,p x=false) (hp:p (l[k]'hk)=false):∀ x ∈ l.take (k+1),p x=false:=by
 intro x hx
 rw [List.take_succ_eq_append_getElem hk] at hx
 rcases List.mem_append.1 hx with hx | hx
 ·exact h x hx
 ·simp at hx;rw [hx];exact hp
theorem idx_any {α:Type} (p:α→Bool) (l:List α):decide (0≤idxZ p l)=l.any p:=by
 unfold idxZ
 cases h:l.findIdx? p with
 |none =>
  rw [List.findIdx?_eq_none_iff] at h
  rw [show l.any p=false by rw [List.any_eq_false];intro x hx;simp [h x hx]];rfl
 |some i =>
  rw [List.findIdx?_eq_some_iff_getElem] at h
  obtain ⟨hi,hp,_⟩:=h
  rw [show l.any p=true by rw [List.any_eq_true];exact ⟨_,List.getElem_mem hi,hp⟩]
  simp
theorem idxFuncI (kf:Nat) (cb:Array Value) (ek:∀ args w,(callFunc kf args).run Tryz.prog w = .ok (.enter kf args) w) (p:Bs→Bool) (ls:List Bs) (A:Option Addr) (c:Nat) (w:World) (hA:RdS w A ls) (hn:ls.length≤1000000)
  (hF:∀ x ∈ ls,∀ W,Ext w W→Calls Tryz.prog kf (#[.string (bs x)]++cb) W fun e w'=>e = .returned (.bool (p x))∧Ext W w') :
  Calls Tryz.prog 127 #[.slice A ls.length c,.func (.func kf) #[] cb] w fun e w'=>e = .returned (.int .i64 (idxZ p ls))∧Ext w w':=by
 have HA:=Lib.hid hA
 have HF:=Lib.hid hF
 clear hA hF
 go_enter Tryz.func127,Tryz.ntmps127
 go_wp2_with fail
 go_loopw [8,5] (fun i _ wr=>∃ k:Nat,k≤ls.length∧i = .int .i64 k∧(∀ x ∈ ls.take k,p x=false)∧Ext w wr) (fun i _ _=>ls.length-(intOf i).toNat)
 case atStart=>exact ⟨0,by omega,rfl,by simp,Ext.refl _⟩
 case round =>
  obtain ⟨k,hk,rfl,hz,hx⟩:=hrel
  have HZ:=Lib.hid hz
  have HX:=Lib.hid hx
  clear hz hx
  by_cases hlt:k<ls.length
  ·obtain ⟨b,o,rfl,hb,c0⟩:=(HA.out.ext HX.out).at_ hlt
   have HC:=Lib.hid (HF.out (ls[k]'hlt) (List.getElem_mem _))
   have HN:Hid (p (ls[k]'hlt)=false→∀ x ∈ ls.take (k+1),p x=false):=Lib.hid (fun h=>idx_next hlt HZ.out h)
   have HI:Hid (p (ls[k]'hlt)=true→idxZ p ls=k):=Lib.hid (fun h=>idx_hit hlt HZ.out h)
   generalize (ls[k]'hlt)=x at *
   go_wp2_with fail
   refine (HC.out _ HX.out).mono ?_
   rintro e w1 ⟨rfl,hx1⟩
   replace HX:=Lib.hid (HX.out.trans hx1)
   clear hx1
   cases hp:p x
   ·have HN1:=Lib.hid (HN.out hp)
    clear hp
    go_wp2_with fail
    go_roundw
    case rel=>exact ⟨k+1,by omega,by go_num,HN1.out,HX.out⟩
    case measure=>simp [intOf];omega
   ·have HI1:=Lib.hid (HI.out hp)
    clear hp
    go_wp2_with fail
    go_ret
    exact ⟨by rw [HI1.out];rfl,HX.out⟩
  ·have HI:Hid (idxZ p ls = -1):=Lib.hid (idx_miss (by have:=HZ.out;rwa [List.take_of_length_le (by omega)] at this))
   go_wp2_with fail
   go_ret
   exact ⟨by rw [HI.out];rfl,HX.out⟩
theorem contFuncI (kf:Nat) (cb:Array Value) (ek:∀ args w,(callFunc kf args).run Tryz.prog w = .ok (.enter kf args) w) (p:Bs→Bool) (ls:List Bs) (A:Option Addr) (c:Nat) (w:World) (hA:RdS w A ls) (hn:ls.length≤1000000)
  (hF:∀ x ∈ ls,∀ W,Ext w W→Calls Tryz.prog kf (#[.string (bs x)]++cb) W fun e w'=>e = .returned (.bool (p x))∧Ext W w') :
  Calls Tryz.prog 69 #[.slice A ls.length c,.func (.func kf) #[] cb] w fun e w'=>e = .returned (.bool (ls.any p))∧Ext w w':=by
 have HI:=Lib.hid (idxFuncI kf cb ek p ls A c w hA hn hF)
 have HZ:Hid (decide (0≤idxZ p ls)=ls.any p):=Lib.hid (idx_any p ls)
 generalize ls.any p=b at *
 generalize idxZ p ls=z at *
 clear hA hF
 go_enter Tryz.func69,Tryz.ntmps69
 go_wp2_with fail
 refine HI.out.mono ?_
 rintro e w1 ⟨rfl,hx1⟩
 have HX:=Lib.hid hx1
 clear hx1
 go_wp2_with fail
 go_ret
 exact ⟨by rw [← HZ.out];rfl,HX.out⟩
theorem idxFuncL (kf:Nat) (cb:Array Value) (ek:∀ args w,(callFunc kf args).run Tryz.prog w = .ok (.enter kf args) w) (p:LotV→Bool) (ls:List LotV) (A:Option Addr) (c:Nat) (w:World) (hA:RdL w A ls) (hn:ls.length≤1000000)
  (hF:∀ x ∈ ls,∀ W,Ext w W→Calls Tryz.prog kf (#[lv x]++cb) W fun e w'=>e = .returned (.bool (p x))∧Ext W w') :
  Calls Tryz.prog 85 #[.slice A ls.length c,.func (.func kf) #[] cb] w fun e w'=>e = .returned (.int .i64 (idxZ p ls))∧Ext w w':=by
 have HA:=Lib.hid hA
 have HF:=Lib.hid hF
 clear hA hF
 go_enter Tryz.func85,Tryz.ntmps85
 go_wp2_with fail
 go_loopw [8,5] (fun i _ wr=>∃ k:Nat,k≤ls.length∧i = .int .i64 k∧(∀ x ∈ ls.take k,p x=false)∧Ext w wr) (fun i _ _=>ls.length-(intOf i).toNat)
 case atStart=>exact ⟨0,by omega,rfl,by simp,Ext.refl _⟩
 case round =>
  obtain ⟨k,hk,rfl,hz,hx⟩:=hrel
  have HZ:=Lib.hid hz
  have HX:=Lib.hid hx
  clear hz hx
  by_cases hlt:k<ls.length
  ·obtain ⟨b,o,rfl,hb,c0,c1,c2,c3,c4,c5,c6⟩:=(HA.out.ext HX.out).at_ hlt
   have HC:=Lib.hid (HF.out (ls[k]'hlt) (List.getElem_mem _))
   have HN:Hid (p (ls[k]'hlt)=false→∀ x ∈ ls.take (k+1),p x=false):=Lib.hid (fun h=>idx_next hlt HZ.out h)
   have HI:Hid (p (ls[k]'hlt)=true→idxZ p ls=k):=Lib.hid (fun h=>idx_hit hlt HZ.out h)
   generalize (ls[k]'hlt)=x at *
   go_wp2_with fail
   refine (HC.out _ HX.out).mono ?_
   rintro e w1 ⟨rfl,hx1⟩
   replace HX:=Lib.hid (HX.out.trans hx1)
   clear hx1
   cases hp:p x
   ·have HN1:=Lib.hid (HN.out hp)
    clear hp
    go_wp2_with fail
    go_roundw
    case rel=>exact ⟨k+1,by omega,by go_num,HN1.out,HX.out⟩
    case measure=>simp [intOf];omega
   ·have HI1:=Lib.hid (HI.out hp)
    clear hp
    go_wp2_with fail
    go_ret
    exact ⟨by rw [HI1.out];rfl,HX.out⟩
  ·have HI:Hid (idxZ p ls = -1):=Lib.hid (idx_miss (by have:=HZ.out;rwa [List.take_of_length_le (by omega)] at this))
   go_wp2_with fail
   go_ret
   exact ⟨by rw [HI.out];rfl,HX.out⟩
theorem findL_idx (ls:List LotV) (id:Bs):idxZ (fun x=>x.id == id) ls=match findL ls id with | some i=>(i:Int) | none => -1:=by
 have:ls.findIdx? (fun x=>x.id == id)=findL ls id:=by
  induction ls with
  |nil=>rfl
  |cons x r ih =>
   rw [List.findIdx?_cons,findL]
   by_cases h:x.id=id
   ·simp [h]
   ·simp [h,ih]
 unfold idxZ;rw [this]
theorem lotFind1 (x:LotV) (id:Bs) (g:Nat) (W:World) (hb:Blk W g 9 #[.string (bs id)]) :
  Calls Tryz.prog 86 #[lv x,.pointer (some ⟨g,0,none⟩)] W fun e w'=>e = .returned (.bool (x.id == id))∧Ext W w':=by
 have q0:=(hb.alloc (.cells (lc x) 71)).cell 0
 simp only [List.getElem?_toArray,List.getElem?_cons_zero] at q0
 have hlt:=hb.lt
 have HX:Hid (Ext W (W.alloc (.cells (lc x) 71))):=Lib.hid (Ext.new _ _)
 obtain ⟨xi,xn,xa,xo,xq,xc,xu⟩:=x
 clear hb
 go_enter Tryz.func86,Tryz.ntmps86
 go_wp2_with fail
 go_ret
 exact ⟨rfl,HX.out⟩
def findI (ls:List LotV) (id:Bs):Int:=match findL ls id with | some i=>(i:Int) | none=>0
theorem lotFind (ls:List LotV) (A:Option Addr) (c:Nat) (id:Bs) (w:World) (hA:RdL w A ls) (hn:ls.length≤1000000) :
  Calls Tryz.prog 32 #[.slice A ls.length c,.string (bs id)] w fun e w'=>e = .returned (.tuple #[.int .i64 (findI ls id),.bool (findL ls id).isSome])∧Ext w w':=by
 have HB:=Lib.hid (Blk.new w 9 #[.string (bs id)])
 have HX0:Hid (Ext w (w.alloc (.cells #[.string (bs id)] 9))):=Lib.hid (Ext.new _ _)
 have hi:=idxFuncL 86 #[.pointer (some ⟨w.heap.size,0,none⟩)] (fun _ _=>by rfl) (fun x=>x.id == id) ls A c _ (hA.ext HX0.out) hn (fun x _ W hx=>lotFind1 x id w.heap.size W (HB.out.ext hx))
 rw [findL_idx] at hi
 have HI:=Lib.hid hi
 have HZ:Hid (max (match findL ls id with | some i=>(i:Int) | none => -1) 0=findI ls id∧decide (0≤(match findL ls id with | some i=>(i:Int) | none => -1))=(findL ls id).isSome):=Lib.hid (by
  unfold findI
  cases findL ls id with
  |none=>exact ⟨rfl,rfl⟩
  |some i=>exact ⟨by simp only;omega,by simp⟩)
 generalize (match findL ls id with | some i=>(i:Int) | none => -1)=z at *
 generalize findI ls id=y at *
 generalize (findL ls id).isSome=b at *
 clear hi hA
 go_enter Tryz.func32,Tryz.ntmps32
 go_wp2_with fail
 refine HI.out.mono ?_
 rintro e w1 ⟨rfl,hx1⟩
 have HX:=Lib.hid (HX0.out.trans hx1)
 clear hx1
 go_wp2_with fail
 go_ret2
 exact ⟨by rw [← HZ.out.1,← HZ.out.2];rfl,HX.out⟩
end
section
open Go.RowKit
attribute [local go_sem] size_bs toList_bs
def recG (cost cash value:Int):Int:=if cash<(if value+cash-cost<0 then 0 else value+cash-cost) then cash else (if value+cash-cost<0 then 0 else value+cash-cost)
def recV (cost cash value:Bs):Bs × Bs × Int :=
 if [cost,cash,value].any (fun a=>checkI a != 0)=true then ([],[],1) else if [cost,cash,value].any (fun a=>decide (valI a<0))=true then ([],[],2)
 else (ofI (recG (valI cost) (valI cash) (valI value)),ofI (valI cost+recG (valI cost) (valI cash) (valI value)-valI cash),0)
theorem listS {W:World} {g:Nat} {l:List Bs} (h:Blk W g 24 (scells l).toArray):RdS W (some ⟨g,0,none⟩) l :=
 ⟨by simp [scells],fun _=>⟨g,0,rfl,h.lt,fun j u hu=>by rw [Nat.zero_add,h.cell j,List.getElem?_toArray];exact hu⟩⟩
section
variable {L:Nat} {cost cash value:Bs}
theorem gain_len (h1:cost.length≤L) (h2:cash.length≤L) (h3:value.length≤L):(ofI (valI value+valI cash)).length≤L+2∧(ofI (valI value+valI cash-valI cost)).length≤L+5:=by
 have e1:=add_len h3 h2
 have e2:=sub_len (x:=ofI (valI value+valI cash)) (y:=cost) (L:=L+2) e1 (by omega)
 rw [valI_ofI] at e2
 exact ⟨e1,by omega⟩
end
theorem mgRec (cost cash value:Bs) (h1:cost.length≤1000) (h2:cash.length≤1000) (h3:value.length≤1000) (hc:checkI cash=0) (hn:0≤valI cash) :
  Pure 54 #[.string (bs cost),.string (bs cash),.string (bs value)] (.tuple #[.string (bs (ofI (recG (valI cost) (valI cash) (valI value)))),.string (bs (ofI (valI cost+recG (valI cost) (valI cash) (valI value)-valI cash)))]):=by
 intro w hE
 have HE:=Lib.hid hE
 obtain ⟨l1,l2⟩:=gain_len (L:=1000) h1 h2 h3
 have hcc:=checkI_ok.1 hc
 have z1:=addP value cash (by omega) (by omega)
 have z2:=subP (ofI (valI value+valI cash)) cost (by omega) (by omega)
 have z3:=cmp0P (ofI (valI value+valI cash-valI cost)) (by omega)
 rw [valI_ofI] at z2 z3
 have A1:=Lib.hid z1
 have S1:=Lib.hid z2
 have C1:=Lib.hid z3
 have HX:Hid (Ext w w):=Lib.hid (Ext.refl w)
 generalize hgz:valI value+valI cash-valI cost=gz at *
 by_cases n1:gz<0
 ·have g1:decide (cmpI gz 0<0)=true:=decide_eq_true (cmpI_neg.2 n1)
  have z4:=cmpP cash [] (by omega) (by simp)
  rw [valI_nil] at z4
  have g2:decide (cmpI (valI cash) 0<0)=false:=decide_eq_false (fun h=>by have:=cmpI_neg.1 h;omega)
  have z5:=addP cost [] (by omega) (by simp)
  have k5:=add_len (x:=cost) (y:=[]) (L:=1000) (by omega) (by simp)
  rw [valI_nil,Int.add_zero] at z5 k5
  have z6:=subP (ofI (valI cost)) cash (by omega) (by omega)
  rw [valI_ofI] at z6
  have er:recG (valI cost) (valI cash) (valI value)=0:=by unfold recG;rw [hgz,if_pos n1,if_neg (by omega)]
  rw [er,Int.add_zero,show ofI 0=[] from ofI_nil.2 rfl]
  have C2:Hid (Pure 20 #[.string (bs cash),.string ⟨#[]⟩] (.int .i64 (cmpI (valI cash) 0))):=Lib.hid z4
  have A2:Hid (Pure 21 #[.string (bs cost),.string ⟨#[]⟩] (.string (bs (ofI (valI cost))))):=Lib.hid z5
  have S2:=Lib.hid z6
  clear z1 z2 z3 z4 z5 z6 l1 l2 k5 hcc hE er hgz n1
  generalize cmpI gz 0=q1 at *
  generalize cmpI (valI cash) 0=q2 at *
  go_enter Tryz.func54,Tryz.ntmps54
  go_wp2_with fail
  refine (A1.out _ (HE.out.ext HX.out)).mono ?_
  rintro e v1 ⟨rfl,hx1⟩
  replace HX:=Lib.hid (HX.out.trans hx1)
  clear hx1
  go_wp2_with fail
  refine (S1.out _ (HE.out.ext HX.out)).mono ?_
  rintro e v2 ⟨rfl,hx1⟩
  replace HX:=Lib.hid (HX.out.trans hx1)
  clear hx1
  go_wp2_with fail
  refine (C1.out _ (HE.out.ext HX.out)).mono ?_
  rintro e v3 ⟨rfl,hx1⟩
  replace HX:=Lib.hid (HX.out.trans hx1)
  clear hx1
  go_wp2_with fail
  refine (C2.out _ (HE.out.ext HX.out)).mono ?_
  rintro e v4 ⟨rfl,hx1⟩
  replace HX:=Lib.hid (HX.out.trans hx1)
  clear hx1
  go_wp2_with fail
  refine (A2.out _ (HE.out.ext HX.out)).mono ?_
  rintro e v5 ⟨rfl,hx1⟩
  replace HX:=Lib.hid (HX.out.trans hx1)
  clear hx1
  go_wp2_with fail
  refine (S2.out _ (HE.out.ext HX.out)).mono ?_
  rintro e v6 ⟨rfl,hx1⟩
  replace HX:=Lib.hid (HX.out.trans hx1)
  clear hx1
  go_wp2_with fail
  go_ret2
  exact ⟨rfl,HX.out⟩
 ·have g1:decide (cmpI gz 0<0)=false:=decide_eq_false (fun h=>n1 (cmpI_neg.1 h))
  have z4:=cmpP cash (ofI gz) (by omega) (by omega)
  rw [valI_ofI] at z4
  have C2:=Lib.hid z4
  by_cases n2:valI cash<gz
  ·have g2:decide (cmpI (valI cash) gz<0)=true:=decide_eq_true (cmpI_neg.2 n2)
   have er:recG (valI cost) (valI cash) (valI value)=valI cash:=by unfold recG;rw [hgz,if_neg n1,if_pos n2]
   rw [er,hcc]
   have z5:=addP cost cash (by omega) (by omega)
   have k5:=add_len (x:=cost) (y:=cash) (L:=1000) (by omega) (by omega)
   have z6:=subP (ofI (valI cost+valI cash)) cash (by omega) (by omega)
   rw [valI_ofI] at z6
   have A2:=Lib.hid z5
   have S2:=Lib.hid z6
   clear z1 z2 z3 z4 z5 z6 l1 l2 k5 hcc hE er hgz n1 n2
   generalize ofI (valI cost+valI cash-valI cash)=r2 at *
   generalize cmpI gz 0=q1 at *
   generalize cmpI (valI cash) gz=q2 at *
   go_enter Tryz.func54,Tryz.ntmps54
   go_wp2_with fail
   refine (A1.out _ (HE.out.ext HX.out)).mono ?_
   rintro e v7 ⟨rfl,hx1⟩
   replace HX:=Lib.hid (HX.out.trans hx1)
   clear hx1
   go_wp2_with fail
   refine (S1.out _ (HE.out.ext HX.out)).mono ?_
   rintro e v8 ⟨rfl,hx1⟩
   replace HX:=Lib.hid (HX.out.trans hx1)
   clear hx1
   go_wp2_with fail
   refine (C1.out _ (HE.out.ext HX.out)).mono ?_
   rintro e v9 ⟨rfl,hx1⟩
   replace HX:=Lib.hid (HX.out.trans hx1)
   clear hx1
   go_wp2_with fail
   refine (C2.out _ (HE.out.ext HX.out)).mono ?_
   rintro e v10 ⟨rfl,hx1⟩
   replace HX:=Lib.hid (HX.out.trans hx1)
   clear hx1
   go_wp2_with fail
   refine (A2.out _ (HE.out.ext HX.out)).mono ?_
   rintro e v11 ⟨rfl,hx1⟩
   replace HX:=Lib.hid (HX.out.trans hx1)
   clear hx1
   go_wp2_with fail
   refine (S2.out _ (HE.out.ext HX.out)).mono ?_
   rintro e v12 ⟨rfl,hx1⟩
   replace HX:=Lib.hid (HX.out.trans hx1)
   clear hx1
   go_wp2_with fail
   go_ret2
   exact ⟨rfl,HX.out⟩
  ·have g2:decide (cmpI (valI cash) gz<0)=false:=decide_eq_false (fun h=>n2 (cmpI_neg.1 h))
   have er:recG (valI cost) (valI cash) (valI value)=gz:=by unfold recG;rw [hgz,if_neg n1,if_neg n2]
   rw [er]
   have z5:=addP cost (ofI gz) (by omega) (by omega)
   have k5:=add_len (x:=cost) (y:=ofI gz) (L:=1005) (by omega) (by omega)
   rw [valI_ofI] at z5 k5
   have z6:=subP (ofI (valI cost+gz)) cash (by omega) (by omega)
   rw [valI_ofI] at z6
   have A2:=Lib.hid z5
   have S2:=Lib.hid z6
   clear z1 z2 z3 z4 z5 z6 l1 l2 k5 hcc hE er hgz n1 n2
   generalize cmpI gz 0=q1 at *
   generalize cmpI (valI cash) gz=q2 at *
   go_enter Tryz.func54,Tryz.ntmps54
   go_wp2_with fail
   refine (A1.out _ (HE.out.ext HX.out)).mono ?_
   rintro e v13 ⟨rfl,hx1⟩
   replace HX:=Lib.hid (HX.out.trans hx1)
   clear hx1
   go_wp2_with fail
   refine (S1.out _ (HE.out.ext HX.out)).mono ?_
   rintro e v14 ⟨rfl,hx1⟩
   replace HX:=Lib.hid (HX.out.trans hx1)
   clear hx1
   go_wp2_with fail
   refine (C1.out _ (HE.out.ext HX.out)).mono ?_
   rintro e v15 ⟨rfl,hx1⟩
   replace HX:=Lib.hid (HX.out.trans hx1)
   clear hx1
   go_wp2_with fail
   refine (C2.out _ (HE.out.ext HX.out)).mono ?_
   rintro e v16 ⟨rfl,hx1⟩
   replace HX:=Lib.hid (HX.out.trans hx1)
   clear hx1
   go_wp2_with fail
   refine (A2.out _ (HE.out.ext HX.out)).mono ?_
   rintro e v17 ⟨rfl,hx1⟩
   replace HX:=Lib.hid (HX.out.trans hx1)
   clear hx1
   go_wp2_with fail
   refine (S2.out _ (HE.out.ext HX.out)).mono ?_
   rintro e v18 ⟨rfl,hx1⟩
   replace HX:=Lib.hid (HX.out.trans hx1)
   clear hx1
   go_wp2_with fail
   go_ret2
   exact ⟨rfl,HX.out⟩
theorem mgRec1 (a:Bs) (ha:a.length≤90000):Pure 71 #[.string (bs a)] (.bool (checkI a != 0)):=by
 intro w hE
 have HE:=Lib.hid hE
 have C:=Lib.hid (checkP a (by omega))
 have HX:Hid (Ext w w):=Lib.hid (Ext.refl w)
 generalize checkI a=k at *
 clear hE ha
 go_enter Tryz.func71,Tryz.ntmps71
 go_wp2_with fail
 refine (C.out _ (HE.out.ext HX.out)).mono ?_
 rintro e v19 ⟨rfl,hx1⟩
 replace HX:=Lib.hid (HX.out.trans hx1)
 clear hx1
 go_wp2_with fail
 go_ret
 exact ⟨rfl,HX.out⟩
theorem mgRec2 (a:Bs) (ha:a.length≤90000):Pure 73 #[.string (bs a)] (.bool (decide (valI a<0))):=by
 intro w hE
 have HE:=Lib.hid hE
 have C:=Lib.hid (cmp0P a (by omega))
 have HX:Hid (Ext w w):=Lib.hid (Ext.refl w)
 have HQ:Hid (decide (valI a<0)=decide (cmpI (valI a) 0<0)):=Lib.hid (by rw [Bool.eq_iff_iff,decide_eq_true_iff,decide_eq_true_iff,cmpI_neg])
 rw [HQ.out]
 generalize cmpI (valI a) 0=cc at *
 clear hE ha HQ
 go_enter Tryz.func73,Tryz.ntmps73
 go_wp2_with fail
 refine (C.out _ (HE.out.ext HX.out)).mono ?_
 rintro e v21 ⟨rfl,hx1⟩
 replace HX:=Lib.hid (HX.out.trans hx1)
 clear hx1
 go_wp2_with fail
 go_ret
 exact ⟨rfl,HX.out⟩
theorem recV_bad {cost cash value:Bs} (h:[cost,cash,value].any (fun a=>checkI a != 0)=true):recV cost cash value=([],[],1):=by unfold recV;rw [if_pos h]
theorem recV_low {cost cash value:Bs} (h:[cost,cash,value].any (fun a=>checkI a != 0)=false) (h2:[cost,cash,value].any (fun a=>decide (valI a<0))=true):recV cost cash value=([],[],2):=by unfold recV;rw [if_neg (by rw [h];decide),if_pos h2]
theorem recV_ok {cost cash value:Bs} (h:[cost,cash,value].any (fun a=>checkI a != 0)=false) (h2:[cost,cash,value].any (fun a=>decide (valI a<0))=false):recV cost cash value=(ofI (recG (valI cost) (valI cash) (valI value)),ofI (valI cost+recG (valI cost) (valI cash) (valI value)-valI cash),0):=by unfold recV;rw [if_neg (by rw [h];decide),if_neg (by rw [h2];decide)]
theorem rec_facts {cost cash value:Bs} (h:[cost,cash,value].any (fun a=>checkI a != 0)=false) (h2:[cost,cash,value].any (fun a=>decide (valI a<0))=false):checkI cost=0∧checkI cash=0∧checkI value=0∧0≤valI cost∧0≤valI cash∧0≤valI value:=by
 simp only [List.any_cons,List.any_nil,Bool.or_false,Bool.or_eq_false_iff,bne_eq_false_iff_eq,decide_eq_false_iff_not] at h h2
 exact ⟨h.1,h.2.1,h.2.2,by omega,by omega,by omega⟩
theorem mgRecognized (cost cash value:Bs) (h1:cost.length≤1000) (h2:cash.length≤1000) (h3:value.length≤1000) :
  Pure 18 #[.string (bs cost),.string (bs cash),.string (bs value)] (.tuple #[.string (bs (recV cost cash value).1),.string (bs (recV cost cash value).2.1),.int .i64 (recV cost cash value).2.2]):=by
 intro w hE
 have HE:=Lib.hid hE
 have HB:=Lib.hid (Blk.new w 24 #[.string (bs cost),.string (bs cash),.string (bs value)])
 have HX:Hid (Ext w (w.alloc (.cells #[.string (bs cost),.string (bs cash),.string (bs value)] 24))):=Lib.hid (Ext.new _ _)
 have hr:∀ W,Blk W w.heap.size 24 #[.string (bs cost),.string (bs cash),.string (bs value)]→RdS W (some ⟨w.heap.size,0,none⟩) [cost,cash,value]:=fun W h=>listS h
 have hm:∀ a ∈ [cost,cash,value],a.length≤90000:=by
  intro a ha
  simp only [List.mem_cons,List.not_mem_nil,or_false] at ha
  rcases ha with rfl | rfl | rfl <;> omega
 have K1:=Lib.hid (fun W hx h=>contFuncI 71 #[] (fun _ _=>by rfl) (fun a=>checkI a != 0) [cost,cash,value] (some ⟨w.heap.size,0,none⟩) 3 W (hr W h) (by simp) (fun a ha V hv=>mgRec1 a (hm a ha) V ((hE.ext hx).ext hv)))
 have K2:=Lib.hid (fun W hx h=>contFuncI 73 #[] (fun _ _=>by rfl) (fun a=>decide (valI a<0)) [cost,cash,value] (some ⟨w.heap.size,0,none⟩) 3 W (hr W h) (by simp) (fun a ha V hv=>mgRec2 a (hm a ha) V ((hE.ext hx).ext hv)))
 have B1:=Lib.hid (@recV_bad cost cash value)
 have B2:=Lib.hid (@recV_low cost cash value)
 have B3:=Lib.hid (fun a b=>And.intro (@recV_ok cost cash value a b) (mgRec cost cash value h1 h2 h3 (rec_facts a b).2.1 (rec_facts a b).2.2.2.2.1))
 clear hE hr hm h1 h2 h3
 generalize recV cost cash value=rv at *
 generalize [cost,cash,value].any (fun a=>checkI a != 0)=b1 at *
 generalize [cost,cash,value].any (fun a=>decide (valI a<0))=b2 at *
 simp only [List.length_cons,List.length_nil,Nat.zero_add,Nat.reduceAdd] at K1 K2
 go_enter Tryz.func18,Tryz.ntmps18
 go_wp2_with fail
 refine (K1.out _ HX.out HB.out).mono ?_
 rintro e v23 ⟨rfl,hx1⟩
 replace HB:=Lib.hid (HB.out.ext hx1)
 replace HX:=Lib.hid (HX.out.trans hx1)
 clear hx1
 cases b1
 rotate_left
 ·have e:=B1.out (by trivial)
  subst e
  go_wp2_with fail
  go_ret3
  exact ⟨rfl,HX.out⟩
 go_wp2_with fail
 refine (K2.out _ HX.out HB.out).mono ?_
 rintro e v24 ⟨rfl,hx1⟩
 replace HX:=Lib.hid (HX.out.trans hx1)
 clear hx1
 cases b2
 rotate_left
 ·have e:=B2.out (by trivial) (by trivial)
  subst e
  go_wp2_with fail
  go_ret3
  exact ⟨rfl,HX.out⟩
 obtain ⟨e,hrec⟩:=B3.out (by trivial) (by trivial)
 have R:=Lib.hid hrec
 subst e
 clear hrec K1 K2 B1 B2 B3
 go_wp2_with fail
 refine (R.out _ (HE.out.ext HX.out)).mono ?_
 rintro e v25 ⟨rfl,hx1⟩
 replace HX:=Lib.hid (HX.out.trans hx1)
 clear hx1
 go_wp2_with fail
 go_ret3
 exact ⟨rfl,HX.out⟩
end
section
open Go.RowKit
attribute [local go_sem] size_bs toList_bs get_bs
def digN (l:Bs):Nat:=(strip l).length
theorem dig_cases (l:Bs):(∃ t,l=45 :: t∧digN l=t.length)∨(digN l=l.length∧∃ h0:0<l.length,((l[0].toNat:Int) == 45)=false)∨(l=[]∧digN l=0):=by
 cases l with
 |nil=>exact .inr (.inr ⟨rfl,rfl⟩)
 |cons c r =>
  by_cases h:c=45
  ·subst h;exact .inl ⟨r,rfl,rfl⟩
  ·refine .inr (.inl ⟨by simp [digN,strip,isMin,h],by simp,?_⟩)
   have:=byte_ne (c:=c) (d:=45) h
   simpa using this
theorem mgDigits (l:Bs) (hl:l.length≤1000000) (w:World):Calls Tryz.prog 102 #[.string (bs l)] w fun e w'=>e = .returned (.int .i64 (digN l:Nat))∧w=w':=by
 rcases dig_cases l with ⟨t,rfl,e⟩ | ⟨e,h0,h1⟩ | ⟨rfl,e⟩
 ·have hl2:t.length≤1000000:=by simp only [List.length_cons] at hl;omega
  have hw:IntKind.i64.wrap ((t.length:Int))=(t.length:Int):=IntWalk.i64_in _ (by omega)
  have hw2:wrap64 ((t.length:Int))=(t.length:Int):=by simp only [wrap64];omega
  rw [e]
  go_enter Tryz.func102,Tryz.ntmps102
  go_wp2
  go_ret
  exact ⟨by first | rfl | (rw [hw2];done) | (simp [hw2];done) | (congr 1;simp;omega),rfl⟩
 all_goals
  rw [e]
  go_enter Tryz.func102,Tryz.ntmps102
  go_wp2
  go_ret
  exact ⟨by first | rfl | (simp;done) | (congr 1;simp;omega),rfl⟩
theorem rfDigits (l:Bs) (hl:l.length≤1000000) (w:World):Calls Tryz.prog 233 #[.string (bs l)] w fun e w'=>e = .returned (.int .i64 (digN l:Nat))∧w=w':=by
 rcases dig_cases l with ⟨t,rfl,e⟩ | ⟨e,h0,h1⟩ | ⟨rfl,e⟩
 ·have hl2:t.length≤1000000:=by simp only [List.length_cons] at hl;omega
  have hw:IntKind.i64.wrap ((t.length:Int))=(t.length:Int):=IntWalk.i64_in _ (by omega)
  have hw2:wrap64 ((t.length:Int))=(t.length:Int):=by simp only [wrap64];omega
  rw [e]
  go_enter Tryz.func233,Tryz.ntmps233
  go_wp2
  go_ret
  exact ⟨by first | rfl | (rw [hw2];done) | (simp [hw2];done) | (congr 1;simp;omega),rfl⟩
 all_goals
  rw [e]
  go_enter Tryz.func233,Tryz.ntmps233
  go_wp2
  go_ret
  exact ⟨by first | rfl | (simp;done) | (congr 1;simp;omega),rfl⟩
end
section
open Go.RowKit
attribute [local go_sem] size_bs toList_bs
theorem rfCheckF (f:Fr) (h1:f.num.length≤80000) (h2:f.den.length≤80000):PureR 229 #[fv f] (.int .i64 (checkF f)):=by
 intro w
 have HM:=Lib.hid (refCanon f h1 h2)
 have HC1:Hid (ofQ (frQ f)=f→checkF f=0):=Lib.hid (fun h=>by unfold checkF;rw [if_pos (fr_eq.1 h)])
 have HC2:Hid (ofQ (frQ f)≠f→checkF f=1):=Lib.hid (fun h=>by unfold checkF;rw [if_neg (fun k=>h (fr_eq.2 k))])
 generalize checkF f=k at *
 generalize ofQ (frQ f)=r at *
 obtain ⟨n1,e1⟩:=f
 obtain ⟨n2,e2⟩:=r
 clear h1 h2
 have HB:=Lib.hid (Blk.new w 26 #[.string (bs n1),.string (bs e1)])
 have HX:Hid (Ext w (w.alloc (.cells #[.string (bs n1),.string (bs e1)] 26))):=Lib.hid (Ext.new _ _)
 have HD:Hid (Ext w (w.alloc (.cells #[.string (bs n1),.string (bs e1)] 26)).drew):=Lib.hid HX.out.drew
 have HBD:=Lib.hid HB.out.drew
 by_cases a1:n1=n2
 rotate_left
 ·have q:=bs_ne' a1
  have HK:=Lib.hid (HC2.out (fun h=>a1 (by injection h with h1 h2;exact h1.symm)))
  rw [HK.out]
  clear HC1 HC2 HK a1
  go_enter Tryz.func229,Tryz.ntmps229
  go_upto_region 1 with fail
  go_cut [6] (fun p6 wx=>p6 = .bool true∧Ext w wx)
  case first =>
   obtain ⟨r0,r1,_,_⟩:=frBlk HB.out (Ext.refl _)
   go_region_held3 (fun w'=>w'.cell? ⟨w.heap.size,0,none⟩=some (.string (bs n1))∧w'.cell? ⟨w.heap.size,1,none⟩=some (.string (bs e1)))
    (go_keep)
    (first
     |(go_at_call 284;((with_reducible refine (HM.out _).mono ?_);rintro e w5 ⟨rfl,hx⟩);(replace HD:=Lib.hid (HD.out.trans hx));(replace HBD:=Lib.hid (HBD.out.ext hx));(obtain ⟨z0,z1,_,_⟩:=frBlk HBD.out (Ext.refl _));clear hx HM)
     |fail)
   all_goals (go_wp2_with fail;go_meet;exact ⟨rfl,HD.out⟩)
  case rest =>
   obtain ⟨rfl,hx⟩:=hcut
   have HXE:=Lib.hid hx
   clear hx
   go_wp2_with fail
   go_ret
   exact ⟨rfl,HXE.out⟩
 subst a1
 by_cases a2:e1=e2
 rotate_left
 ·have q:=bs_ne' a2
  have HK:=Lib.hid (HC2.out (fun h=>a2 (by injection h with h1 h2;exact h2.symm)))
  rw [HK.out]
  clear HC1 HC2 HK a2
  go_enter Tryz.func229,Tryz.ntmps229
  go_upto_region 1 with fail
  go_cut [6] (fun p6 wx=>p6 = .bool true∧Ext w wx)
  case first =>
   obtain ⟨r0,r1,_,_⟩:=frBlk HB.out (Ext.refl _)
   go_region_held3 (fun w'=>w'.cell? ⟨w.heap.size,0,none⟩=some (.string (bs n1))∧w'.cell? ⟨w.heap.size,1,none⟩=some (.string (bs e1)))
    (go_keep)
    (first
     |(go_at_call 284;((with_reducible refine (HM.out _).mono ?_);rintro e w5 ⟨rfl,hx⟩);(replace HD:=Lib.hid (HD.out.trans hx));(replace HBD:=Lib.hid (HBD.out.ext hx));(obtain ⟨z0,z1,_,_⟩:=frBlk HBD.out (Ext.refl _));clear hx HM)
     |fail)
   all_goals (go_wp2_with fail;go_meet;exact ⟨rfl,HD.out⟩)
  case rest =>
   obtain ⟨rfl,hx⟩:=hcut
   have HXE:=Lib.hid hx
   clear hx
   go_wp2_with fail
   go_ret
   exact ⟨rfl,HXE.out⟩
 subst a2
 have HK:=Lib.hid (HC1.out rfl)
 rw [HK.out]
 clear HC1 HC2 HK
 go_enter Tryz.func229,Tryz.ntmps229
 go_upto_region 1 with fail
 go_cut [6] (fun p6 wx=>p6 = .bool false∧Ext w wx)
 case first =>
  obtain ⟨r0,r1,_,_⟩:=frBlk HB.out (Ext.refl _)
  go_region_held3 (fun w'=>w'.cell? ⟨w.heap.size,0,none⟩=some (.string (bs n1))∧w'.cell? ⟨w.heap.size,1,none⟩=some (.string (bs e1)))
   (go_keep)
   (first
    |(go_at_call 284;((with_reducible refine (HM.out _).mono ?_);rintro e w5 ⟨rfl,hx⟩);(replace HD:=Lib.hid (HD.out.trans hx));(replace HBD:=Lib.hid (HBD.out.ext hx));(obtain ⟨z0,z1,_,_⟩:=frBlk HBD.out (Ext.refl _));clear hx HM)
    |fail)
  all_goals (go_wp2_with fail;go_meet;exact ⟨rfl,HD.out⟩)
 case rest =>
  obtain ⟨rfl,hx⟩:=hcut
  have HXE:=Lib.hid hx
  clear hx
  go_wp2_with fail
  go_ret
  exact ⟨rfl,HXE.out⟩
theorem frQ_nilN:frQ ⟨[],[]⟩=0:=by
 have:=frQ_ofQ 0
 rwa [ofQ_zero] at this
theorem rfSignF (f:Fr) (h1:f.num.length≤19000) (h2:f.den.length≤19000):PureR 172 #[fv f] (.int .i64 (cmpQ (frQ f) 0)):=by
 intro w
 have c:=refCmpF f ⟨[],[]⟩ (by omega) (by omega) (by simp) (by simp)
 rw [frQ_nilN] at c
 have C:=Lib.hid c
 generalize cmpQ (frQ f) 0=k at *
 obtain ⟨n1,e1⟩:=f
 clear c h1 h2
 have HB:=Lib.hid (Blk.new w 26 #[.string (bs n1),.string (bs e1)])
 have HX:Hid (Ext w (w.alloc (.cells #[.string (bs n1),.string (bs e1)] 26))):=Lib.hid (Ext.new _ _)
 go_enter Tryz.func172,Tryz.ntmps172
 obtain ⟨r0,r1,_,_⟩:=frBlk HB.out (Ext.refl _)
 go_wp2_with fail
 refine (C.out _).mono ?_
 rintro e v5 ⟨rfl,hx1⟩
 replace HX:=Lib.hid (HX.out.trans hx1)
 clear hx1
 go_wp2_with fail
 go_ret
 exact ⟨rfl,HX.out⟩
def numA (f:Fr):Int:=if checkF f≠0 then 1 else if 40<digN f.num∨40<digN f.den then 4 else 0
def numE (f:Fr):Int:=if numA f≠0 then numA f else if frQ f<0 then 2 else 0
theorem rfNumber (f:Fr) (h1:f.num.length≤19000) (h2:f.den.length≤19000):PureR 171 #[fv f] (.int .i64 (numA f)):=by
 intro w
 have CK:=Lib.hid (rfCheckF f (by omega) (by omega))
 have D1:=Lib.hid (fun W=>still (rfDigits f.num (by omega) W))
 have D2:=Lib.hid (fun W=>still (rfDigits f.den (by omega) W))
 have N1:Hid (checkF f≠0→numA f=1):=Lib.hid (fun h=>by unfold numA;rw [if_pos h])
 have N2:Hid (checkF f=0→40<digN f.num∨40<digN f.den→numA f=4):=Lib.hid (fun h k=>by unfold numA;rw [if_neg (by simpa using h),if_pos k])
 have N3:Hid (checkF f=0→¬ 40<digN f.num→¬ 40<digN f.den→numA f=0):=Lib.hid (fun h k k2=>by unfold numA;rw [if_neg (by simpa using h),if_neg (by omega)])
 generalize numA f=r at *
 generalize checkF f=ck at *
 generalize digN f.num=d1 at *
 generalize digN f.den=d2 at *
 obtain ⟨n1,e1⟩:=f
 clear h1 h2
 have HB:=Lib.hid (Blk.new w 26 #[.string (bs n1),.string (bs e1)])
 have HX:Hid (Ext w (w.alloc (.cells #[.string (bs n1),.string (bs e1)] 26))):=Lib.hid (Ext.new _ _)
 go_enter Tryz.func171,Tryz.ntmps171
 obtain ⟨r0,r1,_,_⟩:=frBlk HB.out (Ext.refl _)
 go_wp2_with fail
 refine (CK.out _).mono ?_
 rintro e v7 ⟨rfl,hx1⟩
 replace HB:=Lib.hid (HB.out.ext hx1)
 replace HX:=Lib.hid (HX.out.trans hx1)
 clear hx1
 clear r0 r1
 obtain ⟨r0,r1,_,_⟩:=frBlk HB.out (Ext.refl _)
 by_cases a1:ck=0
 rotate_left
 ·have g:(ck != 0)=true:=by rw [bne_iff_ne];exact a1
  have e:=N1.out a1
  subst e
  go_wp2_with fail
  go_ret
  exact ⟨rfl,HX.out⟩
 subst a1
 go_wp2_with fail
 refine (D1.out _).mono ?_
 rintro e v9 ⟨rfl,hx1⟩
 replace HB:=Lib.hid (HB.out.ext hx1)
 replace HX:=Lib.hid (HX.out.trans hx1)
 clear hx1
 clear r0 r1
 obtain ⟨r0,r1,_,_⟩:=frBlk HB.out (Ext.refl _)
 by_cases a2:40<d1
 ·have g:decide ((40:Int)<(d1:Int))=true:=by rw [decide_eq_true_iff];omega
  have e:=N2.out (by trivial) (.inl a2)
  subst e
  go_wp2_with fail
  go_ret
  exact ⟨rfl,HX.out⟩
 have g2:decide ((40:Int)<(d1:Int))=false:=by rw [decide_eq_false_iff_not];omega
 go_wp2_with fail
 refine (D2.out _).mono ?_
 rintro e v11 ⟨rfl,hx1⟩
 replace HX:=Lib.hid (HX.out.trans hx1)
 clear hx1
 by_cases a3:40<d2
 ·have g:decide ((40:Int)<(d2:Int))=true:=by rw [decide_eq_true_iff];omega
  have e:=N2.out (by trivial) (.inr a3)
  subst e
  go_wp2_with fail
  go_ret
  exact ⟨rfl,HX.out⟩
 have g3:decide ((40:Int)<(d2:Int))=false:=by rw [decide_eq_false_iff_not];omega
 have e:=N3.out (by trivial) a2 a3
 subst e
 go_wp2_with fail
 go_ret
 exact ⟨rfl,HX.out⟩
theorem rfNum29 (f:Fr) (h1:f.num.length≤19000) (h2:f.den.length≤19000):PureR 104 #[fv f] (.int .i64 (numE f)):=by
 intro w
 have CK:=Lib.hid (rfNumber f h1 h2)
 have SG:=Lib.hid (rfSignF f h1 h2)
 have N1:Hid (numA f≠0→numE f=numA f):=Lib.hid (fun h=>by unfold numE;rw [if_pos h])
 have N2:Hid (numA f=0→cmpQ (frQ f) 0<0→numE f=2):=Lib.hid (fun h k=>by unfold numE;rw [if_neg (by simpa using h),if_pos (cmpQ_neg.1 k)])
 have N3:Hid (numA f=0→¬ cmpQ (frQ f) 0<0→numE f=0):=Lib.hid (fun h k=>by unfold numE;rw [if_neg (by simpa using h),if_neg (fun h=>k (cmpQ_neg.2 h))])
 generalize numE f=r at *
 generalize numA f=ck at *
 generalize cmpQ (frQ f) 0=sg at *
 obtain ⟨n1,e1⟩:=f
 clear h1 h2
 have HB:=Lib.hid (Blk.new w 26 #[.string (bs n1),.string (bs e1)])
 have HX:Hid (Ext w (w.alloc (.cells #[.string (bs n1),.string (bs e1)] 26))):=Lib.hid (Ext.new _ _)
 go_enter Tryz.func104,Tryz.ntmps104
 obtain ⟨r0,r1,_,_⟩:=frBlk HB.out (Ext.refl _)
 go_wp2_with fail
 refine (CK.out _).mono ?_
 rintro e v14 ⟨rfl,hx1⟩
 replace HB:=Lib.hid (HB.out.ext hx1)
 replace HX:=Lib.hid (HX.out.trans hx1)
 clear hx1
 clear r0 r1
 obtain ⟨r0,r1,_,_⟩:=frBlk HB.out (Ext.refl _)
 by_cases a1:ck=0
 rotate_left
 ·have g:(ck != 0)=true:=by rw [bne_iff_ne];exact a1
  have e:=N1.out a1
  subst e
  go_wp2_with fail
  go_ret
  exact ⟨rfl,HX.out⟩
 subst a1
 go_wp2_with fail
 refine (SG.out _).mono ?_
 rintro e v16 ⟨rfl,hx1⟩
 replace HX:=Lib.hid (HX.out.trans hx1)
 clear hx1
 by_cases a2:sg<0
 ·have g:decide (sg<0)=true:=decide_eq_true a2
  have e:=N2.out (by trivial) a2
  subst e
  go_wp2_with fail
  go_ret
  exact ⟨rfl,HX.out⟩
 have g2:decide (sg<0)=false:=decide_eq_false a2
 have e:=N3.out (by trivial) (by omega)
 subst e
 go_wp2_with fail
 go_ret
 exact ⟨rfl,HX.out⟩
end
section
open Go.RowKit
attribute [local go_sem] size_bs toList_bs
structure OptV where
 other:Bs
 r:Fr
 p:Fr
 v:Fr
abbrev ov (o:OptV):Value := .agg #[.string (bs o.other),.string (bs o.r.num),.string (bs o.r.den),.string (bs o.p.num),.string (bs o.p.den),.string (bs o.v.num),.string (bs o.v.den)]
abbrev oc (o:OptV):Array Value:=#[.string (bs o.other),.string (bs o.r.num),.string (bs o.r.den),.string (bs o.p.num),.string (bs o.p.den),.string (bs o.v.num),.string (bs o.v.den)]
def optBad (o:OptV):Bool:=if o.other=[] then !(o.r.num.isEmpty && o.r.den.isEmpty && o.v.num.isEmpty && o.v.den.isEmpty) else o.r.num.isEmpty && o.r.den.isEmpty
def optE (o:OptV):Int :=
 if o.other≠[]∧isName o.other=false then 23 else if numE o.r≠0 then numE o.r else if numE o.p≠0 then numE o.p else if numE o.v≠0 then numE o.v else if optBad o=true then 2 else 0
def OptSm (L:Nat) (o:OptV):Prop:=o.other.length≤L∧o.r.num.length≤L∧o.r.den.length≤L∧o.p.num.length≤L∧o.p.den.length≤L∧o.v.num.length≤L∧o.v.den.length≤L
theorem optBlk {w w':World} {g:Nat} {o:OptV} (h:Blk w g 50 (oc o)) (hx:Ext w w'):w'.cell? ⟨g,0,none⟩=some (.string (bs o.other))∧w'.cell? ⟨g,1,none⟩=some (.string (bs o.r.num))∧w'.cell? ⟨g,2,none⟩=some (.string (bs o.r.den))∧w'.cell? ⟨g,3,none⟩=some (.string (bs o.p.num))∧w'.cell? ⟨g,4,none⟩=some (.string (bs o.p.den))∧w'.cell? ⟨g,5,none⟩=some (.string (bs o.v.num))∧w'.cell? ⟨g,6,none⟩=some (.string (bs o.v.den)):=by
 have k:=h.ext hx
 have h0:=k.cell 0
 have h1:=k.cell 1
 have h2:=k.cell 2
 have h3:=k.cell 3
 have h4:=k.cell 4
 have h5:=k.cell 5
 have h6:=k.cell 6
 simp only [List.getElem?_toArray,List.getElem?_cons_zero,List.getElem?_cons_succ] at h0 h1 h2 h3 h4 h5 h6
 exact ⟨h0,h1,h2,h3,h4,h5,h6⟩
structure OptT (o:OptV) (e:Int):Prop where
 n:o.other≠[]→isName o.other=false→e=23
 r:(o.other=[]∨isName o.other=true)→numE o.r≠0→e=numE o.r
 p:(o.other=[]∨isName o.other=true)→numE o.r=0→numE o.p≠0→e=numE o.p
 v:(o.other=[]∨isName o.other=true)→numE o.r=0→numE o.p=0→numE o.v≠0→e=numE o.v
 b:(o.other=[]∨isName o.other=true)→numE o.r=0→numE o.p=0→numE o.v=0→optBad o=true→e=2
 k:(o.other=[]∨isName o.other=true)→numE o.r=0→numE o.p=0→numE o.v=0→optBad o=false→e=0
theorem optT (o:OptV):OptT o (optE o):=by
 refine ⟨fun a b=>?_,fun a b=>?_,fun a b c=>?_,fun a b c d=>?_,fun a b c d e=>?_,fun a b c d e=>?_⟩
 ·unfold optE;rw [if_pos ⟨a,b⟩]
 ·unfold optE;rw [if_neg (by rintro ⟨k1,k2⟩;rcases a with a | a <;> simp_all),if_pos b]
 ·unfold optE;rw [if_neg (by rintro ⟨k1,k2⟩;rcases a with a | a <;> simp_all),if_neg (by simpa using b),if_pos c]
 ·unfold optE;rw [if_neg (by rintro ⟨k1,k2⟩;rcases a with a | a <;> simp_all),if_neg (by simpa using b),if_neg (by simpa using c),if_pos d]
 ·unfold optE;rw [if_neg (by rintro ⟨k1,k2⟩;rcases a with a | a <;> simp_all),if_neg (by simpa using b),if_neg (by simpa using c),if_neg (by simpa using d),if_pos e]
 ·unfold optE;rw [if_neg (by rintro ⟨k1,k2⟩;rcases a with a | a <;> simp_all),if_neg (by simpa using b),if_neg (by simpa using c),if_neg (by simpa using d),if_neg (by rw [e];decide)]
end
section
open Go.RowKit
attribute [local go_sem] size_bs toList_bs
theorem rfOptCheck (o:OptV) (hs:OptSm 9000 o):PureR 47 #[ov o] (.int .i64 (optE o)):=by
 intro w
 obtain ⟨s0,s1,s2,s3,s4,s5,s6⟩:=hs
 have HNm:=Lib.hid (fun W=>refName o.other W (by omega))
 have HR:=Lib.hid (rfNum29 o.r (by omega) (by omega))
 have HP:=Lib.hid (rfNum29 o.p (by omega) (by omega))
 have HV:=Lib.hid (rfNum29 o.v (by omega) (by omega))
 have N1:=Lib.hid (optT o).n
 have N2:=Lib.hid (optT o).r
 have N3:=Lib.hid (optT o).p
 have N4:=Lib.hid (optT o).v
 have N5:=Lib.hid (optT o).b
 have N6:=Lib.hid (optT o).k
 have HB:=Lib.hid (Blk.new w 50 (oc o))
 have HX:Hid (Ext w (w.alloc (.cells (oc o) 50))):=Lib.hid (Ext.new _ _)
 generalize optE o=res at *
 generalize numE o.r=e1 at *
 generalize numE o.p=e2 at *
 generalize numE o.v=e3 at *
 generalize isName o.other=nm at *
 obtain ⟨ot,⟨rn,rd⟩,⟨pn,pd⟩,⟨vn,vd⟩⟩:=o
 dsimp only at HNm HR HP HV N1 N2 N3 N4 N5 N6
 clear s0 s1 s2 s3 s4 s5 s6
 by_cases h0:ot=[]
 ·subst h0
  replace N2:=Lib.hid (N2.out (.inl rfl))
  replace N3:=Lib.hid (N3.out (.inl rfl))
  replace N4:=Lib.hid (N4.out (.inl rfl))
  replace N5:=Lib.hid (N5.out (.inl rfl))
  replace N6:=Lib.hid (N6.out (.inl rfl))
  clear N1 HNm
  go_enter Tryz.func47,Tryz.ntmps47
  obtain ⟨r0,r1,r2,r3,r4,r5,r6⟩:=optBlk HB.out (Ext.refl _)
  go_wp2_with fail
  refine (HR.out _).mono ?_
  rintro e v2 ⟨rfl,hx1⟩
  replace HB:=Lib.hid (HB.out.ext hx1)
  replace HX:=Lib.hid (HX.out.trans hx1)
  clear hx1
  clear r0 r1 r2 r3 r4 r5 r6
  obtain ⟨r0,r1,r2,r3,r4,r5,r6⟩:=optBlk HB.out (Ext.refl _)
  by_cases z1:e1=0
  rotate_left
  ·have g:(e1 != 0)=true:=by rw [bne_iff_ne];exact z1
   have ee:=N2.out z1
   subst ee
   go_wp2_with fail
   go_ret
   exact ⟨rfl,HX.out⟩
  subst z1
  clear N2 HR
  go_wp2_with fail
  refine (HP.out _).mono ?_
  rintro e v6 ⟨rfl,hx1⟩
  replace HB:=Lib.hid (HB.out.ext hx1)
  replace HX:=Lib.hid (HX.out.trans hx1)
  clear hx1
  clear r0 r1 r2 r3 r4 r5 r6
  obtain ⟨r0,r1,r2,r3,r4,r5,r6⟩:=optBlk HB.out (Ext.refl _)
  by_cases z2:e2=0
  rotate_left
  ·have g:(e2 != 0)=true:=by rw [bne_iff_ne];exact z2
   have ee:=N3.out (by trivial) z2
   subst ee
   go_wp2_with fail
   go_ret
   exact ⟨rfl,HX.out⟩
  subst z2
  clear N3 HP
  go_wp2_with fail
  refine (HV.out _).mono ?_
  rintro e v10 ⟨rfl,hx1⟩
  replace HB:=Lib.hid (HB.out.ext hx1)
  replace HX:=Lib.hid (HX.out.trans hx1)
  clear hx1
  clear r0 r1 r2 r3 r4 r5 r6
  obtain ⟨r0,r1,r2,r3,r4,r5,r6⟩:=optBlk HB.out (Ext.refl _)
  by_cases z3:e3=0
  rotate_left
  ·have g:(e3 != 0)=true:=by rw [bne_iff_ne];exact z3
   have ee:=N4.out (by trivial) (by trivial) z3
   subst ee
   go_wp2_with fail
   go_ret
   exact ⟨rfl,HX.out⟩
  subst z3
  clear N4 HV
  replace N5:=Lib.hid (N5.out (by trivial) (by trivial) (by trivial))
  replace N6:=Lib.hid (N6.out (by trivial) (by trivial) (by trivial))
  by_cases b1:rn=[]
  rotate_left
  ·have q1:rn.isEmpty=false:=by simpa using b1
   have q:=bs_ne' b1
   have ee:=N5.out (by simp [optBad, *])
   subst ee
   clear N5 N6
   go_wp2_with fail
   go_quiet (fail)
   go_wp2_with fail
   go_ret
   exact ⟨rfl,HX.out.drewN _⟩
  subst b1
  by_cases b2:rd=[]
  rotate_left
  ·have q1:rd.isEmpty=false:=by simpa using b2
   have q:=bs_ne' b2
   have ee:=N5.out (by simp [optBad, *])
   subst ee
   clear N5 N6
   go_wp2_with fail
   go_quiet (fail)
   go_wp2_with fail
   go_ret
   exact ⟨rfl,HX.out.drewN _⟩
  subst b2
  by_cases b3:vn=[]
  rotate_left
  ·have q1:vn.isEmpty=false:=by simpa using b3
   have q:=bs_ne' b3
   have ee:=N5.out (by simp [optBad, *])
   subst ee
   clear N5 N6
   go_wp2_with fail
   go_quiet (fail)
   go_wp2_with fail
   go_ret
   exact ⟨rfl,HX.out.drewN _⟩
  subst b3
  by_cases b4:vd=[]
  rotate_left
  ·have q1:vd.isEmpty=false:=by simpa using b4
   have q:=bs_ne' b4
   have ee:=N5.out (by simp [optBad, *])
   subst ee
   clear N5 N6
   go_wp2_with fail
   go_quiet (fail)
   go_wp2_with fail
   go_ret
   exact ⟨rfl,HX.out.drewN _⟩
  subst b4
  have ee:=N6.out (by simp [optBad, *])
  subst ee
  clear N5 N6
  go_wp2_with fail
  go_quiet (fail)
  go_wp2_with fail
  go_ret
  exact ⟨rfl,HX.out.drewN _⟩
 ·have qo:=bs_ne' h0
  have qe:ot.isEmpty=false:=by simpa using h0
  cases nm
  ·have ee:=N1.out h0 (by trivial)
   subst ee
   clear N1 N2 N3 N4 N5 N6 HR HP HV
   go_enter Tryz.func47,Tryz.ntmps47
   obtain ⟨r0,r1,r2,r3,r4,r5,r6⟩:=optBlk HB.out (Ext.refl _)
   go_wp2_with fail
   refine (HNm.out _).mono ?_
   rintro e v0 ⟨rfl,rfl⟩
   go_wp2_with fail
   go_ret
   exact ⟨rfl,HX.out⟩
  replace N2:=Lib.hid (N2.out (.inr rfl))
  replace N3:=Lib.hid (N3.out (.inr rfl))
  replace N4:=Lib.hid (N4.out (.inr rfl))
  replace N5:=Lib.hid (N5.out (.inr rfl))
  replace N6:=Lib.hid (N6.out (.inr rfl))
  clear N1
  go_enter Tryz.func47,Tryz.ntmps47
  obtain ⟨r0,r1,r2,r3,r4,r5,r6⟩:=optBlk HB.out (Ext.refl _)
  go_wp2_with fail
  refine (HNm.out _).mono ?_
  rintro e v0 ⟨rfl,rfl⟩
  go_wp2_with fail
  refine (HR.out _).mono ?_
  rintro e v20 ⟨rfl,hx1⟩
  replace HB:=Lib.hid (HB.out.ext hx1)
  replace HX:=Lib.hid (HX.out.trans hx1)
  clear hx1
  clear r0 r1 r2 r3 r4 r5 r6
  obtain ⟨r0,r1,r2,r3,r4,r5,r6⟩:=optBlk HB.out (Ext.refl _)
  by_cases z1:e1=0
  rotate_left
  ·have g:(e1 != 0)=true:=by rw [bne_iff_ne];exact z1
   have ee:=N2.out z1
   subst ee
   go_wp2_with fail
   go_ret
   exact ⟨rfl,HX.out⟩
  subst z1
  clear N2 HR
  go_wp2_with fail
  refine (HP.out _).mono ?_
  rintro e v24 ⟨rfl,hx1⟩
  replace HB:=Lib.hid (HB.out.ext hx1)
  replace HX:=Lib.hid (HX.out.trans hx1)
  clear hx1
  clear r0 r1 r2 r3 r4 r5 r6
  obtain ⟨r0,r1,r2,r3,r4,r5,r6⟩:=optBlk HB.out (Ext.refl _)
  by_cases z2:e2=0
  rotate_left
  ·have g:(e2 != 0)=true:=by rw [bne_iff_ne];exact z2
   have ee:=N3.out (by trivial) z2
   subst ee
   go_wp2_with fail
   go_ret
   exact ⟨rfl,HX.out⟩
  subst z2
  clear N3 HP
  go_wp2_with fail
  refine (HV.out _).mono ?_
  rintro e v28 ⟨rfl,hx1⟩
  replace HB:=Lib.hid (HB.out.ext hx1)
  replace HX:=Lib.hid (HX.out.trans hx1)
  clear hx1
  clear r0 r1 r2 r3 r4 r5 r6
  obtain ⟨r0,r1,r2,r3,r4,r5,r6⟩:=optBlk HB.out (Ext.refl _)
  by_cases z3:e3=0
  rotate_left
  ·have g:(e3 != 0)=true:=by rw [bne_iff_ne];exact z3
   have ee:=N4.out (by trivial) (by trivial) z3
   subst ee
   go_wp2_with fail
   go_ret
   exact ⟨rfl,HX.out⟩
  subst z3
  clear N4 HV
  replace N5:=Lib.hid (N5.out (by trivial) (by trivial) (by trivial))
  replace N6:=Lib.hid (N6.out (by trivial) (by trivial) (by trivial))
  by_cases b1:rn=[]
  rotate_left
  ·have q1:rn.isEmpty=false:=by simpa using b1
   have q:=bs_ne' b1
   have ee:=N6.out (by simp [optBad, *])
   subst ee
   clear N5 N6
   go_wp2_with fail
   go_quiet (fail)
   go_wp2_with fail
   go_ret
   exact ⟨rfl,HX.out.drewN _⟩
  subst b1
  by_cases b2:rd=[]
  rotate_left
  ·have q1:rd.isEmpty=false:=by simpa using b2
   have q:=bs_ne' b2
   have ee:=N6.out (by simp [optBad, *])
   subst ee
   clear N5 N6
   go_wp2_with fail
   go_quiet (fail)
   go_wp2_with fail
   go_ret
   exact ⟨rfl,HX.out.drewN _⟩
  subst b2
  have ee:=N5.out (by simp [optBad, *])
  subst ee
  clear N5 N6
  go_wp2_with fail
  go_quiet (fail)
  go_wp2_with fail
  go_ret
  exact ⟨rfl,HX.out.drewN _⟩
end
end Go.Proofs.YthgpheopnhajaaaGreatDoor
