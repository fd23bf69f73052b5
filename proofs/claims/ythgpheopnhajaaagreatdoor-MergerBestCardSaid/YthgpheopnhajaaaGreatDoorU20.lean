/- The seat's texts, part U20. -/
import Derived.Test.YthgpheopnhajaaaGreatDoorU9
import Derived.Test.YthgpheopnhajaaaGreatDoorU14
import Derived.Test.YthgpheopnhajaaaGreatDoorU15
import Derived.Test.YthgpheopnhajaaaGreatDoorU19
import Derived.BigQuiet
import Derived.RangeFuncStops
import Derived.Deep.RegionHeld3
import Derived.OrdersIn
set_option maxRecDepth 100000
set_option maxHeartbeats 8000000
namespace Go.Proofs.YthgpheopnhajaaaGreatDoor
section
open Go.RowKit Go.Shelf
attribute [local go_sem] size_bs toList_bs
def longF (f:Fr):Bool:=decide (13<f.num.length) || decide (13<f.den.length)
def greatO (o:OptV):Bool:=decide (24<o.other.length) || (longF o.r || longF o.p || longF o.v)
theorem longF_no {f:Fr} (h:longF f=false):f.num.length≤13∧f.den.length≤13:=by
 unfold longF at h;simp at h;omega
theorem longF_n {f:Fr} (h:13<f.num.length):longF f=true:=by unfold longF;simp [h]
theorem longF_d {f:Fr} (h:13<f.den.length):longF f=true:=by unfold longF;simp [h]
theorem longF_k {f:Fr} (h:¬ 13<f.num.length) (h2:¬ 13<f.den.length):longF f=false:=by unfold longF;simp;omega
theorem greatO_small {o:OptV} (h:greatO o=false):OptSm 24 o:=by
 unfold greatO at h
 simp only [Bool.or_eq_false_iff,decide_eq_false_iff_not] at h
 obtain ⟨h0,⟨h1,h2⟩,h3⟩:=h
 obtain ⟨a,b⟩:=longF_no h1
 obtain ⟨c,d⟩:=longF_no h2
 obtain ⟨e,f⟩:=longF_no h3
 exact ⟨by omega,by omega,by omega,by omega,by omega,by omega,by omega⟩
theorem rfLong3 (r p v:Fr) (g:Nat) (w:World) (hA:Blk w g 26 #[.string (bs r.num),.string (bs r.den),.string (bs p.num),.string (bs p.den),.string (bs v.num),.string (bs v.den)]) :
  Calls Tryz.prog 92 #[.slice (some ⟨g,0,none⟩) 3 3] w fun e w'=>e = .returned (.bool (longF r || longF p || longF v))∧Ext w w':=by
 have HA:=Lib.hid hA
 have HR:Hid (∀ (j:Nat) (f:Fr),[r,p,v][j]? = some f→longF f=true→(longF r || longF p || longF v)=true):=Lib.hid (fun j f hj hl=>by
  match j,hj with
  |0,hj=>simp at hj;subst hj;simp [hl]
  |1,hj=>simp at hj;subst hj;simp [hl]
  |2,hj=>simp at hj;subst hj;simp [hl]
  |n+3,hj=>simp at hj)
 have HN:Hid ((∀ (j:Nat) (f:Fr),j<3→[r,p,v][j]? = some f→longF f=false)→(longF r || longF p || longF v)=false):=Lib.hid (fun h=>by
  rw [h 0 r (by omega) rfl,h 1 p (by omega) rfl,h 2 v (by omega) rfl];rfl)
 clear hA
 generalize (longF r || longF p || longF v)=res at *
 have HX:Hid (Ext w w):=Lib.hid (Ext.refl _)
 go_enter Tryz.func92,Tryz.ntmps92
 go_wp2_with fail
 go_loopw [3] (fun i wr=>∃ k:Nat,k≤3∧i = .int .i64 k∧Ext w wr∧∀ (j:Nat) (f:Fr),j<k→[r,p,v][j]? = some f→longF f=false) (fun i _=>3-(intOf i).toNat)
 case atStart=>exact ⟨0,by omega,rfl,HX.out,fun j f hj=>absurd hj (by omega)⟩
 case round =>
  clear HX
  obtain ⟨k,hk,rfl,hx,ho⟩:=hrel
  have HX:=Lib.hid hx
  have HO:=Lib.hid ho
  clear ho
  replace HA:=Lib.hid (HA.out.ext hx)
  clear hx
  obtain rfl | rfl | rfl | rfl:k=0∨k=1∨k=2∨k=3:=by omega
  ·skip
   have a0:=HA.out.cell 0
   have a1:=HA.out.cell 1
   simp only [List.getElem?_toArray,List.getElem?_cons_zero,List.getElem?_cons_succ] at a0 a1
   clear HA
   by_cases y1:13<(r).num.length
   ·have g:decide ((13:Int)<(((r).num.length:Nat):Int))=true:=by rw [decide_eq_true_iff];omega
    have e:=HR.out 0 _ rfl (longF_n y1)
    subst e
    clear HR HO
    go_wp2_with fail
    go_ret
    exact ⟨rfl,HX.out⟩
   have g:decide ((13:Int)<(((r).num.length:Nat):Int))=false:=by rw [decide_eq_false_iff_not];omega
   by_cases y2:13<(r).den.length
   ·have g3:decide ((13:Int)<(((r).den.length:Nat):Int))=true:=by rw [decide_eq_true_iff];omega
    have e:=HR.out 0 _ rfl (longF_d y2)
    subst e
    clear HR HO
    go_wp2_with fail
    go_ret
    exact ⟨rfl,HX.out⟩
   have g3:decide ((13:Int)<(((r).den.length:Nat):Int))=false:=by rw [decide_eq_false_iff_not];omega
   have HO2:Hid (∀ j f,j<0+1→[r,p,v][j]? = some f→longF f=false):=Lib.hid (fun j f hj hf=>by
    by_cases e:j=0
    ·subst e
     simp at hf
     subst hf
     exact longF_k y1 y2
    ·exact HO.out j f (by omega) hf)
   clear HR HO
   go_wp2_with fail
   exact ⟨⟨0+1,by omega,by go_num,HX.out,HO2.out⟩,by simp [intOf]⟩
  ·skip
   have a0:=HA.out.cell 2
   have a1:=HA.out.cell 3
   simp only [List.getElem?_toArray,List.getElem?_cons_zero,List.getElem?_cons_succ] at a0 a1
   clear HA
   by_cases y1:13<(p).num.length
   ·have g:decide ((13:Int)<(((p).num.length:Nat):Int))=true:=by rw [decide_eq_true_iff];omega
    have e:=HR.out 1 _ rfl (longF_n y1)
    subst e
    clear HR HO
    go_wp2_with fail
    go_ret
    exact ⟨rfl,HX.out⟩
   have g:decide ((13:Int)<(((p).num.length:Nat):Int))=false:=by rw [decide_eq_false_iff_not];omega
   by_cases y2:13<(p).den.length
   ·have g3:decide ((13:Int)<(((p).den.length:Nat):Int))=true:=by rw [decide_eq_true_iff];omega
    have e:=HR.out 1 _ rfl (longF_d y2)
    subst e
    clear HR HO
    go_wp2_with fail
    go_ret
    exact ⟨rfl,HX.out⟩
   have g3:decide ((13:Int)<(((p).den.length:Nat):Int))=false:=by rw [decide_eq_false_iff_not];omega
   have HO2:Hid (∀ j f,j<1+1→[r,p,v][j]? = some f→longF f=false):=Lib.hid (fun j f hj hf=>by
    by_cases e:j=1
    ·subst e
     simp at hf
     subst hf
     exact longF_k y1 y2
    ·exact HO.out j f (by omega) hf)
   clear HR HO
   go_wp2_with fail
   exact ⟨⟨1+1,by omega,by go_num,HX.out,HO2.out⟩,by simp [intOf]⟩
  ·skip
   have a0:=HA.out.cell 4
   have a1:=HA.out.cell 5
   simp only [List.getElem?_toArray,List.getElem?_cons_zero,List.getElem?_cons_succ] at a0 a1
   clear HA
   by_cases y1:13<(v).num.length
   ·have g:decide ((13:Int)<(((v).num.length:Nat):Int))=true:=by rw [decide_eq_true_iff];omega
    have e:=HR.out 2 _ rfl (longF_n y1)
    subst e
    clear HR HO
    go_wp2_with fail
    go_ret
    exact ⟨rfl,HX.out⟩
   have g:decide ((13:Int)<(((v).num.length:Nat):Int))=false:=by rw [decide_eq_false_iff_not];omega
   by_cases y2:13<(v).den.length
   ·have g3:decide ((13:Int)<(((v).den.length:Nat):Int))=true:=by rw [decide_eq_true_iff];omega
    have e:=HR.out 2 _ rfl (longF_d y2)
    subst e
    clear HR HO
    go_wp2_with fail
    go_ret
    exact ⟨rfl,HX.out⟩
   have g3:decide ((13:Int)<(((v).den.length:Nat):Int))=false:=by rw [decide_eq_false_iff_not];omega
   have HO2:Hid (∀ j f,j<2+1→[r,p,v][j]? = some f→longF f=false):=Lib.hid (fun j f hj hf=>by
    by_cases e:j=2
    ·subst e
     simp at hf
     subst hf
     exact longF_k y1 y2
    ·exact HO.out j f (by omega) hf)
   clear HR HO
   go_wp2_with fail
   exact ⟨⟨2+1,by omega,by go_num,HX.out,HO2.out⟩,by simp [intOf]⟩
  ·have e:=HN.out HO.out
   subst e
   clear HR HO HA
   go_wp2_with fail
   go_ret
   exact ⟨rfl,HX.out⟩
end
section
open Go.RowKit Go.Shelf
attribute [local go_sem] size_bs toList_bs
theorem rfGreatO (o:OptV):PureR 35 #[ov o] (.bool (greatO o)):=by
 intro w
 have HB:=Lib.hid (Blk.new w 50 (oc o))
 have HX:Hid (Ext w (w.alloc (.cells (oc o) 50))):=Lib.hid (Ext.new _ _)
 have GL:Hid (24<o.other.length→greatO o=true):=Lib.hid (fun h=>by unfold greatO;simp [h])
 have GS:Hid (¬ 24<o.other.length→greatO o=(longF o.r || longF o.p || longF o.v)):=Lib.hid (fun h=>by unfold greatO;simp [h])
 generalize greatO o=res at *
 go_enter Tryz.func35,Tryz.ntmps35
 obtain ⟨r0,r1,r2,r3,r4,r5,r6⟩:=optBlk HB.out (Ext.refl _)
 by_cases h:24<o.other.length
 ·have g:decide ((24:Int)<((o.other.length:Nat):Int))=true:=by rw [decide_eq_true_iff];omega
  have e:=GL.out h
  subst e
  clear GL GS
  go_wp2_with fail
  go_ret
  exact ⟨rfl,HX.out⟩
 have g:decide ((24:Int)<((o.other.length:Nat):Int))=false:=by rw [decide_eq_false_iff_not];omega
 have e:=GS.out h
 subst e
 clear GL GS
 go_wp2_with fail
 refine (rfLong3 o.r o.p o.v _ _ (Blk.newAt _ _ _ _ (by simp))).mono ?_
 rintro e w1 ⟨rfl,hx1⟩
 have HX1:=Lib.hid (HX.out.trans ((Ext.new _ _).trans hx1))
 clear hx1
 go_wp2_with fail
 go_ret
 exact ⟨rfl,HX1.out⟩
theorem idxFuncO (kf:Nat) (cb:Array Value) (ek:∀ args w,(callFunc kf args).run Tryz.prog w = .ok (.enter kf args) w) (p:OptV→Bool) (ls:List OptV) (A:Option Addr) (c:Nat) (w:World) (hA:RdO w A ls) (hn:ls.length≤1000000)
  (hF:∀ x ∈ ls,∀ W,Ext w W→Calls Tryz.prog kf (#[ov x]++cb) W fun e w'=>e = .returned (.bool (p x))∧Ext W w') :
  Calls Tryz.prog 98 #[.slice A ls.length c,.func (.func kf) #[] cb] w fun e w'=>e = .returned (.int .i64 (idxZ p ls))∧Ext w w':=by
 have HA:=Lib.hid hA
 have HF:=Lib.hid hF
 clear hA hF
 go_enter Tryz.func98,Tryz.ntmps98
 go_wp2_with fail
 go_loopw [8,5] (fun i _ wr=>∃ k:Nat,k≤ls.length∧i = .int .i64 k∧(∀ x ∈ ls.take k,p x=false)∧Ext w wr) (fun i _ _=>ls.length-(intOf i).toNat)
 case atStart=>exact ⟨0,by omega,rfl,by simp,Ext.refl _⟩
 case round =>
  obtain ⟨k,hk,rfl,hz,hx⟩:=hrel
  have HZ:=Lib.hid hz
  have HX:=Lib.hid hx
  clear hz hx
  by_cases hlt:k<ls.length
  ·obtain ⟨b,o,rfl,hb,c0,c1,c2,c3,c4,c5,c6⟩:=(HA.out.ext HX.out).at_ hlt
   have HC:=Lib.hid (HF.out (ls[k]'hlt) (List.getElem_mem _))
   have HN:Hid (p (ls[k]'hlt)=false→∀ x ∈ ls.take (k+1),p x=false):=Lib.hid (fun h=>idx_next hlt HZ.out h)
   have HI:Hid (p (ls[k]'hlt)=true→idxZ p ls=k):=Lib.hid (fun h=>idx_hit hlt HZ.out h)
   generalize (ls[k]'hlt)=x at *
   go_wp2_with fail
   refine (HC.out _ HX.out).mono ?_
   rintro e w1 ⟨rfl,hx1⟩
   replace HX:=Lib.hid (HX.out.trans hx1)
   clear hx1
   cases hp:p x
   ·have HN1:=Lib.hid (HN.out hp)
    clear hp
    go_wp2_with fail
    go_roundw
    case rel=>exact ⟨k+1,by omega,by go_num,HN1.out,HX.out⟩
    case measure=>simp [intOf];omega
   ·have HI1:=Lib.hid (HI.out hp)
    clear hp
    go_wp2_with fail
    go_ret
    exact ⟨by rw [HI1.out];rfl,HX.out⟩
  ·have HI:Hid (idxZ p ls = -1):=Lib.hid (idx_miss (by have:=HZ.out;rwa [List.take_of_length_le (by omega)] at this))
   go_wp2_with fail
   go_ret
   exact ⟨by rw [HI.out];rfl,HX.out⟩
theorem contFuncO (kf:Nat) (cb:Array Value) (ek:∀ args w,(callFunc kf args).run Tryz.prog w = .ok (.enter kf args) w) (p:OptV→Bool) (ls:List OptV) (A:Option Addr) (c:Nat) (w:World) (hA:RdO w A ls) (hn:ls.length≤1000000)
  (hF:∀ x ∈ ls,∀ W,Ext w W→Calls Tryz.prog kf (#[ov x]++cb) W fun e w'=>e = .returned (.bool (p x))∧Ext W w') :
  Calls Tryz.prog 40 #[.slice A ls.length c,.func (.func kf) #[] cb] w fun e w'=>e = .returned (.bool (ls.any p))∧Ext w w':=by
 have HI:=Lib.hid (idxFuncO kf cb ek p ls A c w hA hn hF)
 have HZ:Hid (decide (0≤idxZ p ls)=ls.any p):=Lib.hid (idx_any p ls)
 generalize ls.any p=b at *
 generalize idxZ p ls=z at *
 clear hA hF
 go_enter Tryz.func40,Tryz.ntmps40
 go_wp2_with fail
 refine HI.out.mono ?_
 rintro e w1 ⟨rfl,hx1⟩
 have HX:=Lib.hid hx1
 clear hx1
 go_wp2_with fail
 go_ret
 exact ⟨by rw [← HZ.out];rfl,HX.out⟩
theorem greatAny (os:List OptV) (A:Option Addr) (c:Nat) (w:World) (hA:RdO w A os) (hn:os.length≤1000000):Calls Tryz.prog 40 #[.slice A os.length c,.func (.func 35) #[] #[]] w fun e w'=>e = .returned (.bool (os.any greatO))∧Ext w w' :=
 contFuncO 35 #[] (fun _ _=>by rfl) greatO os A c w hA hn (fun x _ W _=>rfGreatO x W)
end
section
open Go.RowKit Go.Shelf
attribute [local go_sem] size_bs toList_bs
def longI (a:Bs):Bool:=decide (13<(a.length:Int))
theorem rfLongI (a:Bs):PureR 70 #[.string (bs a)] (.bool (longI a)):=by
 intro w
 go_enter Tryz.func70,Tryz.ntmps70
 go_wp2_with fail
 go_ret
 exact ⟨rfl,Ext.refl _⟩
theorem mgLawLong (l:List Bs) (A:Option Addr) (c:Nat) (w:World) (hA:RdS w A l) (hn:l.length≤1000000):Calls Tryz.prog 17 #[.slice A l.length c] w fun e w'=>e = .returned (.bool (l.any longI))∧Ext w w':=by
 have K:=Lib.hid (contFuncI 70 #[] (fun _ _=>by rfl) longI l A c w hA hn (fun x _ W _=>rfLongI x W))
 generalize l.any longI=b at *
 have HX:Hid (Ext w w):=Lib.hid (Ext.refl _)
 clear hA
 go_enter Tryz.func17,Tryz.ntmps17
 go_wp2_with fail
 refine (K.out).mono ?_
 rintro e v1 ⟨rfl,hx1⟩
 replace HX:=Lib.hid (HX.out.trans hx1)
 clear hx1
 go_wp2_with fail
 go_ret
 exact ⟨rfl,HX.out⟩
end
section
open Go.RowKit Go.Shelf
attribute [local go_sem] size_bs toList_bs
def AwakeOK:Prop:=∀ W,Env W→Calls Tryz.prog 13 #[] W fun e w'=>e = .returned (.bool true)∧Ext W w'
theorem walkOptions (haw:AwakeOK) (os:List OptV) (A:Option Addr) (c:Nat) (q:Bs) (w:World) (hA:RdO w A os) (hc:os.length≤c) (hn:os.length≤1000000) (hE:Env w) :
  Calls Tryz.prog 10 #[.slice A os.length c,.string (bs q)] w fun e w'=>e = .returned (.bool true)∧Ext w w':=by
 have HE:=Lib.hid hE
 have HAW:=Lib.hid haw
 have HX:Hid (Ext w w):=Lib.hid (Ext.refl _)
 by_cases h10:10<os.length
 ·have g:decide ((10:Int)<(os.length:Int))=true:=by rw [decide_eq_true_iff];omega
  clear hA hE haw
  go_enter Tryz.func10,Tryz.ntmps10
  go_wp2_with fail
  refine (HAW.out _ (HE.out.ext HX.out)).mono ?_
  rintro e v2 ⟨rfl,hx1⟩
  replace HX:=Lib.hid (HX.out.trans hx1)
  clear hx1
  go_wp2_with fail
  go_ret
  exact ⟨rfl,HX.out⟩
 have g:decide ((10:Int)<(os.length:Int))=false:=by rw [decide_eq_false_iff_not];omega
 have GA:=Lib.hid (greatAny os A c w hA hn)
 have LQ:=Lib.hid (fun g W (h:Blk W g 24 #[.string (bs q)])=>mgLawLong [q] (some ⟨g,0,none⟩) 1 W (listS h) (by simp))
 cases hg:os.any greatO
 rotate_left
 ·rw [hg] at GA
  clear hA hE haw hg LQ
  go_enter Tryz.func10,Tryz.ntmps10
  go_wp2_with fail
  refine (GA.out).mono ?_
  rintro e v4 ⟨rfl,hx1⟩
  replace HX:=Lib.hid (HX.out.trans hx1)
  clear hx1
  go_wp2_with fail
  refine (HAW.out _ (HE.out.ext HX.out)).mono ?_
  rintro e v6 ⟨rfl,hx1⟩
  replace HX:=Lib.hid (HX.out.trans hx1)
  clear hx1
  go_wp2_with fail
  go_ret
  exact ⟨rfl,HX.out⟩
 have hsm:∀ x ∈ os,OptSm 24 x:=fun x hx=>greatO_small (by
  have:=List.any_eq_false.1 hg x hx
  simpa using this)
 rw [hg] at GA
 have eq:[q].any longI=longI q:=by simp
 rw [eq] at LQ
 clear eq hg
 simp only [List.length_cons,List.length_nil,Nat.zero_add] at LQ
 cases hq:longI q
 rotate_left
 ·rw [hq] at LQ
  clear hA hE haw hq hsm
  go_enter Tryz.func10,Tryz.ntmps10
  go_wp2_with fail
  refine (GA.out).mono ?_
  rintro e v8 ⟨rfl,hx1⟩
  replace HX:=Lib.hid (HX.out.trans hx1)
  clear hx1
  go_wp2_with fail
  refine (LQ.out _ _ (Blk.new _ _ _)).mono ?_
  rintro e w2 ⟨rfl,hx1⟩
  replace HX:=Lib.hid (HX.out.trans ((Ext.new _ _).trans hx1))
  clear hx1
  go_wp2_with fail
  refine (HAW.out _ (HE.out.ext HX.out)).mono ?_
  rintro e v10 ⟨rfl,hx1⟩
  replace HX:=Lib.hid (HX.out.trans hx1)
  clear hx1
  go_wp2_with fail
  go_ret
  exact ⟨rfl,HX.out⟩
 rw [hq] at LQ
 have hq13:q.length≤24:=by unfold longI at hq;simp at hq;omega
 have hsm2:∀ x ∈ os,OptSm 1000 x:=fun x hx=>by
  obtain ⟨s0,s1,s2,s3,s4,s5,s6⟩:=hsm x hx
  exact ⟨by omega,by omega,by omega,by omega,by omega,by omega,by omega⟩
 have hsm9:∀ x ∈ os,OptSm 9000 x:=fun x hx=>by
  obtain ⟨s0,s1,s2,s3,s4,s5,s6⟩:=hsm x hx
  exact ⟨by omega,by omega,by omega,by omega,by omega,by omega,by omega⟩
 have B1:=Lib.hid (fun W hx=>mgBest os A c W (hA.ext hx) hsm2 hc (by omega) (hE.ext hx))
 have B2:=Lib.hid (fun W hx=>rfBest os A c W (hA.ext hx) hsm2 hc (by omega))
 have HT1:=Lib.hid (fun k (hk:k<os.length)=>mgTerms (L:=24) (by omega) (by omega) (os[k]'hk) q (hsm _ (List.getElem_mem hk)) hq13)
 have HT2:=Lib.hid (fun k (hk:k<os.length)=>rfTerms (L:=24) (by omega) (by omega) (os[k]'hk) q (hsm _ (List.getElem_mem hk)) hq13)
 have HW1:=Lib.hid (fun k (hk:k<os.length)=>mgWorth (L:=24) (by omega) (by omega) (os[k]'hk) (hsm _ (List.getElem_mem hk)))
 have HW2:=Lib.hid (fun k (hk:k<os.length)=>rfWorth (L:=24) (by omega) (by omega) (os[k]'hk) (hsm _ (List.getElem_mem hk)))
 have HK1:=Lib.hid (fun k (hk:k<os.length)=>mgOptCheck (os[k]'hk) (hsm9 _ (List.getElem_mem hk)))
 have HK2:=Lib.hid (fun k (hk:k<os.length)=>rfOptCheck (os[k]'hk) (hsm9 _ (List.getElem_mem hk)))
 have HA:=Lib.hid hA
 generalize bestV os=bv at *
 obtain ⟨z1,z2⟩:=bv
 dsimp only at B1 B2
 clear hA hE haw hq hsm hsm2 hsm9 hq13
 go_enter Tryz.func10,Tryz.ntmps10
 go_wp2_with fail
 refine (GA.out).mono ?_
 rintro e v12 ⟨rfl,hx1⟩
 replace HX:=Lib.hid (HX.out.trans hx1)
 clear hx1
 go_wp2_with fail
 refine (LQ.out _ _ (Blk.new _ _ _)).mono ?_
 rintro e w2 ⟨rfl,hx1⟩
 replace HX:=Lib.hid (HX.out.trans ((Ext.new _ _).trans hx1))
 clear hx1 GA LQ
 go_wp2_with fail
 refine (B1.out _ HX.out).mono ?_
 rintro e v13 ⟨rfl,hx1⟩
 replace HX:=Lib.hid (HX.out.trans hx1)
 clear hx1
 go_wp2_with fail
 refine (B2.out _ HX.out).mono ?_
 rintro e v14 ⟨rfl,hx1⟩
 replace HX:=Lib.hid (HX.out.trans hx1)
 clear hx1
 clear B1 B2
 go_wp2_with fail
 go_loopw [56,10,11,12,13,14,15,16,17,18,19,20,21,22] (fun i _ _ _ _ _ _ _ _ _ _ _ _ _ wr=>∃ k:Nat,k≤os.length∧i = .int .i64 k∧Ext w wr) (fun i _ _ _ _ _ _ _ _ _ _ _ _ _ _=>os.length-(intOf i).toNat)
 case atStart=>exact ⟨0,by omega,rfl,HX.out⟩
 case round =>
  clear HX
  obtain ⟨k,hk,rfl,hx⟩:=hrel
  have HX:=Lib.hid hx
  clear hx
  by_cases hlt:k<os.length
  ·obtain ⟨b,o,rfl,hb,c0,c1,c2,c3,c4,c5,c6⟩:=(HA.out.ext HX.out).at_ hlt
   have T1:=Lib.hid (HT1.out k hlt)
   have T2:=Lib.hid (HT2.out k hlt)
   have W1:=Lib.hid (HW1.out k hlt)
   have W2:=Lib.hid (HW2.out k hlt)
   have K1:=Lib.hid (HK1.out k hlt)
   have K2:=Lib.hid (HK2.out k hlt)
   have hki:(k:Int)<(os.length:Int):=by omega
   have hk0:(0:Int)≤(k:Int):=by omega
   clear HT1 HT2 HW1 HW2 HK1 HK2 HAW
   generalize termsA (os[k]'hlt) q=T at *
   generalize worthV (os[k]'hlt)=V at *
   generalize optE (os[k]'hlt)=oe at *
   generalize (os[k]'hlt)=x at *
   obtain ⟨tx,ty,⟨tn,td⟩,te⟩:=T
   obtain ⟨⟨vn,vd⟩,ve⟩:=V
   dsimp only at T1 T2 W1 W2
   have HG:=Lib.hid (Blk.new wr 50 (oc x))
   replace HX:=Lib.hid (HX.out.alloc (.cells (oc x) 50))
   go_wp2_with fail
   refine (T1.out _ (HE.out.ext HX.out)).mono ?_
   rintro e V1 ⟨rfl,hx1⟩
   replace HG:=Lib.hid (HG.out.ext hx1)
   replace HX:=Lib.hid (HX.out.trans hx1)
   clear hx1
   have H13:=Lib.hid (Blk.new V1 26 #[.string (bs tn),.string (bs td)])
   replace HX:=Lib.hid (HX.out.alloc (.cells #[.string (bs tn),.string (bs td)] 26))
   replace HG:=Lib.hid (HG.out.alloc (.cells #[.string (bs tn),.string (bs td)] 26))
   obtain ⟨g0,g1,g2,g3,g4,g5,g6⟩:=optBlk HG.out (Ext.refl _)
   go_wp2_with fail
   refine (T2.out _).mono ?_
   rintro e V2 ⟨rfl,hx1⟩
   replace HG:=Lib.hid (HG.out.ext hx1)
   replace H13:=Lib.hid (H13.out.ext hx1)
   replace HX:=Lib.hid (HX.out.trans hx1)
   clear hx1
   clear g0 g1 g2 g3 g4 g5 g6
   have H17:=Lib.hid (Blk.new V2 26 #[.string (bs tn),.string (bs td)])
   replace HX:=Lib.hid (HX.out.alloc (.cells #[.string (bs tn),.string (bs td)] 26))
   replace HG:=Lib.hid (HG.out.alloc (.cells #[.string (bs tn),.string (bs td)] 26))
   replace H13:=Lib.hid (H13.out.alloc (.cells #[.string (bs tn),.string (bs td)] 26))
   obtain ⟨g0,g1,g2,g3,g4,g5,g6⟩:=optBlk HG.out (Ext.refl _)
   go_wp2_with fail
   refine (W1.out _ (HE.out.ext HX.out)).mono ?_
   rintro e V3 ⟨rfl,hx1⟩
   replace HG:=Lib.hid (HG.out.ext hx1)
   replace H13:=Lib.hid (H13.out.ext hx1)
   replace H17:=Lib.hid (H17.out.ext hx1)
   replace HX:=Lib.hid (HX.out.trans hx1)
   clear hx1
   clear g0 g1 g2 g3 g4 g5 g6
   have H19:=Lib.hid (Blk.new V3 26 #[.string (bs vn),.string (bs vd)])
   replace HX:=Lib.hid (HX.out.alloc (.cells #[.string (bs vn),.string (bs vd)] 26))
   replace HG:=Lib.hid (HG.out.alloc (.cells #[.string (bs vn),.string (bs vd)] 26))
   replace H13:=Lib.hid (H13.out.alloc (.cells #[.string (bs vn),.string (bs vd)] 26))
   replace H17:=Lib.hid (H17.out.alloc (.cells #[.string (bs vn),.string (bs vd)] 26))
   obtain ⟨g0,g1,g2,g3,g4,g5,g6⟩:=optBlk HG.out (Ext.refl _)
   go_wp2_with fail
   refine (W2.out _).mono ?_
   rintro e V4 ⟨rfl,hx1⟩
   replace HG:=Lib.hid (HG.out.ext hx1)
   replace H13:=Lib.hid (H13.out.ext hx1)
   replace H17:=Lib.hid (H17.out.ext hx1)
   replace H19:=Lib.hid (H19.out.ext hx1)
   replace HX:=Lib.hid (HX.out.trans hx1)
   clear hx1
   clear g0 g1 g2 g3 g4 g5 g6
   have H21:=Lib.hid (Blk.new V4 26 #[.string (bs vn),.string (bs vd)])
   replace HX:=Lib.hid (HX.out.alloc (.cells #[.string (bs vn),.string (bs vd)] 26))
   replace HG:=Lib.hid (HG.out.alloc (.cells #[.string (bs vn),.string (bs vd)] 26))
   replace H13:=Lib.hid (H13.out.alloc (.cells #[.string (bs vn),.string (bs vd)] 26))
   replace H17:=Lib.hid (H17.out.alloc (.cells #[.string (bs vn),.string (bs vd)] 26))
   replace H19:=Lib.hid (H19.out.alloc (.cells #[.string (bs vn),.string (bs vd)] 26))
   clear T1 T2 W1 W2 c0 c1 c2 c3 c4 c5 c6
   go_upto_region 14 with fail
   generalize V4.alloc (.cells #[.string (bs vn),.string (bs vd)] 26)=W at *
   generalize V4.heap.size=G4 at *
   generalize V3.heap.size=G3 at *
   generalize V2.heap.size=G2 at *
   generalize V1.heap.size=G1 at *
   generalize wr.heap.size=G0 at *
   obtain ⟨g0,g1,g2,g3,g4,g5,g6⟩:=optBlk HG.out (Ext.refl _)
   obtain ⟨p0,p1,_,_⟩:=frBlk H13.out (Ext.refl _)
   obtain ⟨p2,p3,_,_⟩:=frBlk H17.out (Ext.refl _)
   obtain ⟨p4,p5,_,_⟩:=frBlk H19.out (Ext.refl _)
   obtain ⟨p6,p7,_,_⟩:=frBlk H21.out (Ext.refl _)
   have HD:Hid (Ext W W.drew):=Lib.hid (Ext.refl W).drew
   go_region_held3 (fun w'=>w'.cell? ⟨G0,0,none⟩=some (.string (bs x.other))∧w'.cell? ⟨G0,1,none⟩=some (.string (bs x.r.num))∧w'.cell? ⟨G0,2,none⟩=some (.string (bs x.r.den))∧w'.cell? ⟨G0,3,none⟩=some (.string (bs x.p.num))∧w'.cell? ⟨G0,4,none⟩=some (.string (bs x.p.den))∧w'.cell? ⟨G0,5,none⟩=some (.string (bs x.v.num))∧w'.cell? ⟨G0,6,none⟩=some (.string (bs x.v.den))∧w'.cell? ⟨G1,0,none⟩=some (.string (bs tn))∧w'.cell? ⟨G1,1,none⟩=some (.string (bs td))∧w'.cell? ⟨G2,0,none⟩=some (.string (bs tn))∧w'.cell? ⟨G2,1,none⟩=some (.string (bs td))∧w'.cell? ⟨G3,0,none⟩=some (.string (bs vn))∧w'.cell? ⟨G3,1,none⟩=some (.string (bs vd))∧w'.cell? ⟨G4,0,none⟩=some (.string (bs vn))∧w'.cell? ⟨G4,1,none⟩=some (.string (bs vd)))
    (go_keep)
    (first
     |(go_at_call 46;((with_reducible refine (K1.out _ (HE.out.ext (HX.out.trans HD.out))).mono ?_);rintro e w5 ⟨rfl,hx⟩);(replace HD:=Lib.hid (HD.out.trans hx));(obtain ⟨g0,g1,g2,g3,g4,g5,g6⟩:=optBlk HG.out HD.out);(obtain ⟨p0,p1,_,_⟩:=frBlk H13.out HD.out);(obtain ⟨p2,p3,_,_⟩:=frBlk H17.out HD.out);(obtain ⟨p4,p5,_,_⟩:=frBlk H19.out HD.out);(obtain ⟨p6,p7,_,_⟩:=frBlk H21.out HD.out);clear hx)
     |(go_at_call 47;((with_reducible refine (K2.out _ ).mono ?_);rintro e w5 ⟨rfl,hx⟩);(replace HD:=Lib.hid (HD.out.trans hx));(obtain ⟨g0,g1,g2,g3,g4,g5,g6⟩:=optBlk HG.out HD.out);(obtain ⟨p0,p1,_,_⟩:=frBlk H13.out HD.out);(obtain ⟨p2,p3,_,_⟩:=frBlk H17.out HD.out);(obtain ⟨p4,p5,_,_⟩:=frBlk H19.out HD.out);(obtain ⟨p6,p7,_,_⟩:=frBlk H21.out HD.out);clear hx)
     |fail)
   all_goals
    go_wp2_with fail
    exact ⟨⟨k+1,by omega,by go_num,HX.out.trans HD.out⟩,by simp [intOf];omega⟩
  ·have hki:¬ (k:Int)<(os.length:Int):=by omega
   clear HT1 HT2 HW1 HW2 HK1 HK2
   go_wp2_with fail
   refine (HAW.out _ (HE.out.ext HX.out)).mono ?_
   rintro e v36 ⟨rfl,hx1⟩
   replace HX:=Lib.hid (HX.out.trans hx1)
   clear hx1
   go_wp2_with fail
   go_ret
   exact ⟨rfl,HX.out⟩
end
section
open Go.RowKit Go.Shelf
attribute [local go_sem] size_bs toList_bs Oper.semAt_some
theorem lotOf (A:Option Addr) (n c:Nat) (ins:Bs) (w:World) :
  Calls Tryz.prog 81 #[.slice A n c,.string (bs ins)] w fun e w'=>e = .returned (.func (.func 141) #[] #[.pointer (some ⟨w.heap.size,0,none⟩),.pointer (some ⟨w.heap.size+1,0,none⟩)])∧w'=(w.alloc (.cells #[.slice A n c] 22)).alloc (.cells #[.string (bs ins)] 9):=by
 go_enter Tryz.func81,Tryz.ntmps81
 go_wp2_with fail
 go_ret
 exact ⟨rfl,rfl⟩
def YldEnds (J:Nat→World→Prop) (k:Nat) (e:Ending) (W':World):Prop:=e = .returned (.bool true)∧J (k+1) W'
theorem lotOf1 (n l B:Nat) (w:World) (ls:List LotV) (A:Option Addr) (c:Nat) (ins:Bs) (hA:RdL w A ls) (hn:ls.length≤1000000) (J:Nat→World→Prop)
  (hJ:∀ k W,J k W→Ext w W∧Blk W B 22 #[.slice A ls.length c]∧Blk W (B+1) 9 #[.string (bs ins)]) (hX:∀ k W W',J k W→Ext W W'→J k W')
  (hY:∀ k (hk:k<ls.length) W,(ls[k]'hk).ins=ins→J k W→YieldAt Fence.wide (n-1) Tryz.prog l #[lv (ls[k]'hk)] W (YldEnds J k))
  (hS:∀ k (hk:k<ls.length) W,(ls[k]'hk).ins≠ins→J k W→J (k+1) W) (W:World) (h0:J 0 W) :
  CallsIn Fence.wide n Tryz.prog 141 #[.func (.yield l) #[] #[],.pointer (some ⟨B,0,none⟩),.pointer (some ⟨B+1,0,none⟩)] W fun e W'=>(∃ v,e = .returned v)∧J ls.length W':=by
 have hfn:∀ k,Fence.wide.fn k:=fun _=>trivial
 have hdp:Fence.wide.depth.isSome=false:=rfl
 have HA:=Lib.hid hA
 have HJ:=Lib.hid hJ
 have HX:=Lib.hid hX
 have HY:=Lib.hid hY
 have HS:=Lib.hid hS
 have H0:=Lib.hid h0
 clear hA hJ hX hY hS h0
 obtain ⟨e0,b0,b1⟩:=HJ.out 0 W H0.out
 have q0:=b0.cell 0
 simp only [List.getElem?_toArray,List.getElem?_cons_zero] at q0
 clear e0 b0 b1
 refine callsIn_of_wp Tryz.func141 rfl trivial ?_ rfl
 simp only [Tryz.ntmps141,List.size_toArray,List.length_cons,List.length_nil,Nat.reduceAdd,Nat.reduceSub,Array.replicate_succ,Array.replicate_zero,List.push_toArray,List.append_toArray,List.nil_append,List.cons_append]
 gi_wp2
 gi_loopw [8,5] (fun i _ wr=>∃ k:Nat,k≤ls.length∧i = .int .i64 k∧J k wr) (fun i _ _=>ls.length-(intOf i).toNat)
 case atStart=>exact ⟨0,by omega,rfl,H0.out⟩
 case round =>
  clear H0 q0
  obtain ⟨k,hk,rfl,h⟩:=hrel
  obtain ⟨hx,b0,b1⟩:=HJ.out k wr h
  by_cases hlt:k<ls.length
  ·obtain ⟨b,o,rfl,hb,c0,c1,c2,c3,c4,c5,c6⟩:=(HA.out.ext hx).at_ hlt
   have HN:=Lib.hid (HX.out k wr (wr.alloc (.cells (lc (ls[k]'hlt)) 71)) h (Ext.new _ _))
   have q1:=(b1.alloc (.cells (lc (ls[k]'hlt)) 71)).cell 0
   have hlb:=b1.lt
   simp only [List.getElem?_toArray,List.getElem?_cons_zero] at q1
   by_cases hin:(ls[k]'hlt).ins=ins
   ·obtain ⟨fn,tmps,assign,body,hy,hR⟩:=HY.out k hlt _ hin HN.out
    have hbin:((ls[k]'hlt).ins == ins)=true:=by rw [beq_iff_eq];exact hin
    have HR:=Lib.hid hR
    clear hR hin h hx b0 b1 HN
    generalize ls[k]'hlt=x at *
    obtain ⟨xi,xn,xa,xo,xq,xc,xu⟩:=x
    gi_wp2
    refine HR.out.mono ?_
    rintro e W3 ⟨rfl,hJ3⟩
    have HJ3:=Lib.hid hJ3
    clear hJ3 hy HR
    gi_wp2
    go_roundw
    case rel=>exact ⟨k+1,by omega,by go_num,HJ3.out⟩
    case measure=>simp [intOf];omega
   ·have hbin:((ls[k]'hlt).ins == ins)=false:=by rw [beq_eq_false_iff_ne];exact hin
    have HJ3:=Lib.hid (HS.out k hlt _ hin HN.out)
    clear hin h hx b0 b1 HN
    generalize ls[k]'hlt=x at *
    obtain ⟨xi,xn,xa,xo,xq,xc,xu⟩:=x
    gi_wp2
    go_roundw
    case rel=>exact ⟨k+1,by omega,by go_num,HJ3.out⟩
    case measure=>simp [intOf];omega
  ·obtain rfl:k=ls.length:=by omega
   have HH:=Lib.hid h
   clear h b0 b1 hx
   gi_wp2
   go_end0
   exact ⟨⟨_,rfl⟩,HH.out⟩
end
section
open Go Go.RowKit
section
variable {P:Program} {Q:Exit→Act→World→Prop} {ops:Array Oper} {md:Region.Mode} {l n:Nat}
def plainOp:Op→Bool | .defer _=>false | _=>true
theorem semAt_plain {o:Oper} (h:plainOp o.op=true) (ro:Option Nat) (ρ:Operand→Value):o.semAt ro ρ=execOp ρ o:=by
 unfold Oper.semAt
 cases ro with
 |none=>rfl
 |some l =>
  split
  ·rename_i c _ he;rw [he] at h;simp [plainOp] at h
  ·rfl
theorem upon_in {o:Oper} {a:Act} {K K':Act→World→Prop} (hK:∀ a w,K a w→K' a w) (r:Result Next) (h:o.upon P a K Q r):o.uponIn (Fence.wide.inRound l) n P a K' Q r:=by
 cases r with
 |ok nx w' =>
  cases nx with
  |value v=>exact hK _ _ h
  |skip=>exact hK _ _ h
  |defer d=>exact hK _ _ h
  |enter f args =>
   refine ⟨(fun h=>by cases h),CallsIn.inRound l (callsIn_wide.2 (Calls.mono h ?_))⟩
   intro e w'' k
   cases e with
   |returned v=>exact hK _ _ k
   |panicked c=>exact k
   |outgrown=>exact k
  |row row args =>
   refine ⟨(fun h=>by cases h),?_⟩
   intro c cs _
   obtain ⟨v,w2,hv,hs⟩:=h c cs
   exact ⟨v,w2,hK _ _ hv,stepsIn_wide.2 hs⟩
  |_=>exact (h:False).elim
 |halt x w' =>
  cases x with
  |panic v=>exact h
  |_=>exact (h:False).elim
theorem op_in {i:Nat} {a:Act} {w:World} {K K':Act→World→Prop} (hK:∀ a w,K a w→K' a w) (hd:∀ o ∈ ops,plainOp o.op=true) (hlo:¬ LetsOut Q) (h:wpOp P ops Q i K a w):wpOpIn (Fence.wide.inRound l) n P ops Q i K' a w:=by
 unfold wpOp at h
 unfold wpOpIn
 cases ho:ops[i]? with
 |none=>rw [ho] at h;exact hK _ _ h
 |some o =>
  rw [ho] at h
  simp only at h ⊢
  have hp:=hd o (Array.mem_of_getElem? ho)
  split at h
  ·rename_i hw
   rw [if_pos hw]
   rcases h with h | h
   ·refine ⟨fun _ _=>trivial,?_⟩
    rw [semAt_plain hp]
    exact upon_in hK _ h
   ·exact absurd h.2 hlo
  ·rename_i hw
   rw [if_neg hw]
   exact ⟨fun _ _=>trivial,hK _ _ h⟩
theorem any_in (hd:∀ o ∈ ops,plainOp o.op=true) (hlo:¬ LetsOut Q):∀ (fuel:Nat) (listed:Array Bool) (a:Act) (w:World),wpAny P md ops Q fuel listed a w→wpAnyIn (Fence.wide.inRound l) n P md ops Q fuel listed a w
 |0,_,_,_,h=>h
 |fuel+1,_,_,_,h=>⟨h.1,fun i hi=>op_in (fun a w k=>any_in hd hlo fuel _ a w k) hd hlo (h.2 i hi)⟩
theorem region_in {id:Nat} {S:World→Prop} {a:Act} {w:World} (hm:P.follows .mixedOrders=true) (hd:∀ o ∈ ops,plainOp o.op=true) (hlo:¬ LetsOut Q) (hS:S w.drew)
  (h:S w.drew→wpAnyH P .any ops Q S ops.size (Array.replicate ops.size false) a w.drew):(Code.region id ops true).wpIn (Fence.wide.inRound l) n P Q a w :=
 wpIn_region_any hm (any_in hd hlo _ _ _ _ (wpAny_of_held _ _ _ _ (h hS)))
theorem roundEnds_calm {l:Nat} {rec:Loop} {R:Ending→World→Prop} {k:Nat}:¬ LetsOut (Exit.inBlock k (roundEnds l rec R)):=by
 rintro ⟨a,w,h⟩
 exact h
end
end
end Go.Proofs.YthgpheopnhajaaaGreatDoor
