/- The seat's texts, part U10. -/
import Derived.Test.YthgpheopnhajaaaGreatDoorU9
import Derived.RangeFuncStops
import Derived.Deep.RegionHeld3
set_option maxRecDepth 100000
set_option maxHeartbeats 8000000
namespace Go.Proofs.YthgpheopnhajaaaGreatDoor
section
open Go.RowKit Go.Shelf
attribute [local go_sem] size_bs toList_bs Oper.semAt_some
def MagAt (W:World) (g x:Nat):Prop:=∃ A c,Blk W g 122 #[.slice A (gr x).length c]∧RdU W A (gr x)∧(gr x).length≤c∧c≤maxLen
theorem RdU.slot {w:World} {A:Option Addr} {gs:List Nat} (h:RdU w A gs) {g:Nat} {t:TypeId} {B:Option Addr} {n c:Nat} (hb:Blk w g t #[.slice B n c]):0<gs.length→∀ b o,A=some ⟨b,o,none⟩→b≠g:=by
 intro hn b o e hbg
 subst e;subst hbg
 have h0:=Reads.cell h (j:=0) (u := .int .u64 (gs[0]'hn)) (by simp [ucells,hn])
 rw [Nat.add_zero,hb.cell o] at h0
 match o,h0 with
 |0,h0=>simp at h0
 |o+1,h0=>simp at h0
theorem RdU.put {w:World} {A:Option Addr} {gs:List Nat} (h:RdU w A gs) {l:Nat} {lp:Loop} (hl:w.heap[l]? = some (.loop lp)) (o':Obj):RdU (w.putObj l o') A gs:=by
 rcases Nat.eq_zero_or_pos gs.length with h0 | h0
 ·exact ⟨h.1,fun hn=>absurd hn (by omega)⟩
 ·exact Reads.put h hl (by simp) (by simpa [ucells] using h0) o'
theorem MagAt.ext {W W':World} {g x:Nat} (h:MagAt W g x) (hx:Ext W W'):MagAt W' g x:=by
 obtain ⟨A,c,h1,h2,h3,h4⟩:=h
 exact ⟨A,c,h1.ext hx,h2.ext hx,h3,h4⟩
theorem MagAt.far {W:World} {g x g':Nat} {B:Option Addr} {n c:Nat} (h:MagAt W g x) (hb:Blk W g' 122 #[.slice B n c]) (hne:g≠g') (u:Value):MagAt (W.setCell ⟨g',0,none⟩ u) g x:=by
 obtain ⟨A,c',h1,h2,h3,h4⟩:=h
 exact ⟨A,c',h1.far (p:=⟨g',0,none⟩) hne u,h2.far u (h2.slot hb),h3,h4⟩
theorem MagAt.set_ {W:World} {g x y:Nat} {A:Option Addr} {c:Nat} (h:MagAt W g y) (h2:RdU W A (gr x)) (h3:(gr x).length≤c) (h4:c≤maxLen):MagAt (W.setCell ⟨g,0,none⟩ (.slice A (gr x).length c)) g x:=by
 obtain ⟨A',c',k1,k2,k3,k4⟩:=h
 have hb:=k1.set_ 0 (.slice A (gr x).length c)
 exact ⟨A,c,hb,h2.far _ (h2.slot k1),h3,h4⟩
theorem MagAt.put {W:World} {g x l:Nat} {lp:Loop} (h:MagAt W g x) (hl:W.heap[l]? = some (.loop lp)) (o':Obj) (hne:g≠l):MagAt (W.putObj l o') g x:=by
 obtain ⟨A,c,h1,h2,h3,h4⟩:=h
 exact ⟨A,c,h1.put o' hne,h2.put hl o',h3,h4⟩
theorem MagAt.unique {W:World} {g x y:Nat} (h:MagAt W g x) (k:MagAt W g y):x=y:=by
 obtain ⟨A,c,h1,h2,_,_⟩:=h
 obtain ⟨A',c',k1,k2,_,_⟩:=k
 have e:some (Obj.cells #[Value.slice A (gr x).length c] 122 (0,0))=some (Obj.cells #[Value.slice A' (gr y).length c'] 122 (0,0)):=by
  unfold Blk at h1 k1;rw [← h1,← k1]
 simp only [Option.some.injEq,Obj.cells.injEq,Array.mk.injEq,List.cons.injEq,Value.slice.injEq,and_true] at e
 obtain ⟨rfl,hl,rfl⟩:=e
 apply gr_inj
 apply List.ext_getElem hl
 intro i hi1 hi2
 obtain ⟨b,o,e1,_,hc⟩:=h2.at_ hi1
 obtain ⟨b',o',e2,_,hc'⟩:=k2.at_ hi2
 rw [e1] at e2
 injection e2 with e2
 injection e2 with e3 e4
 subst e3;subst e4
 rw [hc] at hc'
 simp only [Option.some.injEq,Value.int.injEq,true_and] at hc'
 omega
structure GcAt (w:World) (g0 B:Nat) (lp:Loop) (x y o:Nat) (W:World):Prop where
 ext:Ext w W
 out:MagAt W g0 o
 m:MagAt W B x
 n:MagAt W (B+1) y
 D:W.heap[B+1+1]? = some (.deferred (some []))
 L:W.heap[B+1+1+1]? = some (.loop lp)
 lx:(gr x).length≤900000
 ly:(gr y).length≤900000
 lo:(gr o).length≤900000
 lw:w.heap.size≤g0
 lg:g0<B
section
variable {w:World} {g0 B:Nat} {lp lp':Loop} {x y o:Nat} {W W':World}
theorem GcAt.on (h:GcAt w g0 B lp x y o W) (hx:Ext W W'):GcAt w g0 B lp x y o W' :=
 ⟨h.ext.trans hx,h.out.ext hx,h.m.ext hx,h.n.ext hx,ext_heap h.D hx,ext_heap h.L hx,h.lx,h.ly,h.lo,h.lw,h.lg⟩
theorem GcAt.put (h:GcAt w g0 B lp x y o W):GcAt w g0 B lp' x y o (W.putObj (B+1+1+1) (.loop lp')):=by
 have hg:=h.lg
 have hw:=h.lw
 refine ⟨h.ext.putObj (by omega) _,h.out.put h.L _ (by omega),h.m.put h.L _ (by omega),h.n.put h.L _ (by omega),put_heap h.D (by omega),World.putObj_heap_same (Array.getElem?_eq_some_iff.1 h.L).1,h.lx,h.ly,h.lo,h.lw,h.lg⟩
theorem GcAt.take (h:GcAt w g0 B lp x y o W) {A:Option Addr} {c:Nat} (_hb:Blk W B 122 #[.slice A (gr x).length c]) (hr:RdU W A (gr x)) (h3:(gr x).length≤c) (h4:c≤maxLen):GcAt w g0 B lp x y x (W.setCell ⟨g0,0,none⟩ (.slice A (gr x).length c)):=by
 have hg:=h.lg
 have hw:=h.lw
 obtain ⟨Ao,co,k1,_⟩:=h.out
 exact ⟨h.ext.setCell hw _,h.out.set_ hr h3 h4,h.m.far k1 (by omega) _,h.n.far k1 (by omega) _,dfar h.D (by omega),dfar h.L (by omega),h.lx,h.ly,h.lx,h.lw,h.lg⟩
theorem GcAt.next (h:GcAt w g0 B lp x y o W) {A A2:Option Addr} {c c2:Nat} (_hb:Blk W (B+1) 122 #[.slice A (gr y).length c]) (hr:RdU W A (gr y)) (h3:(gr y).length≤c) (h4:c≤maxLen) {r:Nat} (hr2:RdU W A2 (gr r)) (h5:(gr r).length≤c2) (h6:c2≤maxLen) (hl:(gr r).length≤900000) :
  GcAt w g0 B lp y r o ((W.setCell ⟨B,0,none⟩ (.slice A (gr y).length c)).setCell ⟨B+1,0,none⟩ (.slice A2 (gr r).length c2)):=by
 have hg:=h.lg
 have hw:=h.lw
 obtain ⟨Am,cm,k1,_⟩:=h.m
 have hn':MagAt (W.setCell ⟨B,0,none⟩ (.slice A (gr y).length c)) (B+1) y:=h.n.far k1 (by omega) _
 have hm':MagAt (W.setCell ⟨B,0,none⟩ (.slice A (gr y).length c)) B y:=h.m.set_ hr h3 h4
 have ho':MagAt (W.setCell ⟨B,0,none⟩ (.slice A (gr y).length c)) g0 o:=h.out.far k1 (by omega) _
 have hr2':RdU (W.setCell ⟨B,0,none⟩ (.slice A (gr y).length c)) A2 (gr r):=hr2.far _ (hr2.slot k1)
 have hn2:=hn'
 obtain ⟨An,cn,j1,_⟩:=hn2
 exact ⟨(h.ext.setCell (p:=⟨B,0,none⟩) (by dsimp only;omega) _).setCell (p:=⟨B+1,0,none⟩) (by dsimp only;omega) _,ho'.far j1 (by omega) _,hm'.far j1 (by omega) _,hn'.set_ hr2' h5 h6,dfar (dfar h.D (by omega)) (by omega),dfar (dfar h.L (by omega)) (by omega),h.ly,hl,h.lo,h.lw,h.lg⟩
end
theorem intSteps (A A':Option Addr) (a c a' c':Nat) (w:World) :
  Calls Tryz.prog 279 #[.slice A a c,.slice A' a' c'] w fun e w'=>e = .returned (.func (.func 309) #[] #[.pointer (some ⟨w.heap.size,0,none⟩),.pointer (some ⟨w.heap.size+1,0,none⟩)])∧w'=(w.alloc (.cells #[.slice A a c] 122)).alloc (.cells #[.slice A' a' c'] 122):=by
 go_enter Tryz.func279,Tryz.ntmps279
 go_wp2_with fail
 go_ret
 exact ⟨rfl,rfl⟩
def GcEnds (w:World) (g0 B:Nat) (lp:Loop) (x y:Nat) (e:Ending) (W':World):Prop:=e = .returned (.bool true)∧GcAt w g0 B lp x y x W'
theorem intSteps1 (n:Nat) (w:World) (g0 B:Nat) (lp:Loop) (G:Nat)
  (hY:∀ x y o W A c A' c',GcAt w g0 B lp x y o W→Blk W B 122 #[.slice A (gr x).length c]→RdU W A (gr x)→(gr x).length≤c→c≤maxLen→YieldAt Fence.wide (n-1) Tryz.prog (B+1+1+1) #[.slice A (gr x).length c,.slice A' (gr y).length c'] W (GcEnds w g0 B lp x y))
  (x y o:Nat) (W:World) (h0:GcAt w g0 B lp x y o W) (hG:Nat.gcd x y=G) :
  CallsIn Fence.wide n Tryz.prog 309 #[.func (.yield (B+1+1+1)) #[] #[],.pointer (some ⟨B,0,none⟩),.pointer (some ⟨B+1,0,none⟩)] W fun e W'=>(∃ v,e = .returned v)∧∃ y,GcAt w g0 B lp G y G W':=by
 have hfn:∀ k,Fence.wide.fn k:=fun _=>trivial
 have hdp:Fence.wide.depth.isSome=false:=rfl
 have HY:=Lib.hid hY
 have HG:=Lib.hid hG
 have H0:=Lib.hid h0
 clear hY hG h0
 refine callsIn_of_wp Tryz.func309 rfl trivial ?_ rfl
 simp only [Tryz.ntmps309,List.size_toArray,List.length_cons,List.length_nil,Nat.reduceAdd,Nat.reduceSub,Array.replicate_succ,Array.replicate_zero,List.push_toArray,List.append_toArray,List.nil_append,List.cons_append]
 gi_wp2
 gi_loopw [4,5] (fun _ _ wr=>∃ x y o:Nat,GcAt w g0 B lp x y o wr∧Nat.gcd x y=G) (fun _ _ wr=>@Classical.epsilon Nat ⟨0⟩ (fun y=>MagAt wr (B+1) y))
 case atStart=>exact ⟨x,y,o,H0.out,HG.out⟩
 case round =>
  clear HG H0
  obtain ⟨x,y,o,h,hg⟩:=hrel
  have HM:Hid (@Classical.epsilon Nat ⟨0⟩ (fun y=>MagAt wr (B+1) y)=y):=Lib.hid ((Classical.epsilon_spec (p:=fun y=>MagAt wr (B+1) y) ⟨y,h.n⟩).unique h.n)
  obtain ⟨A,c,k1,k2,k3,k4⟩:=h.m
  obtain ⟨A',c',j1,j2,j3,j4⟩:=h.n
  obtain ⟨fn,tmps,assign,body,hy,hR⟩:=HY.out x y o wr A c A' c' h k1 k2 k3 k4
  have HR:=Lib.hid hR
  have H:=Lib.hid h
  have HGC:=Lib.hid hg
  have x0:=k1.cell 0
  have y0:=j1.cell 0
  simp only [List.getElem?_toArray,List.getElem?_cons_zero] at x0 y0
  clear h hg hR HY k1 k2 k3 k4 j1 j2 j3 j4
  gi_wp2
  refine HR.out.mono ?_
  rintro e W3 ⟨rfl,hK⟩
  clear HR H
  obtain ⟨A,c,k1,k2,k3,k4⟩:=hK.m
  obtain ⟨A',c',j1,j2,j3,j4⟩:=hK.n
  have x0:=k1.cell 0
  have y0:=j1.cell 0
  simp only [List.getElem?_toArray,List.getElem?_cons_zero] at x0 y0
  have HK:=Lib.hid hK
  by_cases hy0:y=0
  ·subst hy0
   rw [Nat.gcd_zero_right] at HGC
   have hl0:decide (0<(gr 0).length)=false:=by rw [gr_zero];rfl
   clear hK k1 k2 k3 k4 j1 j2 j3 j4
   gi_wp2
   go_end0
   refine ⟨⟨_,rfl⟩,0,?_⟩
   have:=HK.out
   rw [HGC.out] at this
   exact this
  ·have hl0:decide (0<(gr y).length)=true:=by
    rw [decide_eq_true_iff]
    rcases Nat.eq_zero_or_pos (gr y).length with e | e
    ·exact absurd (gr_inj (by rw [List.length_eq_zero_iff.1 e,gr_zero]):y=0) hy0
    ·exact e
   have HDV:=Lib.hid (fun W h1 h2=>intDivide x y (by omega) A A' c c' W h1 h2 hK.lx hK.ly k3 k4)
   have HR1:=Lib.hid k2
   have HR2:=Lib.hid j2
   have HC2:=Lib.hid (And.intro j3 j4)
   have hgr:(gr (x % y)).length≤900000:=Nat.le_trans (gr_len_mono (Nat.le_of_lt (Nat.mod_lt x (by omega)))) hK.ly
   have HGR:=Lib.hid hgr
   have HLT:Hid (x % y<y):=Lib.hid (Nat.mod_lt x (by omega))
   have HG2:Hid (Nat.gcd y (x % y)=G):=Lib.hid (by rw [← HGC.out,Nat.gcd_comm x y,Nat.gcd_rec y x,Nat.gcd_comm])
   clear hK k1 k2 k3 k4 j1 j2 j3 j4 hgr hy0 HGC
   gi_wp2_with (gi_at_call 213;refine (callsIn_wide.2 (HDV.out _ HR1.out HR2.out)).mono ?_;rintro e w5 ⟨A1,c1,A2,c2,rfl,hq,hr,hx,hqc,hrc⟩;(have HK5:=Lib.hid (HK.out.on hx));(have HR5:=Lib.hid (HR2.out.ext hx));(have HRR:=Lib.hid hr);(have HRC:=Lib.hid hrc);(obtain ⟨Am,cm,m1,_⟩:=HK5.out.m);(obtain ⟨An,cn,n1,n2,n3,n4⟩:=HK5.out.n);(have u0:=m1.cell 0);(have v0:=n1.cell 0);(have u1:=m1.frozen 0);(have v1:=n1.frozen 0);(simp only [List.getElem?_toArray,List.getElem?_cons_zero] at u0 v0);(have HN1:=Lib.hid n1);(have HN2:=Lib.hid n2);(have HN3:=Lib.hid (And.intro n3 n4));clear hq hr hx hqc hrc m1 n1 n2 n3 n4)
   go_roundw
   case rel=>exact ⟨y,x % y,x,HK5.out.next HN1.out HN2.out HN3.out.1 HN3.out.2 HRR.out HRC.out.1 HRC.out.2 HGR.out,HG2.out⟩
   case measure =>
    rw [HM.out]
    have hn:=(HK5.out.next HN1.out HN2.out HN3.out.1 HN3.out.2 HRR.out HRC.out.1 HRC.out.2 HGR.out).n
    rw [(Classical.epsilon_spec (p:=fun y=>MagAt _ (B+1) y) ⟨_,hn⟩).unique hn]
    exact HLT.out
theorem txt_false (n:Nat):txt false n=ofI n:=by rw [txt_ofI];rfl
theorem numField (x y:Value) (W:World):(Instr.field 124 (.agg #[x,y]) 1).run Tryz.prog W = .ok y W:=by kernel_rfl
theorem gcdP (a b:Bs) (ha:a.length≤100000) (hb:b.length≤100000):Pure 223 #[.string (bs a),.string (bs b)] (.string (bs (ofI (Int.gcd (valI a) (valI b):Nat)))):=by
 intro w hE
 have hfn:∀ k,Fence.wide.fn k:=fun _=>trivial
 have hdp:Fence.wide.depth.isSome=false:=rfl
 have HR1:=Lib.hid (fun W=>intRead a W (by omega))
 have HR2:=Lib.hid (fun W=>intRead b W (by omega))
 have HL1:Hid ((gr (natOf (mag a))).length≤900000):=Lib.hid (by have:=gr_len10 (mag_pow a ha);omega)
 have HL2:Hid ((gr (natOf (mag b))).length≤900000):=Lib.hid (by have:=gr_len10 (mag_pow b hb);omega)
 have HG:Hid (Nat.gcd (natOf (mag a)) (natOf (mag b))=Int.gcd (valI a) (valI b)):=Lib.hid (by rw [natOf_abs,natOf_abs];rfl)
 have HE:=Lib.hid hE
 generalize Int.gcd (valI a) (valI b)=G at *
 generalize natOf (mag a)=x at *
 generalize natOf (mag b)=y at *
 generalize neg a=ba at *
 generalize neg b=bb at *
 have hf:=numField
 clear ha hb hE
 refine (callsIn_wide (n:=5)).1 ?_
 refine callsIn_of_wp_marks Tryz.func223 rfl trivial ?_ rfl
 simp only [Tryz.ntmps223,List.size_toArray,List.length_cons,List.length_nil,Nat.reduceAdd,Nat.reduceSub,Array.replicate_succ,Array.replicate_zero,List.push_toArray,List.append_toArray,List.nil_append,List.cons_append]
 gi_wp2_with fail
 refine (callsIn_wide.2 (HR1.out _)).mono ?_
 rintro e w1 ⟨A,c,rfl,hrd1,hx1,hc1,hm1⟩
 have HX:=Lib.hid ((Ext.new w (.cells #[.slice none 0 0] 122)).trans hx1)
 have HB:=Lib.hid ((Blk.new w 122 #[.slice none 0 0]).ext hx1)
 have HD1:=Lib.hid hrd1
 have HC1:=Lib.hid (And.intro hc1 hm1)
 clear hrd1 hx1 hc1 hm1
 gi_wp2_with fail
 refine (callsIn_wide.2 (HR2.out _)).mono ?_
 rintro e w2 ⟨A',c',rfl,hrd2,hx2,hc2,hm2⟩
 replace HX:=Lib.hid (HX.out.trans hx2)
 replace HB:=Lib.hid (HB.out.ext hx2)
 replace HD1:=Lib.hid (HD1.out.ext hx2)
 have HD2:=Lib.hid hrd2
 have HC2:=Lib.hid (And.intro hc2 hm2)
 clear hrd2 hx2 hc2 hm2
 gi_wp2_with fail
 refine (callsIn_wide.2 (intSteps A A' _ c _ c' w2)).mono ?_
 rintro e w3 ⟨rfl,rfl⟩
 gi_wp2_with fail
 refine range_outer' rfl (by omega) (w2.heap.size+1+1) (by simp) rfl trivial (fun _ _=>by rfl) ?_
 intro fn lp W1 hlp hW1 _
 have hlt:=HB.out.lt
 have hex:Ext w2 W1:=by subst hW1;exact (((Ext.new w2 _).alloc _).alloc _).alloc _
 refine (intSteps1 _ w w.heap.size w2.heap.size lp G ?hY x y 0 W1 ?h0 HG.out).mono ?_
 case h0 =>
  refine ⟨HX.out.trans hex,⟨none,0,?_,?_,?_,by unfold maxLen;omega⟩,⟨A,c,?_,HD1.out.ext hex,HC1.out.1,HC1.out.2⟩,⟨A',c',?_,HD2.out.ext hex,HC2.out.1,HC2.out.2⟩,?_,?_,HL1.out,HL2.out,by rw [gr_zero];simp,Nat.le_refl _,hlt⟩
  ·rw [gr_zero];exact HB.out.ext hex
  ·rw [gr_zero];exact Reads.nil
  ·rw [gr_zero];exact Nat.le_refl _
  ·subst hW1;exact (((Blk.newAt _ _ _ _ rfl).alloc _).alloc _).alloc _
  ·subst hW1;exact ((Blk.newAt _ _ _ _ (by simp)).alloc _).alloc _
  ·subst hW1;exact oldAt (newAt _ _ _ (by simp))
  ·subst hW1;exact newAt _ _ _ (by simp)
 case hY =>
  intro x y o W A c A' c' h k1 k2 k3 k4
  have e1:=congrArg Loop.assign hlp
  have e2:=congrArg Loop.body hlp
  have e3:=congrArg Loop.tmps hlp
  have e4:=congrArg Loop.params hlp
  have e5:{ lp with state := .ready,pending:=none }=lp:=by rw [hlp];rfl
  obtain ⟨lb,hlb⟩:∃ lb,{ lp with state := .busy }=lb:=⟨_,rfl⟩
  simp only [recOf] at e1 e2 e3 e4
  refine yield_round' (rec:=lp) h.L (by rw [hlp];rfl) (by rw [hlp];rfl) trivial e1 e2 e4 e3 (zip2 _ _ _ _ _) hlb ?_
  clear e1 e2 e3 e4 hlp hW1 hex
  have HL0:=Lib.hid h.L
  have HP:=Lib.hid (h.put (lp':=lb))
  have HK1:=Lib.hid (k1.put (.loop lb) (l:=w2.heap.size+1+1+1) (by omega))
  have HK2:=Lib.hid (k2.put h.L (.loop lb))
  have HK3:=Lib.hid (And.intro k3 k4)
  have HLB:=Lib.hid hlb
  have HE5:=Lib.hid e5
  clear h k1 k2 k3 k4 hlb e5
  gi_wp2
  refine ⟨HL0.out,?_⟩
  generalize W.putObj (w2.heap.size+1+1+1) (.loop lb)=Wb at *
  obtain ⟨Ao,co,o1,_⟩:=HP.out.out
  have u0:=o1.cell 0
  have u1:=o1.frozen 0
  simp only [List.getElem?_toArray,List.getElem?_cons_zero] at u0
  clear o1
  gi_wp2
  have hT:=HP.out.take HK1.out HK2.out HK3.out.1 HK3.out.2
  refine ⟨by rw [HLB.out];exact hT.L,rfl,?_⟩
  rw [HE5.out]
  exact hT.put
 rintro e W ⟨hv,y',h⟩
 refine ⟨hv,.inl ⟨h.L,?_⟩⟩
 have hP:=h.put (lp':={ lp with state := .exhausted })
 generalize W.putObj (w2.heap.size+1+1+1) (.loop { lp with state := .exhausted })=W3 at *
 clear h hv hW1 hlp W1 hex
 obtain ⟨Ao,co,o1,o2,o3,o4⟩:=hP.out
 have u0:=o1.cell 0
 simp only [List.getElem?_toArray,List.getElem?_cons_zero] at u0
 have HP:=Lib.hid hP
 have HT:=Lib.hid (fun W hr hE=>intText false G Ao co W hr (Nat.le_trans hP.lo (by omega)) o3 o4 hE)
 rw [txt_false] at HT
 have HO:=Lib.hid o2
 clear hP o1 o2 o3 o4
 gi_wp2_with (gi_at_call 80;refine (callsIn_wide.2 (HT.out _ HO.out (HE.out.ext HP.out.ext))).mono ?_;rintro e w5 ⟨rfl,hx5⟩;(have HX5:=Lib.hid (HP.out.ext.trans hx5));(have HD5:=Lib.hid (ext_heap HP.out.D hx5));clear hx5)
 refine ⟨by simp,.inl ⟨_,_,rfl,run_takeDeferred HD5.out,?_⟩⟩
 refine ⟨.string (bs (ofI (G:Nat))),by simp [results,Tryz.results223,go_sem],?_⟩
 exact ⟨rfl,HX5.out.putObj (by have:=HP.out.lg;omega) _⟩
end
section
open Go.RowKit
attribute [local go_sem] size_bs toList_bs
abbrev fv (f:Fr):Value := .agg #[.string (bs f.num),.string (bs f.den)]
def dn (f:Fr):Bs:=if valI f.den=0 then [49] else f.den
theorem valI_dn (f:Fr):valI (dn f)=frD f:=by unfold dn frD;split;exact valI_one;rfl
theorem dn_len (f:Fr) {L:Nat} (h:f.den.length≤L) (h1:1≤L):(dn f).length≤L:=by unfold dn;split;exact h1;exact h
theorem ofI_lt10' {z:Int} {l:Bs} (h:z.natAbs≤(valI l).natAbs) {L:Nat} (hl:l.length≤L):(ofI z).length≤L+1:=ofI_lt10 (Nat.lt_of_le_of_lt h (valI_lt10 hl))
theorem results_fr {fn:Func} {a:Tmp} (h:fn.results=#[.cell a 26]) (tmps:Array Value) (w:World) (g:Nat) (x y:Value) (ha:tmps.getD a undef = .pointer (some ⟨g,0,none⟩)) (hb:Blk w g 26 #[x,y]) :
  (results fn tmps).run Tryz.prog w = .ok (.agg #[x,y]) w:=by
 have h0:=hb.cell 0
 have h1:=hb.cell 1
 simp only [List.getElem?_toArray,List.getElem?_cons_zero,List.getElem?_cons_succ] at h0 h1
 unfold results
 rw [h]
 simp only [List.mapM_toArray,List.mapM_cons,List.mapM_nil,ha]
 go_simp
theorem results_fr2 {fn:Func} {a b:Tmp} (h:fn.results=#[.cell a 26,.tmp b]) (tmps:Array Value) (w:World) (g:Nat) (x y z:Value) (ha:tmps.getD a undef = .pointer (some ⟨g,0,none⟩)) (hz:tmps.getD b undef=z) (hb:Blk w g 26 #[x,y]) :
  (results fn tmps).run Tryz.prog w = .ok (.tuple #[.agg #[x,y],z]) w:=by
 have h0:=hb.cell 0
 have h1:=hb.cell 1
 simp only [List.getElem?_toArray,List.getElem?_cons_zero,List.getElem?_cons_succ] at h0 h1
 unfold results
 rw [h]
 simp only [List.mapM_toArray,List.mapM_cons,List.mapM_nil,ha,hz]
 go_simp
theorem frBlk {w w':World} {g:Nat} {x y:Value} (h:Blk w g 26 #[x,y]) (hx:Ext w w'):w'.cell? ⟨g,0,none⟩=some x∧w'.cell? ⟨g,1,none⟩=some y∧w'.frozen? ⟨g,0,none⟩=false∧w'.frozen? ⟨g,1,none⟩=false:=by
 have k:=h.ext hx
 have h0:=k.cell 0
 have h1:=k.cell 1
 simp only [List.getElem?_toArray,List.getElem?_cons_zero,List.getElem?_cons_succ] at h0 h1
 exact ⟨h0,h1,k.frozen 0,k.frozen 1⟩
theorem red_of {n d:Int} (hd:d≠0):(d<0→divF (-n) (Int.gcd (-n) (-d):Nat)=redN n d∧divF (-d) (Int.gcd (-n) (-d):Nat)=redD n d)∧(¬ d<0→divF n (Int.gcd n d:Nat)=redN n d∧divF d (Int.gcd n d:Nat)=redD n d):=by
 have hg:=gcd_pos (n:=n) hd
 constructor
 ·intro h
  rw [Int.neg_gcd,Int.gcd_neg,divF_pos (by omega),divF_pos (by omega)]
  unfold redN redD
  rw [if_pos h]
  refine ⟨rfl,?_⟩
  rw [show -d=(d.natAbs:Int) by omega];rfl
 ·intro h
  rw [divF_pos (by omega),divF_pos (by omega)]
  unfold redN redD
  rw [if_neg h]
  refine ⟨rfl,?_⟩
  have e:d=(d.natAbs:Int):=by omega
  generalize Int.gcd n d=g at *
  rw [e];simp
theorem gcd_abs_le {n d:Int} (hd:d≠0):(Int.gcd n d)≤d.natAbs:=Int.gcd_le_natAbs_right n hd
theorem fracReduced (n d:Bs) (hn:n.length≤90000) (hd:d.length≤90000) (h0:valI d≠0) :
  Pure 159 #[.string (bs n),.string (bs d)] (.tuple #[.string (bs (ofI (redN (valI n) (valI d)))),.string (bs (ofI (redD (valI n) (valI d))))]):=by
 intro w hE
 have HE:=Lib.hid hE
 have HC:=Lib.hid (cmp0P d (by omega))
 have hr:=red_of (n:=valI n) h0
 have hgp:=gcd_pos (n:=valI n) h0
 have hgle:=gcd_abs_le (n:=valI n) h0
 have hgl:(ofI (Int.gcd (valI n) (valI d):Nat)).length≤90001:=ofI_lt10' (l:=d) (by rw [Int.natAbs_natCast];exact hgle) hd
 by_cases hneg:valI d<0
 ·have hb:decide (cmpI (valI d) 0<0)=true:=by rw [decide_eq_true_iff,cmpI];rw [if_pos hneg];omega
  have HN1:=Lib.hid (negP n (by omega))
  have HN2:=Lib.hid (negP d (by omega))
  have hl1:(ofI (-(valI n))).length≤90001:=ofI_lt10' (l:=n) (by omega) hn
  have hl2:(ofI (-(valI d))).length≤90001:=ofI_lt10' (l:=d) (by omega) hd
  have HG:=Lib.hid (gcdP (ofI (-(valI n))) (ofI (-(valI d))) (by omega) (by omega))
  rw [valI_ofI,valI_ofI] at HG
  have hge:Int.gcd (-(valI n)) (-(valI d))=Int.gcd (valI n) (valI d):=by rw [Int.neg_gcd,Int.gcd_neg]
  have HD1:=Lib.hid (divP (ofI (-(valI n))) (ofI (Int.gcd (-(valI n)) (-(valI d)):Nat)) (by omega) (by rw [hge];omega) (by rw [valI_ofI,hge];omega))
  have HD2:=Lib.hid (divP (ofI (-(valI d))) (ofI (Int.gcd (-(valI n)) (-(valI d)):Nat)) (by omega) (by rw [hge];omega) (by rw [valI_ofI,hge];omega))
  rw [valI_ofI,valI_ofI] at HD1 HD2
  rw [(hr.1 hneg).1] at HD1
  rw [(hr.1 hneg).2] at HD2
  clear hr hgp hgle hgl hl1 hl2 hge hE
  generalize redN (valI n) (valI d)=rn at *
  generalize redD (valI n) (valI d)=rd at *
  generalize modF (-(valI n)) _=m1 at *
  generalize modF (-(valI d)) _=m2 at *
  generalize ofI (Int.gcd (-(valI n)) (-(valI d)):Nat)=gs at *
  generalize ofI (-(valI n))=nn at *
  generalize ofI (-(valI d))=dd at *
  generalize cmpI (valI d) 0=cc at *
  clear h0 hneg hn hd
  go_enter Tryz.func159,Tryz.ntmps159
  go_wp2_with fail
  refine (HC.out _ HE.out).mono ?_
  rintro e w1 ⟨rfl,hx1⟩
  have HX:=Lib.hid hx1
  clear hx1
  go_wp2_with fail
  refine (HN1.out _ (HE.out.ext HX.out)).mono ?_
  rintro e w2 ⟨rfl,hx2⟩
  replace HX:=Lib.hid (HX.out.trans hx2)
  clear hx2
  go_wp2_with fail
  refine (HN2.out _ (HE.out.ext HX.out)).mono ?_
  rintro e w3 ⟨rfl,hx2⟩
  replace HX:=Lib.hid (HX.out.trans hx2)
  clear hx2
  go_wp2_with fail
  refine (HG.out _ (HE.out.ext HX.out)).mono ?_
  rintro e w4 ⟨rfl,hx2⟩
  replace HX:=Lib.hid (HX.out.trans hx2)
  clear hx2
  go_wp2_with fail
  refine (HD1.out _ (HE.out.ext HX.out)).mono ?_
  rintro e w5 ⟨rfl,hx2⟩
  replace HX:=Lib.hid (HX.out.trans hx2)
  clear hx2
  go_wp2_with fail
  refine (HD2.out _ (HE.out.ext HX.out)).mono ?_
  rintro e w6 ⟨rfl,hx2⟩
  replace HX:=Lib.hid (HX.out.trans hx2)
  clear hx2
  go_wp2_with fail
  go_ret2
  exact ⟨rfl,HX.out⟩
 ·have hb:decide (cmpI (valI d) 0<0)=false:=by rw [decide_eq_false_iff_not,cmpI_neg];omega
  have HG:=Lib.hid (gcdP n d (by omega) (by omega))
  have HD1:=Lib.hid (divP n (ofI (Int.gcd (valI n) (valI d):Nat)) (by omega) (by omega) (by rw [valI_ofI];omega))
  have HD2:=Lib.hid (divP d (ofI (Int.gcd (valI n) (valI d):Nat)) (by omega) (by omega) (by rw [valI_ofI];omega))
  rw [valI_ofI] at HD1 HD2
  rw [(hr.2 hneg).1] at HD1
  rw [(hr.2 hneg).2] at HD2
  clear hr hgp hgle hgl hE
  generalize redN (valI n) (valI d)=rn at *
  generalize redD (valI n) (valI d)=rd at *
  generalize modF (valI n) _=m1 at *
  generalize modF (valI d) _=m2 at *
  generalize ofI (Int.gcd (valI n) (valI d):Nat)=gs at *
  generalize cmpI (valI d) 0=cc at *
  clear h0 hneg hn hd
  go_enter Tryz.func159,Tryz.ntmps159
  go_wp2_with fail
  refine (HC.out _ HE.out).mono ?_
  rintro e w1 ⟨rfl,hx1⟩
  have HX:=Lib.hid hx1
  clear hx1
  go_wp2_with fail
  refine (HG.out _ (HE.out.ext HX.out)).mono ?_
  rintro e w4 ⟨rfl,hx2⟩
  replace HX:=Lib.hid (HX.out.trans hx2)
  clear hx2
  go_wp2_with fail
  refine (HD1.out _ (HE.out.ext HX.out)).mono ?_
  rintro e w5 ⟨rfl,hx2⟩
  replace HX:=Lib.hid (HX.out.trans hx2)
  clear hx2
  go_wp2_with fail
  refine (HD2.out _ (HE.out.ext HX.out)).mono ?_
  rintro e w6 ⟨rfl,hx2⟩
  replace HX:=Lib.hid (HX.out.trans hx2)
  clear hx2
  go_wp2_with fail
  go_ret2
  exact ⟨rfl,HX.out⟩
theorem fracMade (n d:Bs) (hn:n.length≤90000) (hd:d.length≤90000) (h0:valI d≠0) :
  Pure 93 #[.string (bs n),.string (bs d)] (fv (ofQ (Rat.divInt (valI n) (valI d)))):=by
 intro w hE
 rw [← frq_ofQ h0]
 have HE:=Lib.hid hE
 have HR:=Lib.hid (fracReduced n d hn hd h0)
 unfold frq
 have hone:redD (valI n) (valI d)=1↔ofI (redD (valI n) (valI d))=[49]:=by
  rw [← ofI_one];exact ⟨fun h=>by rw [h],fun h=>ofI_inj h⟩
 generalize redN (valI n) (valI d)=rn at *
 generalize redD (valI n) (valI d)=rd at *
 clear h0 hn hd hE
 have HF1:Hid (rd=1→(⟨ofI rn,if rd=1 then [] else ofI rd⟩:Fr)=⟨ofI rn,[]⟩):=Lib.hid (fun h=>by rw [if_pos h])
 have HF2:Hid (¬ rd=1→(⟨ofI rn,if rd=1 then [] else ofI rd⟩:Fr)=⟨ofI rn,ofI rd⟩):=Lib.hid (fun h=>by rw [if_neg h])
 generalize (⟨ofI rn,if rd=1 then [] else ofI rd⟩:Fr)=r at *
 have HB:=Lib.hid (Blk.new w 26 #[.string ⟨#[]⟩,.string ⟨#[]⟩])
 have HX0:Hid (Ext w (w.alloc (.cells #[.string ⟨#[]⟩,.string ⟨#[]⟩] 26))):=Lib.hid (Ext.new _ _)
 go_enter Tryz.func93,Tryz.ntmps93
 go_wp2_with fail
 refine (HR.out _ (HE.out.ext HX0.out)).mono ?_
 rintro e w1 ⟨rfl,hx1⟩
 obtain ⟨q0,q1,f0,f1⟩:=frBlk HB.out hx1
 have HB1:=Lib.hid (HB.out.ext hx1)
 have HX:=Lib.hid (HX0.out.trans hx1)
 clear hx1
 by_cases h1:rd=1
 ·have hb:(ofI rd == [49])=true:=by rw [beq_iff_eq];exact hone.1 h1
  have H1:=Lib.hid h1
  clear hone h1
  go_wp2_with fail
  refine bodyPost_ret (results_fr rfl _ _ w.heap.size (.string (bs (ofI rn))) (.string ⟨#[]⟩) rfl ((HB1.out.set_ 0 _).set_ 1 _)) rfl ?_
  refine ⟨?_,(HX.out.setCell (p:=⟨w.heap.size,0,none⟩) (Nat.le_refl _) _).setCell (p:=⟨w.heap.size,1,none⟩) (Nat.le_refl _) _⟩
  rw [HF1.out H1.out];rfl
 ·have hb:(ofI rd == [49])=false:=by rw [beq_eq_false_iff_ne];exact fun h=>h1 (hone.2 h)
  have H1:=Lib.hid h1
  clear hone h1
  go_wp2_with fail
  refine bodyPost_ret (results_fr rfl _ _ w.heap.size (.string (bs (ofI rn))) (.string (bs (ofI rd))) rfl ((HB1.out.set_ 0 _).set_ 1 _)) rfl ?_
  refine ⟨?_,(HX.out.setCell (p:=⟨w.heap.size,0,none⟩) (Nat.le_refl _) _).setCell (p:=⟨w.heap.size,1,none⟩) (Nat.le_refl _) _⟩
  rw [HF2.out H1.out]
theorem fracParts (f:Fr) (hd:f.den.length≤90000) :
  Pure 96 #[fv f] (.tuple #[.string (bs f.num),.string (bs (dn f))]):=by
 intro w hE
 have HE:=Lib.hid hE
 obtain ⟨n,d⟩:=f
 have HC:=Lib.hid (cmp0P d (by simpa using Nat.le_trans hd (by omega)))
 have HF1:Hid (valI d=0→dn ⟨n,d⟩=[49]):=Lib.hid (fun h=>by unfold dn;rw [if_pos h])
 have HF2:Hid (¬ valI d=0→dn ⟨n,d⟩=d):=Lib.hid (fun h=>by unfold dn;rw [if_neg h])
 generalize dn ⟨n,d⟩=r at *
 have HB:=Lib.hid (Blk.new w 26 #[.string (bs n),.string (bs d)])
 have HX0:Hid (Ext w (w.alloc (.cells #[.string (bs n),.string (bs d)] 26))):=Lib.hid (Ext.new _ _)
 clear hE hd
 by_cases h0:valI d=0
 ·have hb:(cmpI (valI d) 0 == 0)=true:=by rw [beq_iff_eq,cmpI_zero];exact h0
  have H0:=Lib.hid h0
  clear h0
  go_enter Tryz.func96,Tryz.ntmps96
  go_wp2_with fail
  refine (HC.out _ (HE.out.ext HX0.out)).mono ?_
  rintro e w1 ⟨rfl,hx1⟩
  obtain ⟨q0,q1,f0,f1⟩:=frBlk HB.out hx1
  have HX:=Lib.hid (HX0.out.trans hx1)
  clear hx1
  go_wp2_with fail
  go_ret2
  exact ⟨by rw [HF1.out H0.out];rfl,HX.out⟩
 ·have hb:(cmpI (valI d) 0 == 0)=false:=by rw [beq_eq_false_iff_ne,Ne,cmpI_zero];exact h0
  have H0:=Lib.hid h0
  clear h0
  go_enter Tryz.func96,Tryz.ntmps96
  go_wp2_with fail
  refine (HC.out _ (HE.out.ext HX0.out)).mono ?_
  rintro e w1 ⟨rfl,hx1⟩
  obtain ⟨q0,q1,f0,f1⟩:=frBlk HB.out hx1
  have HX:=Lib.hid (HX0.out.trans hx1)
  clear hx1
  go_wp2_with fail
  go_quiet (fail)
  go_wp2_with fail
  go_ret2
  exact ⟨by rw [HF2.out H0.out];rfl,HX.out.drewN _⟩
end
section
open Go.RowKit
attribute [local go_sem] size_bs toList_bs
theorem fracOf (a:Bs) (ha:a.length≤90000):Pure 36 #[.string (bs a)] (fv (ofQ (valI a:Int))):=by
 intro w hE
 have HE:=Lib.hid hE
 have hm:=fracMade a [49] ha (by simp) (by rw [valI_one];decide)
 rw [valI_one,divInt_one] at hm
 have HM:=Lib.hid hm
 have HB:=Lib.hid (Blk.new w 26 #[.string ⟨#[]⟩,.string ⟨#[]⟩])
 have HX0:Hid (Ext w (w.alloc (.cells #[.string ⟨#[]⟩,.string ⟨#[]⟩] 26))):=Lib.hid (Ext.new _ _)
 generalize ofQ (valI a:Int)=r at *
 clear hE hm
 go_enter Tryz.func36,Tryz.ntmps36
 go_wp2_with fail
 refine (HM.out _ (HE.out.ext HX0.out)).mono ?_
 rintro e w1 ⟨rfl,hx1⟩
 obtain ⟨q0,q1,f0,f1⟩:=frBlk HB.out hx1
 have HB1:=Lib.hid (HB.out.ext hx1)
 have HX:=Lib.hid (HX0.out.trans hx1)
 clear hx1
 go_wp2_with fail
 refine bodyPost_ret (results_fr rfl _ _ w.heap.size (.string (bs r.num)) (.string (bs r.den)) rfl ((HB1.out.set_ 0 _).set_ 1 _)) rfl ?_
 exact ⟨rfl,(HX.out.setCell (p:=⟨w.heap.size,0,none⟩) (Nat.le_refl _) _).setCell (p:=⟨w.heap.size,1,none⟩) (Nat.le_refl _) _⟩
theorem fracPartsR (f:Fr) (h1:f.num.length≤80000) (h2:f.den.length≤80000):Pure 143 #[fv f] (.tuple #[.string (bs (ofI (frQ f).num)),.string (bs (ofI ((frQ f).den:Int)))]):=by
 intro w hE
 have HE:=Lib.hid hE
 have HP:=Lib.hid (fracParts f (by omega))
 have hm:=fracReduced f.num (dn f) (by omega) (dn_len f (by omega) (by omega)) (by rw [valI_dn];exact frD_ne f)
 rw [valI_dn,redN_num (frD_ne f),redD_den (frD_ne f),show Rat.divInt (valI f.num) (frD f)=frQ f from rfl] at hm
 have HM:=Lib.hid hm
 generalize (frQ f).num=rn at *
 generalize ((frQ f).den:Int)=rd at *
 generalize dn f=dd at *
 obtain ⟨n,d⟩:=f
 clear hE hm h1 h2
 have HX0:Hid (Ext w (w.alloc (.cells #[.string (bs n),.string (bs d)] 26))):=Lib.hid (Ext.new _ _)
 go_enter Tryz.func143,Tryz.ntmps143
 go_wp2_with fail
 refine (HP.out _ (HE.out.ext HX0.out)).mono ?_
 rintro e w1 ⟨rfl,hx1⟩
 have HX:=Lib.hid (HX0.out.trans hx1)
 clear hx1
 go_wp2_with fail
 refine (HM.out _ (HE.out.ext HX.out)).mono ?_
 rintro e w2 ⟨rfl,hx1⟩
 replace HX:=Lib.hid (HX.out.trans hx1)
 clear hx1
 go_wp2_with fail
 go_ret2
 exact ⟨rfl,HX.out⟩
end
section
open Go.RowKit
attribute [local go_sem] size_bs toList_bs
abbrev mulV:Value := .func (.func 160) #[] #[]
abbrev MulAt (W:World) (g:Nat):Prop:=Blk W g 47 #[mulV]
theorem mulCell {W:World} {g:Nat} (h:MulAt W g):W.cell? ⟨g,0,none⟩=some mulV:=by
 have:=h.cell 0
 simpa using this
abbrev OpAt (k g:Nat) (a b c d n m:Bs):Prop:=∀ W,Env W→MulAt W g→Calls Tryz.prog k #[.string (bs a),.string (bs b),.string (bs c),.string (bs d),.pointer (some ⟨g,0,none⟩)] W fun e w'=>e = .returned (.tuple #[.string (bs n),.string (bs m)])∧Ext W w'
theorem opPlus (g:Nat) (a b c d:Bs) (ha:a.length≤30000) (hb:b.length≤30000) (hc:c.length≤30000) (hd:d.length≤30000) :
  OpAt 161 g a b c d (ofI (valI a*valI d+valI c*valI b)) (ofI (valI b*valI d)):=by
 intro w hE hM
 have HE:=Lib.hid hE
 have HM:=Lib.hid hM
 have H1:=Lib.hid (mulP a d (by omega) (by omega))
 have H2:=Lib.hid (mulP c b (by omega) (by omega))
 have H3:=Lib.hid (mulP b d (by omega) (by omega))
 have H4:=Lib.hid (addP (ofI (valI a*valI d)) (ofI (valI c*valI b)) (by have:=mul_len ha hd;omega) (by have:=mul_len hc hb;omega))
 rw [valI_ofI,valI_ofI] at H4
 generalize ofI (valI a*valI d+valI c*valI b)=z at *
 generalize ofI (valI a*valI d)=z1 at *
 generalize ofI (valI c*valI b)=z2 at *
 generalize ofI (valI b*valI d)=z3 at *
 have hq:=mulCell hM
 have HX:Hid (Ext w w):=Lib.hid (Ext.refl w)
 clear hE hM ha hb hc hd
 go_enter Tryz.func161,Tryz.ntmps161
 go_wp2_with fail
 replace HX:Hid (Ext w w.drew):=Lib.hid HX.out.drew
 go_region_held3 (fun w'=>w'.cell? ⟨g,0,none⟩=some mulV)
  (go_keep)
  (first
   |(go_at_call 160;((with_reducible refine (H1.out _ (HE.out.ext HX.out)).mono ?_);rintro e w1 ⟨rfl,hx⟩);(replace HX:=Lib.hid (HX.out.trans hx));(have q1:=mulCell (HM.out.ext HX.out));clear hx H1)
   |(go_at_call 160;((with_reducible refine (H2.out _ (HE.out.ext HX.out)).mono ?_);rintro e w2 ⟨rfl,hx⟩);(replace HX:=Lib.hid (HX.out.trans hx));(have q2:=mulCell (HM.out.ext HX.out));clear hx H2)
   |(go_at_call 160;((with_reducible refine (H3.out _ (HE.out.ext HX.out)).mono ?_);rintro e w3 ⟨rfl,hx⟩);(replace HX:=Lib.hid (HX.out.trans hx));(have q3:=mulCell (HM.out.ext HX.out));clear hx H3)
   |(go_at_call 21;((with_reducible refine (H4.out _ (HE.out.ext HX.out)).mono ?_);rintro e w4 ⟨rfl,hx⟩);(replace HX:=Lib.hid (HX.out.trans hx));(have q4:=mulCell (HM.out.ext HX.out));clear hx H4))
 all_goals
  go_wp2_with fail
  go_ret2
  exact ⟨rfl,HX.out⟩
theorem opMinus (g:Nat) (a b c d:Bs) (ha:a.length≤30000) (hb:b.length≤30000) (hc:c.length≤30000) (hd:d.length≤30000) :
  OpAt 162 g a b c d (ofI (valI a*valI d-valI c*valI b)) (ofI (valI b*valI d)):=by
 intro w hE hM
 have HE:=Lib.hid hE
 have HM:=Lib.hid hM
 have H1:=Lib.hid (mulP a d (by omega) (by omega))
 have H2:=Lib.hid (mulP c b (by omega) (by omega))
 have H3:=Lib.hid (mulP b d (by omega) (by omega))
 have H4:=Lib.hid (subP (ofI (valI a*valI d)) (ofI (valI c*valI b)) (by have:=mul_len ha hd;omega) (by have:=mul_len hc hb;omega))
 rw [valI_ofI,valI_ofI] at H4
 generalize ofI (valI a*valI d-valI c*valI b)=z at *
 generalize ofI (valI a*valI d)=z1 at *
 generalize ofI (valI c*valI b)=z2 at *
 generalize ofI (valI b*valI d)=z3 at *
 have hq:=mulCell hM
 have HX:Hid (Ext w w):=Lib.hid (Ext.refl w)
 clear hE hM ha hb hc hd
 go_enter Tryz.func162,Tryz.ntmps162
 go_wp2_with fail
 replace HX:Hid (Ext w w.drew):=Lib.hid HX.out.drew
 go_region_held3 (fun w'=>w'.cell? ⟨g,0,none⟩=some mulV)
  (go_keep)
  (first
   |(go_at_call 160;((with_reducible refine (H1.out _ (HE.out.ext HX.out)).mono ?_);rintro e w1 ⟨rfl,hx⟩);(replace HX:=Lib.hid (HX.out.trans hx));(have q1:=mulCell (HM.out.ext HX.out));clear hx H1)
   |(go_at_call 160;((with_reducible refine (H2.out _ (HE.out.ext HX.out)).mono ?_);rintro e w2 ⟨rfl,hx⟩);(replace HX:=Lib.hid (HX.out.trans hx));(have q2:=mulCell (HM.out.ext HX.out));clear hx H2)
   |(go_at_call 160;((with_reducible refine (H3.out _ (HE.out.ext HX.out)).mono ?_);rintro e w3 ⟨rfl,hx⟩);(replace HX:=Lib.hid (HX.out.trans hx));(have q3:=mulCell (HM.out.ext HX.out));clear hx H3)
   |(go_at_call 27;((with_reducible refine (H4.out _ (HE.out.ext HX.out)).mono ?_);rintro e w4 ⟨rfl,hx⟩);(replace HX:=Lib.hid (HX.out.trans hx));(have q4:=mulCell (HM.out.ext HX.out));clear hx H4))
 all_goals
  go_wp2_with fail
  go_ret2
  exact ⟨rfl,HX.out⟩
theorem opTimes (g:Nat) (a b c d:Bs) (ha:a.length≤30000) (hb:b.length≤30000) (hc:c.length≤30000) (hd:d.length≤30000) :
  OpAt 163 g a b c d (ofI (valI a*valI c)) (ofI (valI b*valI d)):=by
 intro w hE hM
 have HE:=Lib.hid hE
 have HM:=Lib.hid hM
 have H1:=Lib.hid (mulP a c (by omega) (by omega))
 have H3:=Lib.hid (mulP b d (by omega) (by omega))
 generalize ofI (valI a*valI c)=z1 at *
 generalize ofI (valI b*valI d)=z3 at *
 have hq:=mulCell hM
 have HX:Hid (Ext w w):=Lib.hid (Ext.refl w)
 clear hE hM ha hb hc hd
 go_enter Tryz.func163,Tryz.ntmps163
 go_wp2_with fail
 replace HX:Hid (Ext w w.drew):=Lib.hid HX.out.drew
 go_region_held3 (fun w'=>w'.cell? ⟨g,0,none⟩=some mulV)
  (go_keep)
  (first
   |(go_at_call 160;((with_reducible refine (H1.out _ (HE.out.ext HX.out)).mono ?_);rintro e w1 ⟨rfl,hx⟩);(replace HX:=Lib.hid (HX.out.trans hx));(have q1:=mulCell (HM.out.ext HX.out));clear hx H1)
   |(go_at_call 160;((with_reducible refine (H3.out _ (HE.out.ext HX.out)).mono ?_);rintro e w3 ⟨rfl,hx⟩);(replace HX:=Lib.hid (HX.out.trans hx));(have q3:=mulCell (HM.out.ext HX.out));clear hx H3))
 all_goals
  go_wp2_with fail
  go_ret2
  exact ⟨rfl,HX.out⟩
end
end Go.Proofs.YthgpheopnhajaaaGreatDoor
