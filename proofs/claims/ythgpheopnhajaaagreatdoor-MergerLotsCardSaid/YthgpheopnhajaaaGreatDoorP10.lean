/- The seat's texts, part P10. -/
import Derived.Test.YthgpheopnhajaaaGreatDoorP8
import Derived.Test.YthgpheopnhajaaaGreatDoorP9
import Derived.RangeFuncStops
import Derived.Deep.RegionHeld3
set_option maxRecDepth 100000
set_option maxHeartbeats 8000000
namespace Go.Proofs.YthgpheopnhajaaaGreatDoor
section
open Go.RowKit Go.Shelf
attribute [local go_sem] size_bs toList_bs
def eL{α:Type}(p:α→Bool)(l:List α):Int:=match l.findIdx? p with|some i=>(i:Int)|none => -1
theorem oB{α:Type}{p:α→Bool}{l:List α}(h:∀x ∈ l,p x=false):eL p l = -1:=by
 unfold eL;rw[List.findIdx?_eq_none_iff.2 h]
theorem pT{α:Type}{p:α→Bool}{l:List α}{k:Nat}(hk:k<l.length)(h:∀x ∈ l.take k,p x=false)(hp:p (l[k]'hk)=true):eL p l=k:=by
 have:l.findIdx? p=some k:=by
  rw[List.findIdx?_eq_some_iff_getElem];refine⟨hk,hp,fun j hj=>?_⟩;have:=h (l[j]'(by omega)) (List.mem_take_iff_getElem.2 ⟨j,by omega,rfl⟩);simp[this]
 unfold eL;rw[this]
theorem oC{α:Type}{p:α→Bool}{l:List α}{k:Nat}(hk:k<l.length)(h:∀x ∈ l.take k,p x=false)(hp:p (l[k]'hk)=false):∀x ∈ l.take (k+1),p x=false:=by
 intro x hx;rw[List.take_succ_eq_append_getElem hk]at hx;rcases List.mem_append.1 hx with hx|hx
 ·exact h x hx
 ·simp at hx;rw[hx];exact hp
theorem uL{α:Type}(p:α→Bool)(l:List α):decide (0≤eL p l)=l.any p:=by
 unfold eL
 cases h:l.findIdx? p with
 |none =>
  rw[List.findIdx?_eq_none_iff]at h;rw[show l.any p=false by rw[List.any_eq_false];intro x hx;simp[h x hx]];rfl
 |some i =>
  rw[List.findIdx?_eq_some_iff_getElem]at h;obtain⟨hi,hp,_⟩:=h;rw[show l.any p=true by rw[List.any_eq_true];exact⟨_,List.getElem_mem hi,hp⟩];simp
theorem zh(kf:Nat)(cb:Array Value)(ek:∀args w,(callFunc kf args).run Tryz.prog w = .ok (.enter kf args) w)(p:Bs→Bool)(ls:List Bs)(A:Option Addr)(c:Nat)(w:World)(hA:RdS w A ls)(hn:ls.length≤1000000)
  (hF:∀x ∈ ls,∀W,Ext w W→Calls Tryz.prog kf (#[.string (bs x)]++cb) W fun e w'=>e = .returned (.bool (p x))∧Ext W w') :
  Calls Tryz.prog 127 #[.slice A ls.length c,.func (.func kf) #[] cb] w fun e w'=>e = .returned (.int .i64 (eL p ls))∧Ext w w':=by
 have HA:=qh hA;have HF:=qh hF;clear hA hF;go_enter Tryz.func127,Tryz.ntmps127;go_wp2_with fail;go_loopw [8,5] (fun i _ wr=>∃k:Nat,k≤ls.length∧i = .int .i64 k∧(∀x ∈ ls.take k,p x=false)∧Ext w wr) (fun i _ _=>ls.length-(intOf i).toNat)
 case atStart=>exact⟨0,by omega,rfl,by simp,Ext.refl _⟩
 case round =>
  obtain⟨k,hk,rfl,hz,hx⟩:=hrel;have HZ:=qh hz;have HX:=qh hx;clear hz hx;by_cases hlt:k<ls.length
  ·obtain⟨b,o,rfl,hb,c0⟩:=(HA.out.ext HX.out).at_ hlt;have HC:=qh (HF.out (ls[k]'hlt) (List.getElem_mem _));have HN:Hid (p (ls[k]'hlt)=false→∀x ∈ ls.take (k+1),p x=false):=qh (fun h=>oC hlt HZ.out h);have HI:Hid (p (ls[k]'hlt)=true→eL p ls=k):=qh (fun h=>pT hlt HZ.out h);generalize (ls[k]'hlt)=x at *;go_wp2_with fail;refine(HC.out _ HX.out).mono ?_;rintro e w1⟨rfl,hx1⟩;replace HX:=HX.qt hx1;clear hx1
   cases hp:p x
   ·have HN1:=qh (HN.out hp);clear hp;go_wp2_with fail;go_roundw
    case rel=>exact⟨k+1,by omega,by go_num,HN1.out,HX.out⟩
    case measure=>simp[intOf];omega
   ·have HI1:=qh (HI.out hp);clear hp;go_wp2_with fail;go_ret;exact⟨by rw[HI1.out];rfl,HX.out⟩
  ·have HI:Hid (eL p ls = -1):=qh (oB (by have:=HZ.out;rwa[List.take_of_length_le (by omega)]at this));go_wp2_with fail;go_ret;exact⟨by rw[HI.out];rfl,HX.out⟩
theorem mM(kf:Nat)(cb:Array Value)(ek:∀args w,(callFunc kf args).run Tryz.prog w = .ok (.enter kf args) w)(p:Bs→Bool)(ls:List Bs)(A:Option Addr)(c:Nat)(w:World)(hA:RdS w A ls)(hn:ls.length≤1000000)
  (hF:∀x ∈ ls,∀W,Ext w W→Calls Tryz.prog kf (#[.string (bs x)]++cb) W fun e w'=>e = .returned (.bool (p x))∧Ext W w') :
  Calls Tryz.prog 69 #[.slice A ls.length c,.func (.func kf) #[] cb] w fun e w'=>e = .returned (.bool (ls.any p))∧Ext w w':=by
 have HI:=qh (zh kf cb ek p ls A c w hA hn hF);have HZ:Hid (decide (0≤eL p ls)=ls.any p):=qh (uL p ls);generalize ls.any p=b at *;generalize eL p ls=z at *;clear hA hF;go_enter Tryz.func69,Tryz.ntmps69;go_wp2_with fail;refine HI.out.mono ?_;rintro e w1⟨rfl,hx1⟩;have HX:=qh hx1;clear hx1;go_wp2_with fail;go_ret;exact⟨by rw[←HZ.out];rfl,HX.out⟩
theorem zi(kf:Nat)(cb:Array Value)(ek:∀args w,(callFunc kf args).run Tryz.prog w = .ok (.enter kf args) w)(p:LotV→Bool)(ls:List LotV)(A:Option Addr)(c:Nat)(w:World)(hA:bp w A ls)(hn:ls.length≤1000000)
  (hF:∀x ∈ ls,∀W,Ext w W→Calls Tryz.prog kf (#[lv x]++cb) W fun e w'=>e = .returned (.bool (p x))∧Ext W w') :
  Calls Tryz.prog 85 #[.slice A ls.length c,.func (.func kf) #[] cb] w fun e w'=>e = .returned (.int .i64 (eL p ls))∧Ext w w':=by
 have HA:=qh hA;have HF:=qh hF;clear hA hF;go_enter Tryz.func85,Tryz.ntmps85;go_wp2_with fail;go_loopw [8,5] (fun i _ wr=>∃k:Nat,k≤ls.length∧i = .int .i64 k∧(∀x ∈ ls.take k,p x=false)∧Ext w wr) (fun i _ _=>ls.length-(intOf i).toNat)
 case atStart=>exact⟨0,by omega,rfl,by simp,Ext.refl _⟩
 case round =>
  obtain⟨k,hk,rfl,hz,hx⟩:=hrel;have HZ:=qh hz;have HX:=qh hx;clear hz hx;by_cases hlt:k<ls.length
  ·obtain⟨b,o,rfl,hb,c0,c1,c2,c3,c4,c5,c6⟩:=(HA.out.ext HX.out).at_ hlt;have HC:=qh (HF.out (ls[k]'hlt) (List.getElem_mem _));have HN:Hid (p (ls[k]'hlt)=false→∀x ∈ ls.take (k+1),p x=false):=qh (fun h=>oC hlt HZ.out h);have HI:Hid (p (ls[k]'hlt)=true→eL p ls=k):=qh (fun h=>pT hlt HZ.out h);generalize (ls[k]'hlt)=x at *;go_wp2_with fail;refine(HC.out _ HX.out).mono ?_;rintro e w1⟨rfl,hx1⟩;replace HX:=HX.qt hx1;clear hx1
   cases hp:p x
   ·have HN1:=qh (HN.out hp);clear hp;go_wp2_with fail;go_roundw
    case rel=>exact⟨k+1,by omega,by go_num,HN1.out,HX.out⟩
    case measure=>simp[intOf];omega
   ·have HI1:=qh (HI.out hp);clear hp;go_wp2_with fail;go_ret;exact⟨by rw[HI1.out];rfl,HX.out⟩
  ·have HI:Hid (eL p ls = -1):=qh (oB (by have:=HZ.out;rwa[List.take_of_length_le (by omega)]at this));go_wp2_with fail;go_ret;exact⟨by rw[HI.out];rfl,HX.out⟩
theorem xd(ls:List LotV)(id:Bs):eL (fun x=>x.id == id) ls=match cr ls id with|some i=>(i:Int)|none => -1:=by
 have:ls.findIdx? (fun x=>x.id == id)=cr ls id:=by
  induction ls with
  |nil=>rfl
  |cons x r ih =>
   rw[List.findIdx?_cons,cr];by_cases h:x.id=id
   ·simp[h]
   ·simp[h,ih]
 unfold eL;rw[this]
theorem zj(x:LotV)(id:Bs)(g:Nat)(W:World)(hb:Blk W g 9 #[.string (bs id)]) :
  Calls Tryz.prog 86 #[lv x,.pointer (some ⟨g,0,none⟩)] W fun e w'=>e = .returned (.bool (x.id == id))∧Ext W w':=by
 have q0:=(hb.alloc (.cells (lc x) 71)).cell 0;simp only[List.getElem?_toArray,List.getElem?_cons_zero]at q0;have hlt:=hb.lt;have HX:Hid (Ext W (W.alloc (.cells (lc x) 71))):=qh (Ext.new _ _);obtain⟨xi,xn,xa,xo,xq,xc,xu⟩:=x;clear hb;go_enter Tryz.func86,Tryz.ntmps86;go_wp2_with fail;go_ret;exact⟨rfl,HX.out⟩
def nh(ls:List LotV)(id:Bs):Int:=match cr ls id with|some i=>(i:Int)|none=>0
theorem uM(ls:List LotV)(A:Option Addr)(c:Nat)(id:Bs)(w:World)(hA:bp w A ls)(hn:ls.length≤1000000) :
  Calls Tryz.prog 32 #[.slice A ls.length c,.string (bs id)] w fun e w'=>e = .returned (.tuple #[.int .i64 (nh ls id),.bool (cr ls id).isSome])∧Ext w w':=by
 have HB:=qh (Blk.new w 9 #[.string (bs id)]);have HX0:Hid (Ext w (w.alloc (.cells #[.string (bs id)] 9))):=qh (Ext.new _ _);have hi:=zi 86 #[.pointer (some ⟨w.heap.size,0,none⟩)] (fun _ _=>by rfl) (fun x=>x.id == id) ls A c _ (hA.ext HX0.out) hn (fun x _ W hx=>zj x id w.heap.size W (HB.out.ext hx));rw[xd]at hi;have HI:=qh hi
 have HZ:Hid (max (match cr ls id with|some i=>(i:Int)|none => -1) 0=nh ls id∧decide (0≤(match cr ls id with|some i=>(i:Int)|none => -1))=(cr ls id).isSome):=qh (by
  unfold nh
  cases cr ls id with
  |none=>exact⟨rfl,rfl⟩
  |some i=>exact⟨by simp only;omega,by simp⟩)
 generalize (match cr ls id with|some i=>(i:Int)|none => -1)=z at *;generalize nh ls id=y at *;generalize (cr ls id).isSome=b at *;clear hi hA;go_enter Tryz.func32,Tryz.ntmps32;go_wp2_with fail;refine HI.out.mono ?_;rintro e w1⟨rfl,hx1⟩;have HX:=HX0.qt hx1;clear hx1;go_wp2_with fail;go_ret2;exact⟨by rw[←HZ.out.1,←HZ.out.2];rfl,HX.out⟩
end
section
open Go.RowKit Go.Shelf
attribute [local go_sem] size_bs toList_bs Oper.semAt_some
def cS(W:World)(g x:Nat):Prop:=∃A c,Blk W g 122 #[.slice A (gr x).length c]∧RdU W A (gr x)∧(gr x).length≤c∧c≤maxLen
theorem RdU.slot{w:World}{A:Option Addr}{gs:List Nat}(h:RdU w A gs){g:Nat}{t:TypeId}{B:Option Addr}{n c:Nat}(hb:Blk w g t #[.slice B n c]):0<gs.length→∀b o,A=some ⟨b,o,none⟩→b≠g:=by
 intro hn b o e hbg;subst e;subst hbg;have h0:=Reads.cell h (j:=0) (u := .int .u64 (gs[0]'hn)) (by simp[ucells,hn]);rw[Nat.add_zero,hb.cell o]at h0;match o,h0 with
 |0,h0=>simp at h0
 |o+1,h0=>simp at h0
theorem RdU.put{w:World}{A:Option Addr}{gs:List Nat}(h:RdU w A gs){l:Nat}{lp:Loop}(hl:w.heap[l]? = some (.loop lp))(o':Obj):RdU (w.putObj l o') A gs:=by
 rcases Nat.eq_zero_or_pos gs.length with h0|h0
 ·exact⟨h.1,fun hn=>absurd hn (by omega)⟩
 ·exact Reads.put h hl (by simp) (by simpa[ucells] using h0) o'
theorem cS.ext{W W':World}{g x:Nat}(h:cS W g x)(hx:Ext W W'):cS W' g x:=by
 obtain⟨A,c,h1,h2,h3,h4⟩:=h;exact⟨A,c,h1.ext hx,h2.ext hx,h3,h4⟩
theorem cS.far{W:World}{g x g':Nat}{B:Option Addr}{n c:Nat}(h:cS W g x)(hb:Blk W g' 122 #[.slice B n c])(hne:g≠g')(u:Value):cS (W.setCell ⟨g',0,none⟩ u) g x:=by
 obtain⟨A,c',h1,h2,h3,h4⟩:=h;exact⟨A,c',h1.far (p:=⟨g',0,none⟩) hne u,h2.far u (h2.slot hb),h3,h4⟩
theorem cS.set_{W:World}{g x y:Nat}{A:Option Addr}{c:Nat}(h:cS W g y)(h2:RdU W A (gr x))(h3:(gr x).length≤c)(h4:c≤maxLen):cS (W.setCell ⟨g,0,none⟩ (.slice A (gr x).length c)) g x:=by
 obtain⟨A',c',k1,k2,k3,k4⟩:=h;have hb:=k1.set_ 0 (.slice A (gr x).length c);exact⟨A,c,hb,h2.far _ (h2.slot k1),h3,h4⟩
theorem cS.put{W:World}{g x l:Nat}{lp:Loop}(h:cS W g x)(hl:W.heap[l]? = some (.loop lp))(o':Obj)(hne:g≠l):cS (W.putObj l o') g x:=by
 obtain⟨A,c,h1,h2,h3,h4⟩:=h;exact⟨A,c,h1.put o' hne,h2.put hl o',h3,h4⟩
theorem cS.unique{W:World}{g x y:Nat}(h:cS W g x)(k:cS W g y):x=y:=by
 obtain⟨A,c,h1,h2,_,_⟩:=h;obtain⟨A',c',k1,k2,_,_⟩:=k
 have e:some (Obj.cells #[Value.slice A (gr x).length c] 122 (0,0))=some (Obj.cells #[Value.slice A' (gr y).length c'] 122 (0,0)):=by
  unfold Blk at h1 k1;rw[←h1,←k1]
 simp only[Option.some.injEq,Obj.cells.injEq,Array.mk.injEq,List.cons.injEq,Value.slice.injEq,and_true]at e;obtain⟨rfl,hl,rfl⟩:=e;apply iv;apply List.ext_getElem hl;intro i hi1 hi2;obtain⟨b,o,e1,_,hc⟩:=h2.at_ hi1;obtain⟨b',o',e2,_,hc'⟩:=k2.at_ hi2;rw[e1]at e2;injection e2 with e2
 injection e2 with e3 e4
 subst e3;subst e4;rw[hc]at hc';simp only[Option.some.injEq,Value.int.injEq,true_and]at hc';omega
structure GcAt (w:World) (g0 B:Nat) (lp:Loop) (x y o:Nat) (W:World):Prop where
 ext:Ext w W
 out:cS W g0 o
 m:cS W B x
 n:cS W (B+1) y
 D:W.heap[B+1+1]? = some (.deferred (some []))
 L:W.heap[B+1+1+1]? = some (.loop lp)
 lx:(gr x).length≤900000
 ly:(gr y).length≤900000
 lo:(gr o).length≤900000
 lw:w.heap.size≤g0
 lg:g0<B
section
variable {w:World} {g0 B:Nat} {lp lp':Loop} {x y o:Nat} {W W':World}
theorem GcAt.on(h:GcAt w g0 B lp x y o W)(hx:Ext W W'):GcAt w g0 B lp x y o W' :=
 ⟨h.ext.trans hx,h.out.ext hx,h.m.ext hx,h.n.ext hx,dK h.D hx,dK h.L hx,h.lx,h.ly,h.lo,h.lw,h.lg⟩
theorem GcAt.put(h:GcAt w g0 B lp x y o W):GcAt w g0 B lp' x y o (W.putObj (B+1+1+1) (.loop lp')):=by
 have hg:=h.lg;have hw:=h.lw;refine⟨h.ext.putObj (by omega) _,h.out.put h.L _ (by omega),h.m.put h.L _ (by omega),h.n.put h.L _ (by omega),me h.D (by omega),World.putObj_heap_same (Array.getElem?_eq_some_iff.1 h.L).1,h.lx,h.ly,h.lo,h.lw,h.lg⟩
theorem GcAt.take(h:GcAt w g0 B lp x y o W){A:Option Addr}{c:Nat}(_hb:Blk W B 122 #[.slice A (gr x).length c])(hr:RdU W A (gr x))(h3:(gr x).length≤c)(h4:c≤maxLen):GcAt w g0 B lp x y x (W.setCell ⟨g0,0,none⟩ (.slice A (gr x).length c)):=by
 have hg:=h.lg;have hw:=h.lw;obtain⟨Ao,co,k1,_⟩:=h.out;exact⟨h.ext.setCell hw _,h.out.set_ hr h3 h4,h.m.far k1 (by omega) _,h.n.far k1 (by omega) _,de h.D (by omega),de h.L (by omega),h.lx,h.ly,h.lx,h.lw,h.lg⟩
theorem GcAt.next(h:GcAt w g0 B lp x y o W){A A2:Option Addr}{c c2:Nat}(_hb:Blk W (B+1) 122 #[.slice A (gr y).length c])(hr:RdU W A (gr y))(h3:(gr y).length≤c)(h4:c≤maxLen){r:Nat}(hr2:RdU W A2 (gr r))(h5:(gr r).length≤c2)(h6:c2≤maxLen)(hl:(gr r).length≤900000) :
  GcAt w g0 B lp y r o ((W.setCell ⟨B,0,none⟩ (.slice A (gr y).length c)).setCell ⟨B+1,0,none⟩ (.slice A2 (gr r).length c2)):=by
 have hg:=h.lg;have hw:=h.lw;obtain⟨Am,cm,k1,_⟩:=h.m;have hn':cS (W.setCell ⟨B,0,none⟩ (.slice A (gr y).length c)) (B+1) y:=h.n.far k1 (by omega) _;have hm':cS (W.setCell ⟨B,0,none⟩ (.slice A (gr y).length c)) B y:=h.m.set_ hr h3 h4;have ho':cS (W.setCell ⟨B,0,none⟩ (.slice A (gr y).length c)) g0 o:=h.out.far k1 (by omega) _;have hr2':RdU (W.setCell ⟨B,0,none⟩ (.slice A (gr y).length c)) A2 (gr r):=hr2.far _ (hr2.slot k1);have hn2:=hn';obtain⟨An,cn,j1,_⟩:=hn2;exact⟨(h.ext.setCell (p:=⟨B,0,none⟩) (by dsimp only;omega) _).setCell (p:=⟨B+1,0,none⟩) (by dsimp only;omega) _,ho'.far j1 (by omega) _,hm'.far j1 (by omega) _,hn'.set_ hr2' h5 h6,de (de h.D (by omega)) (by omega),de (de h.L (by omega)) (by omega),h.ly,hl,h.lo,h.lw,h.lg⟩
end
theorem zk(A A':Option Addr)(a c a' c':Nat)(w:World) :
  Calls Tryz.prog 279 #[.slice A a c,.slice A' a' c'] w fun e w'=>e = .returned (.func (.func 309) #[] #[.pointer (some ⟨w.heap.size,0,none⟩),.pointer (some ⟨w.heap.size+1,0,none⟩)])∧w'=(w.alloc (.cells #[.slice A a c] 122)).alloc (.cells #[.slice A' a' c'] 122):=by
 go_enter Tryz.func279,Tryz.ntmps279;go_wp2_with fail;go_ret;exact⟨rfl,rfl⟩
def Dt(w:World)(g0 B:Nat)(lp:Loop)(x y:Nat)(e:Ending)(W':World):Prop:=e = .returned (.bool true)∧GcAt w g0 B lp x y x W'
theorem xe(n:Nat)(w:World)(g0 B:Nat)(lp:Loop)(G:Nat)
  (hY:∀x y o W A c A' c',GcAt w g0 B lp x y o W→Blk W B 122 #[.slice A (gr x).length c]→RdU W A (gr x)→(gr x).length≤c→c≤maxLen→YieldAt Fence.wide (n-1) Tryz.prog (B+1+1+1) #[.slice A (gr x).length c,.slice A' (gr y).length c'] W (Dt w g0 B lp x y))
  (x y o:Nat) (W:World) (h0:GcAt w g0 B lp x y o W) (hG:Nat.gcd x y=G) :
  CallsIn Fence.wide n Tryz.prog 309 #[.func (.yield (B+1+1+1)) #[] #[],.pointer (some ⟨B,0,none⟩),.pointer (some ⟨B+1,0,none⟩)] W fun e W'=>(∃v,e = .returned v)∧∃y,GcAt w g0 B lp G y G W':=by
 have hfn:∀k,Fence.wide.fn k:=fun _=>trivial
 have hdp:Fence.wide.depth.isSome=false:=rfl;have HY:=qh hY;have HG:=qh hG;have H0:=qh h0;clear hY hG h0;refine callsIn_of_wp Tryz.func309 rfl trivial ?_ rfl;simp only[Tryz.ntmps309,List.size_toArray,List.length_cons,List.length_nil,Nat.reduceAdd,Nat.reduceSub,Array.replicate_succ,Array.replicate_zero,List.push_toArray,List.append_toArray,List.nil_append,List.cons_append];gi_wp2
 gi_loopw [4,5] (fun _ _ wr=>∃x y o:Nat,GcAt w g0 B lp x y o wr∧Nat.gcd x y=G) (fun _ _ wr=>@Classical.epsilon Nat ⟨0⟩ (fun y=>cS wr (B+1) y))
 case atStart=>exact⟨x,y,o,H0.out,HG.out⟩
 case round =>
  clear HG H0;obtain⟨x,y,o,h,hg⟩:=hrel;have HM:Hid (@Classical.epsilon Nat ⟨0⟩ (fun y=>cS wr (B+1) y)=y):=qh ((Classical.epsilon_spec (p:=fun y=>cS wr (B+1) y) ⟨y,h.n⟩).unique h.n);obtain⟨A,c,k1,k2,k3,k4⟩:=h.m;obtain⟨A',c',j1,j2,j3,j4⟩:=h.n;obtain⟨fn,tmps,assign,body,hy,hR⟩:=HY.out x y o wr A c A' c' h k1 k2 k3 k4;have HR:=qh hR;have H:=qh h;have HGC:=qh hg;have x0:=k1.cell 0;have y0:=j1.cell 0;simp only[List.getElem?_toArray,List.getElem?_cons_zero]at x0 y0;clear h hg hR HY k1 k2 k3 k4 j1 j2 j3 j4;gi_wp2
  refine HR.out.mono ?_;rintro e W3⟨rfl,hK⟩;clear HR H;obtain⟨A,c,k1,k2,k3,k4⟩:=hK.m;obtain⟨A',c',j1,j2,j3,j4⟩:=hK.n;have x0:=k1.cell 0;have y0:=j1.cell 0;simp only[List.getElem?_toArray,List.getElem?_cons_zero]at x0 y0;have HK:=qh hK;by_cases hy0:y=0
  ·subst hy0;rw[Nat.gcd_zero_right]at HGC;have hl0:decide (0<(gr 0).length)=false:=by rw[gr_zero];rfl
   clear hK k1 k2 k3 k4 j1 j2 j3 j4;gi_wp2
   go_end0
   refine⟨⟨_,rfl⟩,0,?_⟩;have:=HK.out;rw[HGC.out]at this
   exact this
  ·have hl0:decide (0<(gr y).length)=true:=by
    rw[decide_eq_true_iff];rcases Nat.eq_zero_or_pos (gr y).length with e|e
    ·exact absurd (iv (by rw[List.length_eq_zero_iff.1 e,gr_zero]):y=0) hy0
    ·exact e
   have HDV:=qh (fun W h1 h2=>qL x y (by omega) A A' c c' W h1 h2 hK.lx hK.ly k3 k4);have HR1:=qh k2;have HR2:=qh j2;have HC2:=qh (And.intro j3 j4);have hgr:(gr (x % y)).length≤900000:=Nat.le_trans (jq (Nat.le_of_lt (Nat.mod_lt x (by omega)))) hK.ly;have HGR:=qh hgr;have HLT:Hid (x % y<y):=qh (Nat.mod_lt x (by omega));have HG2:Hid (Nat.gcd y (x % y)=G):=qh (by rw[←HGC.out,Nat.gcd_comm x y,Nat.gcd_rec y x,Nat.gcd_comm]);clear hK k1 k2 k3 k4 j1 j2 j3 j4 hgr hy0 HGC;gi_wp2_with (gi_at_call 213;refine(callsIn_wide.2 (HDV.out _ HR1.out HR2.out)).mono ?_;rintro e w5⟨A1,c1,A2,c2,rfl,hq,hr,hx,hqc,hrc⟩;(have HK5:=qh (HK.out.on hx));(have HR5:=qh (HR2.out.ext hx));(have HRR:=qh hr);(have HRC:=qh hrc);(obtain⟨Am,cm,m1,_⟩:=HK5.out.m);(obtain⟨An,cn,n1,n2,n3,n4⟩:=HK5.out.n);(have u0:=m1.cell 0);(have v0:=n1.cell 0);(have u1:=m1.frozen 0);(have v1:=n1.frozen 0);(simp only[List.getElem?_toArray,List.getElem?_cons_zero]at u0 v0);(have HN1:=qh n1);(have HN2:=qh n2);(have HN3:=qh (And.intro n3 n4));clear hq hr hx hqc hrc m1 n1 n2 n3 n4);go_roundw
   case rel=>exact⟨y,x % y,x,HK5.out.next HN1.out HN2.out HN3.out.1 HN3.out.2 HRR.out HRC.out.1 HRC.out.2 HGR.out,HG2.out⟩
   case measure =>
    rw[HM.out];have hn:=(HK5.out.next HN1.out HN2.out HN3.out.1 HN3.out.2 HRR.out HRC.out.1 HRC.out.2 HGR.out).n;rw[(Classical.epsilon_spec (p:=fun y=>cS _ (B+1) y) ⟨_,hn⟩).unique hn];exact HLT.out
theorem xf(n:Nat):txt false n=ofI n:=by rw[txt_ofI];rfl
theorem zl(x y:Value)(W:World):(Instr.field 124 (.agg #[x,y]) 1).run Tryz.prog W = .ok y W:=by kernel_rfl
theorem Du(a b:Bs)(ha:a.length≤100000)(hb:b.length≤100000):bc 223 #[.string (bs a),.string (bs b)] (.string (bs (ofI (Int.gcd (valI a) (valI b):Nat)))):=by
 intro w hE;have hfn:∀k,Fence.wide.fn k:=fun _=>trivial
 have hdp:Fence.wide.depth.isSome=false:=rfl;have HR1:=qh (fun W=>intRead a W (by omega));have HR2:=qh (fun W=>intRead b W (by omega));have HL1:Hid ((gr (natOf (mag a))).length≤900000):=qh (by have:=gr_len10 (mag_pow a ha);omega);have HL2:Hid ((gr (natOf (mag b))).length≤900000):=qh (by have:=gr_len10 (mag_pow b hb);omega);have HG:Hid (Nat.gcd (natOf (mag a)) (natOf (mag b))=Int.gcd (valI a) (valI b)):=qh (by rw[mJ,mJ];rfl);have HE:=qh hE;generalize Int.gcd (valI a) (valI b)=G at *;generalize natOf (mag a)=x at *;generalize natOf (mag b)=y at *;generalize neg a=ba at *;generalize neg b=bb at *;have hf:=zl;clear ha hb hE;refine(callsIn_wide (n:=5)).1 ?_;refine callsIn_of_wp_marks Tryz.func223 rfl trivial ?_ rfl;simp only[Tryz.ntmps223,List.size_toArray,List.length_cons,List.length_nil,Nat.reduceAdd,Nat.reduceSub,Array.replicate_succ,Array.replicate_zero,List.push_toArray,List.append_toArray,List.nil_append,List.cons_append];gi_wp2_with fail;refine(callsIn_wide.2 (HR1.out _)).mono ?_;rintro e w1⟨A,c,rfl,hrd1,hx1,hc1,hm1⟩;have HX:=qh ((Ext.new w (.cells #[.slice none 0 0] 122)).trans hx1);have HB:=qh ((Blk.new w 122 #[.slice none 0 0]).ext hx1);have HD1:=qh hrd1;have HC1:=qh (And.intro hc1 hm1);clear hrd1 hx1 hc1 hm1;gi_wp2_with fail;refine(callsIn_wide.2 (HR2.out _)).mono ?_;rintro e w2⟨A',c',rfl,hrd2,hx2,hc2,hm2⟩;replace HX:=HX.qt hx2;replace HB:=qh (HB.out.ext hx2);replace HD1:=qh (HD1.out.ext hx2);have HD2:=qh hrd2;have HC2:=qh (And.intro hc2 hm2);clear hrd2 hx2 hc2 hm2;gi_wp2_with fail;refine(callsIn_wide.2 (zk A A' _ c _ c' w2)).mono ?_;rintro e w3⟨rfl,rfl⟩;gi_wp2_with fail;refine iA rfl (by omega) (w2.heap.size+1+1) (by simp) rfl trivial (fun _ _=>by rfl) ?_;intro fn lp W1 hlp hW1 _;have hlt:=HB.out.lt;have hex:Ext w2 W1:=by subst hW1;exact(((Ext.new w2 _).alloc _).alloc _).alloc _
 refine(xe _ w w.heap.size w2.heap.size lp G ?hY x y 0 W1 ?h0 HG.out).mono ?_
 case h0 =>
  refine⟨HX.out.trans hex,⟨none,0,?_,?_,?_,by unfold maxLen;omega⟩,⟨A,c,?_,HD1.out.ext hex,HC1.out.1,HC1.out.2⟩,⟨A',c',?_,HD2.out.ext hex,HC2.out.1,HC2.out.2⟩,?_,?_,HL1.out,HL2.out,by rw[gr_zero];simp,Nat.le_refl _,hlt⟩
  ·rw[gr_zero];exact HB.out.ext hex
  ·rw[gr_zero];exact Reads.nil
  ·rw[gr_zero];exact Nat.le_refl _
  ·subst hW1;exact(((Blk.newAt _ _ _ _ rfl).alloc _).alloc _).alloc _
  ·subst hW1;exact((Blk.newAt _ _ _ _ (by simp)).alloc _).alloc _
  ·subst hW1;exact rL (newAt _ _ _ (by simp))
  ·subst hW1;exact newAt _ _ _ (by simp)
 case hY =>
  intro x y o W A c A' c' h k1 k2 k3 k4;have e1:=congrArg Loop.assign hlp;have e2:=congrArg Loop.body hlp;have e3:=congrArg Loop.tmps hlp;have e4:=congrArg Loop.params hlp;have e5:{ lp with state := .ready,pending:=none }=lp:=by rw[hlp];rfl
  obtain⟨lb,hlb⟩:∃lb,{ lp with state := .busy }=lb:=⟨_,rfl⟩;simp only[eF]at e1 e2 e3 e4;refine eU (rec:=lp) h.L (by rw[hlp];rfl) (by rw[hlp];rfl) trivial e1 e2 e4 e3 (Ib _ _ _ _ _) hlb ?_;clear e1 e2 e3 e4 hlp hW1 hex;have HL0:=qh h.L;have HP:=qh (h.put (lp':=lb));have HK1:=qh (k1.put (.loop lb) (l:=w2.heap.size+1+1+1) (by omega));have HK2:=qh (k2.put h.L (.loop lb));have HK3:=qh (And.intro k3 k4);have HLB:=qh hlb;have HE5:=qh e5;clear h k1 k2 k3 k4 hlb e5;gi_wp2
  refine⟨HL0.out,?_⟩;generalize W.putObj (w2.heap.size+1+1+1) (.loop lb)=Wb at *;obtain⟨Ao,co,o1,_⟩:=HP.out.out;have u0:=o1.cell 0;have u1:=o1.frozen 0;simp only[List.getElem?_toArray,List.getElem?_cons_zero]at u0;clear o1;gi_wp2
  have hT:=HP.out.take HK1.out HK2.out HK3.out.1 HK3.out.2;refine⟨by rw[HLB.out];exact hT.L,rfl,?_⟩;rw[HE5.out];exact hT.put
 rintro e W⟨hv,y',h⟩;refine⟨hv,.inl ⟨h.L,?_⟩⟩;have hP:=h.put (lp':={ lp with state := .exhausted });generalize W.putObj (w2.heap.size+1+1+1) (.loop { lp with state := .exhausted })=W3 at *;clear h hv hW1 hlp W1 hex;obtain⟨Ao,co,o1,o2,o3,o4⟩:=hP.out;have u0:=o1.cell 0;simp only[List.getElem?_toArray,List.getElem?_cons_zero]at u0;have HP:=qh hP;have HT:=qh (fun W hr hE=>intText false G Ao co W hr (Nat.le_trans hP.lo (by omega)) o3 o4 hE);rw[xf]at HT;have HO:=qh o2;clear hP o1 o2 o3 o4;gi_wp2_with (gi_at_call 80;refine(callsIn_wide.2 (HT.out _ HO.out (HE.out.ext HP.out.ext))).mono ?_;rintro e w5⟨rfl,hx5⟩;(have HX5:=qh (HP.out.ext.trans hx5));(have HD5:=qh (dK HP.out.D hx5));clear hx5);refine⟨by simp,.inl ⟨_,_,rfl,run_takeDeferred HD5.out,?_⟩⟩;refine⟨.string (bs (ofI (G:Nat))),by simp[results,Tryz.results223,go_sem],?_⟩;exact⟨rfl,HX5.out.putObj (by have:=HP.out.lg;omega) _⟩
end
section
open Go.RowKit
attribute [local go_sem] size_bs toList_bs
abbrev fv(f:Fr):Value := .agg #[.string (bs f.num),.string (bs f.den)]
def dn(f:Fr):Bs:=if valI f.den=0 then [49] else f.den
theorem dA(f:Fr):valI (dn f)=oX f:=by unfold dn oX;split;exact i6;rfl
theorem iC(f:Fr){L:Nat}(h:f.den.length≤L)(h1:1≤L):(dn f).length≤L:=by unfold dn;split;exact h1;exact h
theorem kO{z:Int}{l:Bs}(h:z.natAbs≤(valI l).natAbs){L:Nat}(hl:l.length≤L):(ofI z).length≤L+1:=bu (Nat.lt_of_le_of_lt h (aF hl))
theorem dQ{fn:Func}{a:Tmp}(h:fn.results=#[.cell a 26])(tmps:Array Value)(w:World)(g:Nat)(x y:Value)(ha:tmps.getD a undef = .pointer (some ⟨g,0,none⟩))(hb:Blk w g 26 #[x,y]) :
  (results fn tmps).run Tryz.prog w = .ok (.agg #[x,y]) w:=by
 have h0:=hb.cell 0;have h1:=hb.cell 1;simp only[List.getElem?_toArray,List.getElem?_cons_zero,List.getElem?_cons_succ]at h0 h1;unfold results;rw[h];simp only[List.mapM_toArray,List.mapM_cons,List.mapM_nil,ha];go_simp
theorem ah{w w':World}{g:Nat}{x y:Value}(h:Blk w g 26 #[x,y])(hx:Ext w w'):w'.cell? ⟨g,0,none⟩=some x∧w'.cell? ⟨g,1,none⟩=some y∧w'.frozen? ⟨g,0,none⟩=false∧w'.frozen? ⟨g,1,none⟩=false:=by
 have k:=h.ext hx;have h0:=k.cell 0;have h1:=k.cell 1;simp only[List.getElem?_toArray,List.getElem?_cons_zero,List.getElem?_cons_succ]at h0 h1;exact⟨h0,h1,k.frozen 0,k.frozen 1⟩
theorem Dv{n d:Int}(hd:d≠0):(d<0→eS (-n) (Int.gcd (-n) (-d):Nat)=iy n d∧eS (-d) (Int.gcd (-n) (-d):Nat)=fR n d)∧(¬ d<0→eS n (Int.gcd n d:Nat)=iy n d∧eS d (Int.gcd n d:Nat)=fR n d):=by
 have hg:=pP (n:=n) hd;constructor
 ·intro h;rw[Int.neg_gcd,Int.gcd_neg,gY (by omega),gY (by omega)];unfold iy fR;rw[if_pos h];refine⟨rfl,?_⟩;rw[show -d=(d.natAbs:Int) by omega];rfl
 ·intro h;rw[gY (by omega),gY (by omega)];unfold iy fR;rw[if_neg h];refine⟨rfl,?_⟩;have e:d=(d.natAbs:Int):=by omega
  generalize Int.gcd n d=g at *;rw[e];simp
theorem vJ{n d:Int}(hd:d≠0):(Int.gcd n d)≤d.natAbs:=Int.gcd_le_natAbs_right n hd
theorem nK(n d:Bs)(hn:n.length≤90000)(hd:d.length≤90000)(h0:valI d≠0) :
  bc 159 #[.string (bs n),.string (bs d)] (.tuple #[.string (bs (ofI (iy (valI n) (valI d)))),.string (bs (ofI (fR (valI n) (valI d))))]):=by
 intro w hE;have HE:=qh hE;have HC:=qh (gk d (by omega));have hr:=Dv (n:=valI n) h0;have hgp:=pP (n:=valI n) h0;have hgle:=vJ (n:=valI n) h0;have hgl:(ofI (Int.gcd (valI n) (valI d):Nat)).length≤90001:=kO (l:=d) (by rw[Int.natAbs_natCast];exact hgle) hd;by_cases hneg:valI d<0
 ·have hb:decide (cmpI (valI d) 0<0)=true:=by rw[decide_eq_true_iff,cmpI];rw[if_pos hneg];omega
  have HN1:=qh (vG n (by omega));have HN2:=qh (vG d (by omega));have hl1:(ofI (-(valI n))).length≤90001:=kO (l:=n) (by omega) hn;have hl2:(ofI (-(valI d))).length≤90001:=kO (l:=d) (by omega) hd;have HG:=qh (Du (ofI (-(valI n))) (ofI (-(valI d))) (by omega) (by omega));rw[ag,ag]at HG;have hge:Int.gcd (-(valI n)) (-(valI d))=Int.gcd (valI n) (valI d):=by rw[Int.neg_gcd,Int.gcd_neg]
  have HD1:=qh (mK (ofI (-(valI n))) (ofI (Int.gcd (-(valI n)) (-(valI d)):Nat)) (by omega) (by rw[hge];omega) (by rw[ag,hge];omega));have HD2:=qh (mK (ofI (-(valI d))) (ofI (Int.gcd (-(valI n)) (-(valI d)):Nat)) (by omega) (by rw[hge];omega) (by rw[ag,hge];omega));rw[ag,ag]at HD1 HD2;rw[(hr.1 hneg).1]at HD1;rw[(hr.1 hneg).2]at HD2;clear hr hgp hgle hgl hl1 hl2 hge hE;generalize iy (valI n) (valI d)=rn at *;generalize fR (valI n) (valI d)=rd at *;generalize gD (-(valI n)) _=m1 at *;generalize gD (-(valI d)) _=m2 at *;generalize ofI (Int.gcd (-(valI n)) (-(valI d)):Nat)=gs at *;generalize ofI (-(valI n))=nn at *;generalize ofI (-(valI d))=dd at *;generalize cmpI (valI d) 0=cc at *;clear h0 hneg hn hd;go_enter Tryz.func159,Tryz.ntmps159;go_wp2_with fail;refine(HC.out _ HE.out).mono ?_;rintro e w1⟨rfl,hx1⟩;have HX:=qh hx1;clear hx1;go_wp2_with fail;refine(HN1.out _ (HE.out.ext HX.out)).mono ?_;rintro e w2⟨rfl,hx2⟩;replace HX:=HX.qt hx2;clear hx2;go_wp2_with fail;refine(HN2.out _ (HE.out.ext HX.out)).mono ?_;rintro e w3⟨rfl,hx2⟩;replace HX:=HX.qt hx2;clear hx2;go_wp2_with fail;refine(HG.out _ (HE.out.ext HX.out)).mono ?_;rintro e w4⟨rfl,hx2⟩;replace HX:=HX.qt hx2;clear hx2;go_wp2_with fail;refine(HD1.out _ (HE.out.ext HX.out)).mono ?_;rintro e w5⟨rfl,hx2⟩;replace HX:=HX.qt hx2;clear hx2;go_wp2_with fail;refine(HD2.out _ (HE.out.ext HX.out)).mono ?_;rintro e w6⟨rfl,hx2⟩;replace HX:=HX.qt hx2;clear hx2;go_wp2_with fail;go_ret2;exact⟨rfl,HX.out⟩
 ·have hb:decide (cmpI (valI d) 0<0)=false:=by rw[decide_eq_false_iff_not,cC];omega
  have HG:=qh (Du n d (by omega) (by omega));have HD1:=qh (mK n (ofI (Int.gcd (valI n) (valI d):Nat)) (by omega) (by omega) (by rw[ag];omega));have HD2:=qh (mK d (ofI (Int.gcd (valI n) (valI d):Nat)) (by omega) (by omega) (by rw[ag];omega));rw[ag]at HD1 HD2;rw[(hr.2 hneg).1]at HD1;rw[(hr.2 hneg).2]at HD2;clear hr hgp hgle hgl hE;generalize iy (valI n) (valI d)=rn at *;generalize fR (valI n) (valI d)=rd at *;generalize gD (valI n) _=m1 at *;generalize gD (valI d) _=m2 at *;generalize ofI (Int.gcd (valI n) (valI d):Nat)=gs at *;generalize cmpI (valI d) 0=cc at *;clear h0 hneg hn hd;go_enter Tryz.func159,Tryz.ntmps159;go_wp2_with fail;refine(HC.out _ HE.out).mono ?_;rintro e w1⟨rfl,hx1⟩;have HX:=qh hx1;clear hx1;go_wp2_with fail;refine(HG.out _ (HE.out.ext HX.out)).mono ?_;rintro e w4⟨rfl,hx2⟩;replace HX:=HX.qt hx2;clear hx2;go_wp2_with fail;refine(HD1.out _ (HE.out.ext HX.out)).mono ?_;rintro e w5⟨rfl,hx2⟩;replace HX:=HX.qt hx2;clear hx2;go_wp2_with fail;refine(HD2.out _ (HE.out.ext HX.out)).mono ?_;rintro e w6⟨rfl,hx2⟩;replace HX:=HX.qt hx2;clear hx2;go_wp2_with fail;go_ret2;exact⟨rfl,HX.out⟩
theorem oD(n d:Bs)(hn:n.length≤90000)(hd:d.length≤90000)(h0:valI d≠0) :
  bc 93 #[.string (bs n),.string (bs d)] (fv (bz (Rat.divInt (valI n) (valI d)))):=by
 intro w hE;rw[←BS h0];have HE:=qh hE;have HR:=qh (nK n d hn hd h0);unfold Ds
 have hone:fR (valI n) (valI d)=1↔ofI (fR (valI n) (valI d))=[49]:=by
  rw[←BX];exact⟨fun h=>by rw[h],fun h=>BW h⟩
 generalize iy (valI n) (valI d)=rn at *;generalize fR (valI n) (valI d)=rd at *;clear h0 hn hd hE;have HF1:Hid (rd=1→(⟨ofI rn,if rd=1 then [] else ofI rd⟩:Fr)=⟨ofI rn,[]⟩):=qh (fun h=>by rw[if_pos h]);have HF2:Hid (¬ rd=1→(⟨ofI rn,if rd=1 then [] else ofI rd⟩:Fr)=⟨ofI rn,ofI rd⟩):=qh (fun h=>by rw[if_neg h]);generalize (⟨ofI rn,if rd=1 then [] else ofI rd⟩:Fr)=r at *;have HB:=qh (Blk.new w 26 #[.string ⟨#[]⟩,.string ⟨#[]⟩]);have HX0:Hid (Ext w (w.alloc (.cells #[.string ⟨#[]⟩,.string ⟨#[]⟩] 26))):=qh (Ext.new _ _);go_enter Tryz.func93,Tryz.ntmps93;go_wp2_with fail;refine(HR.out _ (HE.out.ext HX0.out)).mono ?_;rintro e w1⟨rfl,hx1⟩;obtain⟨q0,q1,f0,f1⟩:=ah HB.out hx1;have HB1:=qh (HB.out.ext hx1);have HX:=HX0.qt hx1;clear hx1;by_cases h1:rd=1
 ·have hb:(ofI rd == [49])=true:=by rw[beq_iff_eq];exact hone.1 h1
  have H1:=qh h1;clear hone h1;go_wp2_with fail;refine bodyPost_ret (dQ rfl _ _ w.heap.size (.string (bs (ofI rn))) (.string ⟨#[]⟩) rfl ((HB1.out.set_ 0 _).set_ 1 _)) rfl ?_;refine⟨?_,(HX.out.setCell (p:=⟨w.heap.size,0,none⟩) (Nat.le_refl _) _).setCell (p:=⟨w.heap.size,1,none⟩) (Nat.le_refl _) _⟩;rw[HF1.out H1.out];rfl
 ·have hb:(ofI rd == [49])=false:=by rw[beq_eq_false_iff_ne];exact fun h=>h1 (hone.2 h)
  have H1:=qh h1;clear hone h1;go_wp2_with fail;refine bodyPost_ret (dQ rfl _ _ w.heap.size (.string (bs (ofI rn))) (.string (bs (ofI rd))) rfl ((HB1.out.set_ 0 _).set_ 1 _)) rfl ?_;refine⟨?_,(HX.out.setCell (p:=⟨w.heap.size,0,none⟩) (Nat.le_refl _) _).setCell (p:=⟨w.heap.size,1,none⟩) (Nat.le_refl _) _⟩;rw[HF2.out H1.out]
theorem ic(f:Fr)(hd:f.den.length≤90000) :
  bc 96 #[fv f] (.tuple #[.string (bs f.num),.string (bs (dn f))]):=by
 intro w hE;have HE:=qh hE;obtain⟨n,d⟩:=f;have HC:=qh (gk d (by simpa using Nat.le_trans hd (by omega)));have HF1:Hid (valI d=0→dn ⟨n,d⟩=[49]):=qh (fun h=>by unfold dn;rw[if_pos h]);have HF2:Hid (¬ valI d=0→dn ⟨n,d⟩=d):=qh (fun h=>by unfold dn;rw[if_neg h]);generalize dn ⟨n,d⟩=r at *;have HB:=qh (Blk.new w 26 #[.string (bs n),.string (bs d)]);have HX0:Hid (Ext w (w.alloc (.cells #[.string (bs n),.string (bs d)] 26))):=qh (Ext.new _ _);clear hE hd;by_cases h0:valI d=0
 ·have hb:(cmpI (valI d) 0 == 0)=true:=by rw[beq_iff_eq,eZ];exact h0
  have H0:=qh h0;clear h0;go_enter Tryz.func96,Tryz.ntmps96;go_wp2_with fail;refine(HC.out _ (HE.out.ext HX0.out)).mono ?_;rintro e w1⟨rfl,hx1⟩;obtain⟨q0,q1,f0,f1⟩:=ah HB.out hx1;have HX:=HX0.qt hx1;clear hx1;go_wp2_with fail;go_ret2;exact⟨by rw[HF1.out H0.out];rfl,HX.out⟩
 ·have hb:(cmpI (valI d) 0 == 0)=false:=by rw[beq_eq_false_iff_ne,Ne,eZ];exact h0
  have H0:=qh h0;clear h0;go_enter Tryz.func96,Tryz.ntmps96;go_wp2_with fail;refine(HC.out _ (HE.out.ext HX0.out)).mono ?_;rintro e w1⟨rfl,hx1⟩;obtain⟨q0,q1,f0,f1⟩:=ah HB.out hx1;have HX:=HX0.qt hx1;clear hx1;go_wp2_with fail;go_quiet (fail);go_wp2_with fail;go_ret2;exact⟨by rw[HF2.out H0.out];rfl,HX.out.drewN _⟩
end
section
open Go.RowKit
attribute [local go_sem] size_bs toList_bs
theorem o8(a:Bs)(ha:a.length≤90000):bc 36 #[.string (bs a)] (fv (bz (valI a:Int))):=by
 intro w hE;have HE:=qh hE;have hm:=oD a [49] ha (by simp) (by rw[i6];decide);rw[i6,vB]at hm;have HM:=qh hm;have HB:=qh (Blk.new w 26 #[.string ⟨#[]⟩,.string ⟨#[]⟩]);have HX0:Hid (Ext w (w.alloc (.cells #[.string ⟨#[]⟩,.string ⟨#[]⟩] 26))):=qh (Ext.new _ _);generalize bz (valI a:Int)=r at *;clear hE hm;go_enter Tryz.func36,Tryz.ntmps36;go_wp2_with fail;refine(HM.out _ (HE.out.ext HX0.out)).mono ?_;rintro e w1⟨rfl,hx1⟩;obtain⟨q0,q1,f0,f1⟩:=ah HB.out hx1;have HB1:=qh (HB.out.ext hx1);have HX:=HX0.qt hx1;clear hx1;go_wp2_with fail;refine bodyPost_ret (dQ rfl _ _ w.heap.size (.string (bs r.num)) (.string (bs r.den)) rfl ((HB1.out.set_ 0 _).set_ 1 _)) rfl ?_;exact⟨rfl,(HX.out.setCell (p:=⟨w.heap.size,0,none⟩) (Nat.le_refl _) _).setCell (p:=⟨w.heap.size,1,none⟩) (Nat.le_refl _) _⟩
theorem vK(f:Fr)(h1:f.num.length≤80000)(h2:f.den.length≤80000):bc 143 #[fv f] (.tuple #[.string (bs (ofI (aj f).num)),.string (bs (ofI ((aj f).den:Int)))]):=by
 intro w hE;have HE:=qh hE;have HP:=qh (ic f (by omega));have hm:=nK f.num (dn f) (by omega) (iC f (by omega) (by omega)) (by rw[dA];exact eT f);rw[dA,nZ (eT f),oh (eT f),show Rat.divInt (valI f.num) (oX f)=aj f from rfl]at hm;have HM:=qh hm;generalize (aj f).num=rn at *;generalize ((aj f).den:Int)=rd at *;generalize dn f=dd at *;obtain⟨n,d⟩:=f;clear hE hm h1 h2;have HX0:Hid (Ext w (w.alloc (.cells #[.string (bs n),.string (bs d)] 26))):=qh (Ext.new _ _);go_enter Tryz.func143,Tryz.ntmps143;go_wp2_with fail;refine(HP.out _ (HE.out.ext HX0.out)).mono ?_;rintro e w1⟨rfl,hx1⟩;have HX:=HX0.qt hx1;clear hx1;go_wp2_with fail;refine(HM.out _ (HE.out.ext HX.out)).mono ?_;rintro e w2⟨rfl,hx1⟩;replace HX:=HX.qt hx1;clear hx1;go_wp2_with fail;go_ret2;exact⟨rfl,HX.out⟩
end
section
open Go.RowKit
attribute [local go_sem] size_bs toList_bs
abbrev sO:Value := .func (.func 160) #[] #[]
abbrev rM(W:World)(g:Nat):Prop:=Blk W g 47 #[sO]
theorem d8{W:World}{g:Nat}(h:rM W g):W.cell? ⟨g,0,none⟩=some sO:=by
 have:=h.cell 0;simpa using this
abbrev vL(k g:Nat)(a b c d n m:Bs):Prop:=∀W,Env W→rM W g→Calls Tryz.prog k #[.string (bs a),.string (bs b),.string (bs c),.string (bs d),.pointer (some ⟨g,0,none⟩)] W fun e w'=>e = .returned (.tuple #[.string (bs n),.string (bs m)])∧Ext W w'
theorem Dw(g:Nat)(a b c d:Bs)(ha:a.length≤30000)(hb:b.length≤30000)(hc:c.length≤30000)(hd:d.length≤30000) :
  vL 161 g a b c d (ofI (valI a*valI d+valI c*valI b)) (ofI (valI b*valI d)):=by
 intro w hE hM;have HE:=qh hE;have HM:=qh hM;have H1:=qh (mc a d (by omega) (by omega));have H2:=qh (mc c b (by omega) (by omega));have H3:=qh (mc b d (by omega) (by omega));have H4:=qh (fS (ofI (valI a*valI d)) (ofI (valI c*valI b)) (by have:=gj ha hd;omega) (by have:=gj hc hb;omega));rw[ag,ag]at H4;generalize ofI (valI a*valI d+valI c*valI b)=z at *;generalize ofI (valI a*valI d)=z1 at *;generalize ofI (valI c*valI b)=z2 at *;generalize ofI (valI b*valI d)=z3 at *;have hq:=d8 hM;have HX:Hid (Ext w w):=qh (Ext.refl w);clear hE hM ha hb hc hd;go_enter Tryz.func161,Tryz.ntmps161;go_wp2_with fail;replace HX:Hid (Ext w w.drew):=qh HX.out.drew
 go_region_held3 (fun w'=>w'.cell? ⟨g,0,none⟩=some sO)
  (go_keep)
  (first
   |(go_at_call 160;((with_reducible refine(H1.out _ (HE.out.ext HX.out)).mono ?_);rintro e w1⟨rfl,hx⟩);(replace HX:=HX.qt hx);(have q1:=d8 (HM.out.ext HX.out));clear hx H1)
   |(go_at_call 160;((with_reducible refine(H2.out _ (HE.out.ext HX.out)).mono ?_);rintro e w2⟨rfl,hx⟩);(replace HX:=HX.qt hx);(have q2:=d8 (HM.out.ext HX.out));clear hx H2)
   |(go_at_call 160;((with_reducible refine(H3.out _ (HE.out.ext HX.out)).mono ?_);rintro e w3⟨rfl,hx⟩);(replace HX:=HX.qt hx);(have q3:=d8 (HM.out.ext HX.out));clear hx H3)
   |(go_at_call 21;((with_reducible refine(H4.out _ (HE.out.ext HX.out)).mono ?_);rintro e w4⟨rfl,hx⟩);(replace HX:=HX.qt hx);(have q4:=d8 (HM.out.ext HX.out));clear hx H4))
 all_goals
  go_wp2_with fail;go_ret2;exact⟨rfl,HX.out⟩
theorem B8(g:Nat)(a b c d:Bs)(ha:a.length≤30000)(hb:b.length≤30000)(hc:c.length≤30000)(hd:d.length≤30000) :
  vL 162 g a b c d (ofI (valI a*valI d-valI c*valI b)) (ofI (valI b*valI d)):=by
 intro w hE hM;have HE:=qh hE;have HM:=qh hM;have H1:=qh (mc a d (by omega) (by omega));have H2:=qh (mc c b (by omega) (by omega));have H3:=qh (mc b d (by omega) (by omega));have H4:=qh (gX (ofI (valI a*valI d)) (ofI (valI c*valI b)) (by have:=gj ha hd;omega) (by have:=gj hc hb;omega));rw[ag,ag]at H4;generalize ofI (valI a*valI d-valI c*valI b)=z at *;generalize ofI (valI a*valI d)=z1 at *;generalize ofI (valI c*valI b)=z2 at *;generalize ofI (valI b*valI d)=z3 at *;have hq:=d8 hM;have HX:Hid (Ext w w):=qh (Ext.refl w);clear hE hM ha hb hc hd;go_enter Tryz.func162,Tryz.ntmps162;go_wp2_with fail;replace HX:Hid (Ext w w.drew):=qh HX.out.drew
 go_region_held3 (fun w'=>w'.cell? ⟨g,0,none⟩=some sO)
  (go_keep)
  (first
   |(go_at_call 160;((with_reducible refine(H1.out _ (HE.out.ext HX.out)).mono ?_);rintro e w1⟨rfl,hx⟩);(replace HX:=HX.qt hx);(have q1:=d8 (HM.out.ext HX.out));clear hx H1)
   |(go_at_call 160;((with_reducible refine(H2.out _ (HE.out.ext HX.out)).mono ?_);rintro e w2⟨rfl,hx⟩);(replace HX:=HX.qt hx);(have q2:=d8 (HM.out.ext HX.out));clear hx H2)
   |(go_at_call 160;((with_reducible refine(H3.out _ (HE.out.ext HX.out)).mono ?_);rintro e w3⟨rfl,hx⟩);(replace HX:=HX.qt hx);(have q3:=d8 (HM.out.ext HX.out));clear hx H3)
   |(go_at_call 27;((with_reducible refine(H4.out _ (HE.out.ext HX.out)).mono ?_);rintro e w4⟨rfl,hx⟩);(replace HX:=HX.qt hx);(have q4:=d8 (HM.out.ext HX.out));clear hx H4))
 all_goals
  go_wp2_with fail;go_ret2;exact⟨rfl,HX.out⟩
theorem Cb(g:Nat)(a b c d:Bs)(ha:a.length≤30000)(hb:b.length≤30000)(hc:c.length≤30000)(hd:d.length≤30000) :
  vL 163 g a b c d (ofI (valI a*valI c)) (ofI (valI b*valI d)):=by
 intro w hE hM;have HE:=qh hE;have HM:=qh hM;have H1:=qh (mc a c (by omega) (by omega));have H3:=qh (mc b d (by omega) (by omega));generalize ofI (valI a*valI c)=z1 at *;generalize ofI (valI b*valI d)=z3 at *;have hq:=d8 hM;have HX:Hid (Ext w w):=qh (Ext.refl w);clear hE hM ha hb hc hd;go_enter Tryz.func163,Tryz.ntmps163;go_wp2_with fail;replace HX:Hid (Ext w w.drew):=qh HX.out.drew
 go_region_held3 (fun w'=>w'.cell? ⟨g,0,none⟩=some sO)
  (go_keep)
  (first
   |(go_at_call 160;((with_reducible refine(H1.out _ (HE.out.ext HX.out)).mono ?_);rintro e w1⟨rfl,hx⟩);(replace HX:=HX.qt hx);(have q1:=d8 (HM.out.ext HX.out));clear hx H1)
   |(go_at_call 160;((with_reducible refine(H3.out _ (HE.out.ext HX.out)).mono ?_);rintro e w3⟨rfl,hx⟩);(replace HX:=HX.qt hx);(have q3:=d8 (HM.out.ext HX.out));clear hx H3))
 all_goals
  go_wp2_with fail;go_ret2;exact⟨rfl,HX.out⟩
end
end Go.Proofs.YthgpheopnhajaaaGreatDoor
