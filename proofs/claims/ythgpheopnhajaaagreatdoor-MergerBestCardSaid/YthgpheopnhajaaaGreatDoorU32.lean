/- The seat's texts, part U32. -/
import Derived.Test.YthgpheopnhajaaaGreatDoorU16
import Derived.Test.YthgpheopnhajaaaGreatDoorU29
import Derived.Test.YthgpheopnhajaaaGreatDoorU31
import Derived.BigQuiet
import Derived.Sort.QuietIn
set_option maxRecDepth 100000
set_option maxHeartbeats 8000000
namespace Go.Proofs.YthgpheopnhajaaaGreatDoor
section
open Go.RowKit Go.Shelf
attribute [local go_sem] size_bs toList_bs Oper.semAt_some
abbrev exN1:LotV:=⟨[120,47,49],[100,101,102],19700,19700,[53],[57,51],[53]⟩
abbrev exN2:LotV:=⟨[120,47,50],[100,101,102],19710,19710,[50],[49,57],[50]⟩
def ApEnds (w:World) (e:Ending) (w':World):Prop:=∃ AL cl gG oG cg AS n cs AE,e = .returned (.tuple #[.agg #[.slice AL 2 cl,.slice (some ⟨gG,oG,none⟩) 2 cg,.slice AS n cs,.slice AE 1 1],.int .i64 0])∧RdL w' AL [exN1,exN2] ∧
 w'.cell? ⟨gG,oG+6,none⟩=some (.string (bs [50,53]))∧w'.cell? ⟨gG,oG+10+7,none⟩=some (.string (bs [49]))∧Ext w w'
abbrev gcA (x:LotV) (p l:Bs):Array Value:=#[.string (bs exKey),.string (bs x.id),.string (bs exIns),.int .i64 x.acq,.int .i64 19723,.string ⟨#[]⟩,.string (bs p),.string (bs l),.string ⟨#[]⟩,.string ⟨#[]⟩]
def gcell (x:LotV) (p l:Bs):List Value:=[.string (bs exKey),.string (bs x.id),.string (bs exIns),.int .i64 x.acq,.int .i64 19723,.string ⟨#[]⟩,.string (bs p),.string (bs l),.string ⟨#[]⟩,.string ⟨#[]⟩]
def gsC (k:Nat):List Value:=(gcell exL1 [50,53] [55]++gcell exL2 [49,51] [49]).take (10*k)
def RJ (W0:World) (U V:Nat) (lp:Loop) (k:Nat) (W:World):Prop:=∃ vg vs vf ks ss,RB W0 U V lp vg vs vf k ks k (gsC k) ss (lots ([exN1,exN2].take k)) W∧ks≤2*k
theorem svBlk {w w':World} {g:Nat} {x:LotV} {n p k:Bs} (h:Blk w g 102 (svC x n p k)) (hx:Ext w w') :
  w'.cell? ⟨g,0,none⟩=some (.string (bs x.id))∧w'.cell? ⟨g,1,none⟩=some (.string (bs x.ins))∧w'.cell? ⟨g,2,none⟩=some (.int .i64 x.acq)∧w'.cell? ⟨g,3,none⟩=some (.int .i64 x.opn)∧w'.cell? ⟨g,4,none⟩=some (.string (bs x.q)) ∧
  w'.cell? ⟨g,5,none⟩=some (.string (bs x.c))∧w'.cell? ⟨g,6,none⟩=some (.string (bs x.u))∧w'.cell? ⟨g,7,none⟩=some (.string (bs n))∧w'.cell? ⟨g,8,none⟩=some (.string (bs p))∧w'.cell? ⟨g,9,none⟩=some (.string (bs k)):=by
 have k:=h.ext hx
 exact ⟨k.cell 0,k.cell 1,k.cell 2,k.cell 3,k.cell 4,k.cell 5,k.cell 6,k.cell 7,k.cell 8,k.cell 9⟩
theorem one_gcell (x:LotV) (p l:Bs):∀ u ∈ gcell x p l,u.oneCell'=true:=by
 intro u hu
 unfold gcell at hu
 simp only [List.mem_cons,List.not_mem_nil,or_false] at hu
 rcases hu with rfl | rfl | rfl | rfl | rfl | rfl | rfl | rfl | rfl | rfl <;> rfl
abbrev stA (a b c d e:Value):Array Value:=#[.string (bs exKey),a,b,c,d,e]
theorem one_st (x y z u v:Bs):∀ t ∈ [Value.string (bs exKey),.string (bs x),.string (bs y),.string (bs z),.string (bs u),.string (bs v)],t.oneCell'=true:=by
 intro t hu
 simp only [List.mem_cons,List.not_mem_nil,or_false] at hu
 rcases hu with rfl | rfl | rfl | rfl | rfl | rfl <;> rfl
theorem one_st2 (x v:Bs):∀ t ∈ [Value.string (bs exKey),.string (bs x),.string ⟨#[]⟩,.string ⟨#[]⟩,.string ⟨#[]⟩,.string (bs v)],t.oneCell'=true:=by
 intro t hu
 simp only [List.mem_cons,List.not_mem_nil,or_false] at hu
 rcases hu with rfl | rfl | rfl | rfl | rfl | rfl <;> rfl
theorem gs1:gsC 1=gsC 0++gcell exL1 [50,53] [55]:=by rfl
theorem gs2:gsC 2=gsC 1++gcell exL2 [49,51] [49]:=by rfl
theorem nl1:lots (List.take 1 [exN1,exN2])=lots (List.take 0 [exN1,exN2])++lotCells exN1:=by rfl
theorem nl2:lots (List.take 2 [exN1,exN2])=lots (List.take 1 [exN1,exN2])++lotCells exN2:=by rfl
theorem RJ.mk {W0:World} {U V:Nat} {lb lp:Loop} {vg vs vf:Value} {k ks:Nat} {gs ss fs:List Value} {W:World} (h:RB W0 U V lb vg vs vf k ks k gs ss fs W) (hU:U<W0.heap.size) (hV:V<W0.heap.size) (hg:gsC k=gs) (hf:lots (List.take k [exN1,exN2])=fs) (hk:ks≤2*k):RJ W0 U V lp k (W.putObj (W0.heap.size+1) (.loop lp)):=by
 subst hg
 subst hf
 exact ⟨vg,vs,vf,ks,ss,h.put hU hV,hk⟩
structure OP (W0:World) (U V:Nat) (vg vs vf:Value) (k:Nat) (W:World):Prop where
 ex:Ex2 W0 U V W
 u:∃ Ak ck,Blk W U rT #[.slice Ak k ck,vg,vs,.slice none 0 0]∧RdL W Ak ([exN1,exN2].take k)∧k≤ck
 v:Blk W V bT #[vf]
 og:W.ownsRow W0.heap.size gT 10 vg 2 (gsC 2)
 fo:W.ownsRow W0.heap.size lT 7 vf 2 (lots [exN1,exN2])
 D:W.heap[W0.heap.size]? = some (.deferred (some []))
section
variable {W0 W W':World} {U V k ks:Nat} {vg vs vf:Value} {ss:List Value} {lp:Loop}
theorem OP.on (h:OP W0 U V vg vs vf k W) (hx:Ext W W'):OP W0 U V vg vs vf k W':=by
 obtain ⟨Ak,ck,h1,h2,h3⟩:=h.u
 exact ⟨h.ex.on hx,⟨Ak,ck,h1.ext hx,h2.ext hx,h3⟩,h.v.ext hx,own_ext2 h.og hx,own_ext2 h.fo hx,ext_heap h.D hx⟩
theorem OP.start (h:RB W0 U V lp vg vs vf 2 ks 2 (gsC 2) ss (lots (List.take 2 [exN1,exN2])) W):OP W0 U V vg vs vf 0 W :=
 ⟨h.ex,⟨none,0,h.u,Reads.nil,Nat.le_refl _⟩,h.v,h.og,h.fo,h.D⟩
theorem OP.more {Ak A2:Option Addr} {ck c2:Nat} (h:OP W0 U V vg vs vf k W) (hb:Blk W U rT #[.slice Ak k ck,vg,vs,.slice none 0 0]) (hUV:U≠V) (hU:U<W0.heap.size) (hr:RdL W A2 ([exN1,exN2].take (k+1))) (hc:k+1≤c2) :
  OP W0 U V vg vs vf (k+1) (W.setCell ⟨U,0,none⟩ (.slice A2 ((k+1:Nat)) c2)) :=
 ⟨h.ex.set (.inl rfl) _,⟨A2,c2,hb.set_ 0 _,rdL_set hr hb ⟨_,_,_,rfl⟩,hc⟩,h.v.far (p:=⟨U,0,none⟩) (Ne.symm hUV) _,own_far h.og hb (by decide),own_far h.fo hb (by decide),dfar h.D (by omega)⟩
end
theorem lots2_at {W:World} {A:Option Addr} (h:RdL W A [exN1,exN2]) {k:Nat} (hk:k<2):∃ b o,A=some ⟨b,o,none⟩∧b<W.heap.size∧W.cell? ⟨b,o+k*7,none⟩=some (.string (bs ([exN1,exN2][k]'hk).id))∧W.cell? ⟨b,o+k*7+1,none⟩=some (.string (bs ([exN1,exN2][k]'hk).ins))∧W.cell? ⟨b,o+k*7+2,none⟩=some (.int .i64 ([exN1,exN2][k]'hk).acq)∧W.cell? ⟨b,o+k*7+3,none⟩=some (.int .i64 ([exN1,exN2][k]'hk).opn) ∧
  W.cell? ⟨b,o+k*7+4,none⟩=some (.string (bs ([exN1,exN2][k]'hk).q))∧W.cell? ⟨b,o+k*7+5,none⟩=some (.string (bs ([exN1,exN2][k]'hk).c))∧W.cell? ⟨b,o+k*7+6,none⟩=some (.string (bs ([exN1,exN2][k]'hk).u)):=h.at_ (k:=k) hk
theorem results_rt {fn:Func} {a b:Tmp} (h:fn.results=#[.cell a 37,.tmp b]) (tmps:Array Value) (w:World) (g:Nat) (x y z u v:Value) (ha:tmps.getD a undef = .pointer (some ⟨g,0,none⟩)) (hv:tmps.getD b undef=v) (hb:Blk w g 37 #[x,y,z,u]) :
  (results fn tmps).run Tryz.prog w = .ok (.tuple #[.agg #[x,y,z,u],v]) w:=by
 have q0:w.cell? ⟨g,0,none⟩=some x:=hb.cell 0
 have q1:w.cell? ⟨g,1,none⟩=some y:=hb.cell 1
 have q2:w.cell? ⟨g,2,none⟩=some z:=hb.cell 2
 have q3:w.cell? ⟨g,3,none⟩=some u:=hb.cell 3
 unfold results
 rw [h]
 simp only [List.mapM_toArray,List.mapM_cons,List.mapM_nil,ha,hv]
 go_simp
theorem tenBlk {w w':World} {g:Nat} {t:TypeId} {a0 a1 a2 a3 a4 a5 a6 a7 a8 a9:Value} (h:Blk w g t #[a0,a1,a2,a3,a4,a5,a6,a7,a8,a9]) (hx:Ext w w') :
  w'.cell? ⟨g,0,none⟩=some a0∧w'.cell? ⟨g,1,none⟩=some a1∧w'.cell? ⟨g,2,none⟩=some a2∧w'.cell? ⟨g,3,none⟩=some a3∧w'.cell? ⟨g,4,none⟩=some a4∧w'.cell? ⟨g,5,none⟩=some a5∧w'.cell? ⟨g,6,none⟩=some a6∧w'.cell? ⟨g,7,none⟩=some a7∧w'.cell? ⟨g,8,none⟩=some a8∧w'.cell? ⟨g,9,none⟩=some a9:=by
 have k:=h.ext hx
 exact ⟨k.cell 0,k.cell 1,k.cell 2,k.cell 3,k.cell 4,k.cell 5,k.cell 6,k.cell 7,k.cell 8,k.cell 9⟩
theorem rcB {w w':World} {g:Nat} {x y z u:Value} (h:Blk w g 37 #[x,y,z,u]) (hx:Ext w w') :
  w'.cell? ⟨g,0,none⟩=some x∧w'.cell? ⟨g,1,none⟩=some y∧w'.cell? ⟨g,2,none⟩=some z∧w'.cell? ⟨g,3,none⟩=some u:=by
 have k:=h.ext hx
 exact ⟨k.cell 0,k.cell 1,k.cell 2,k.cell 3⟩
theorem apEx (A:Option Addr) (c:Nat) (AO:Option Addr) (cO:Nat) (w:World) (hA:RdL w A exLs) (_hc:2≤c) (hO:RdO w AO [exO]) (hE:Env w) :
  Calls Tryz.prog 14 #[.slice A 2 c,xv exKey 19723 exIns AO 1 cO,.int .i64 0] w (ApEnds w):=by
 have hfn:∀ k,Fence.wide.fn k:=fun _=>trivial
 have hdp:Fence.wide.depth.isSome=false:=rfl
 have HE:=Lib.hid hE
 have HA:=Lib.hid hA
 have HO:=Lib.hid hO
 have hsm:∀ x ∈ exLs,SmallL x:=by
  intro x hx
  have:x=exL1∨x=exL2:=by simpa [exLs] using hx
  rcases this with rfl | rfl <;> exact ⟨by decide,by decide,by decide,by decide,by decide⟩
 have CA:=Lib.hid (fun W (hx:Ext w W)=>lotCheckAll exLs A c W (hE.ext hx) (hA.ext hx) hsm (by decide))
 rw [ex_all] at CA
 have CF:=Lib.hid (fun W (hx:Ext w W)=>fkCheck exKey 19723 exIns AO [exO] cO W (hO.ext hx) (by decide) (by decide) (by
  intro o ho
  have:o=exO:=by simpa using ho
  subst this
  exact ⟨ex_e,by decide,⟨by decide,by decide,by decide,by decide,by decide,by decide,by decide⟩⟩) ex_k (by decide) ex_i (by decide) (by decide) (by decide) (hE.ext hx))
 have CO:=Lib.hid (fun W (hx:Ext w W)=>lotOfW exLs A c exIns W (hA.ext hx) (by decide))
 have CT:=Lib.hid (fun W (hx:Ext w W)=>lotTotal exLs A c exIns W (hE.ext hx) (hA.ext hx) hsm (by decide))
 rw [ex_q,ex_c] at CT
 clear hE hA hO
 have HF:=Lib.hid ((Blk.new w 30 (xc exKey 19723 exIns AO 1 cO)).alloc (.cells #[.slice none 0 0,.slice none 0 0,.slice none 0 0,.slice none 0 0] 37))
 have HR:=Lib.hid (Blk.newAt (w.alloc (.cells (xc exKey 19723 exIns AO 1 cO) 30)) 37 #[.slice none 0 0,.slice none 0 0,.slice none 0 0,.slice none 0 0] (w.heap.size+1) (by simp))
 have HX:Hid (Ext w ((w.alloc (.cells (xc exKey 19723 exIns AO 1 cO) 30)).alloc (.cells #[.slice none 0 0,.slice none 0 0,.slice none 0 0,.slice none 0 0] 37))):=Lib.hid ((Ext.new _ _).alloc _)
 have hs1:(Tryz.prog.info? 30).map (·.size)=some (xc exKey 19723 exIns AO 1 cO).toList.length:=by kernel_rfl
 refine (callsIn_wide (n:=5)).1 ?_
 refine callsIn_of_wp_marks Tryz.func14 rfl trivial ?_ rfl
 simp only [Tryz.ntmps14,List.size_toArray,List.length_cons,List.length_nil,Nat.reduceAdd,Nat.reduceSub,Array.replicate_succ,Array.replicate_zero,List.push_toArray,List.append_toArray,List.nil_append,List.cons_append]
 gi_wp2_with fail
 refine (callsIn_wide.2 (CA.out _ HX.out)).mono ?_
 rintro e w1 ⟨rfl,hx1⟩
 replace HX:=Lib.hid (HX.out.trans hx1)
 replace HF:=Lib.hid (HF.out.ext hx1)
 replace HR:=Lib.hid (HR.out.ext hx1)
 clear hx1
 have hrg:=fact_range HF.out
 gi_wp2_with (first | refine wpListIn_loadG hfn (by rfl) 30 _ rfl w.heap.size 0 rfl _ _ hrg Tryz.underlying30 rfl hs1 ?_ | fail)
 refine (callsIn_wide.2 (CF.out _ HX.out)).mono ?_
 rintro e w2 ⟨rfl,hx1⟩
 replace HX:=Lib.hid (HX.out.trans hx1)
 replace HF:=Lib.hid (HF.out.ext hx1)
 replace HR:=Lib.hid (HR.out.ext hx1)
 clear hx1 hrg
 obtain ⟨x0,x1,x2,x3,x4,x5,x6,x7,x8,x9,x10,x11,x12,x13,x14,x15,x16,x17,x18,x19,x20⟩:=xBlk HF.out (Ext.refl _)
 clear x1 x2 x6 x7 x8 x9 x10 x11 x12 x13 x14 x15 x16 x17 x18 x20
 gi_wp2_with fail
 refine (callsIn_wide.2 (CO.out _ HX.out)).mono ?_
 rintro e w3 ⟨A',c',he,ho,hc',hx1⟩
 rw [ex_of] at he ho hc'
 have he:e = .returned (.slice A' 2 c'):=he
 subst he
 have HOL:=Lib.hid ho
 have HBS:=Lib.hid HX.out.size
 replace HX:=Lib.hid (HX.out.trans hx1)
 replace HF:=Lib.hid (HF.out.ext hx1)
 replace HR:=Lib.hid (HR.out.ext hx1)
 clear hx1 ho x0 x3 x4 x5 x19
 obtain ⟨bo,oo,rfl,hbo,o0,o1,o2,o3,o4,o5,o6⟩:=(HO.out.ext HX.out).at_ (k:=0) (by decide)
 simp only [List.getElem_cons_zero,Nat.zero_mul,Nat.add_zero] at o0 o1 o2 o3 o4 o5 o6
 have HP:=Lib.hid (Blk.new w3 50 (oc exO))
 have hxn:=Ext.new w3 (.cells (oc exO) 50)
 have z19:=(xBlk HF.out (Ext.refl _)).2.2.2.2.2.2.2.2.2.2.2.2.2.2.2.2.2.2.2.1
 replace HX:=Lib.hid (HX.out.trans hxn)
 replace HF:=Lib.hid (HF.out.ext hxn)
 replace HR:=Lib.hid (HR.out.ext hxn)
 replace HOL:=Lib.hid (own_ext2 HOL.out hxn)
 clear hxn
 obtain ⟨x0,x1,x2,x3,x4,x5,x6,x7,x8,x9,x10,x11,x12,x13,x14,x15,x16,x17,x18,x19,x20⟩:=xBlk HF.out (Ext.refl _)
 clear x1 x2 x6 x7 x8 x9 x10 x11 x12 x13 x14 x15 x16 x17 x18 x20
 gi_wp2_with fail
 generalize w3.alloc (.cells (oc exO) 50)=W3 at *
 generalize w3.heap.size=G9 at *
 refine (callsIn_wide.2 (CT.out _ HX.out)).mono ?_
 rintro e w4 ⟨rfl,hx1⟩
 replace HX:=Lib.hid (HX.out.trans hx1)
 replace HF:=Lib.hid (HF.out.ext hx1)
 replace HR:=Lib.hid (HR.out.ext hx1)
 replace HP:=Lib.hid (HP.out.ext hx1)
 replace HOL:=Lib.hid (own_ext2 HOL.out hx1)
 clear hx1 x0 x3 x4 x5 x19 o0 o1 o2 o3 o4 o5 o6 z19 hbo
 rw [ofI_of (l:=[49,53]) (z:=15) (by decide +kernel) (by decide +kernel),ofI_of (l:=[49,50,48]) (z:=120) (by decide +kernel) (by decide +kernel)]
 obtain ⟨o0,o1,o2,o3,o4,o5,o6⟩:=optBlk HP.out (Ext.refl _)
 have TM:=Lib.hid (mgTerms1 (L:=100) (by decide) (by decide) exO [49,53] ⟨by decide,by decide,by decide,by decide,by decide,by decide,by decide⟩ (by decide))
 rw [ex_terms] at TM
 gi_wp2_with fail
 refine (callsIn_wide.2 (TM.out _ (HE.out.ext HX.out))).mono ?_
 rintro e w5 ⟨rfl,hx1⟩
 dsimp only
 have HN:=Lib.hid ((Blk.new w5 24 #[.string (bs [55])]).alloc (.cells #[.string (bs [49]),.string (bs [50])] 26))
 have hxn:=hx1.trans ((Ext.new w5 (.cells #[.string (bs [55])] 24)).alloc (.cells #[.string (bs [49]),.string (bs [50])] 26))
 replace HX:=Lib.hid (HX.out.trans hxn)
 replace HF:=Lib.hid (HF.out.ext hxn)
 replace HR:=Lib.hid (HR.out.ext hxn)
 replace HP:=Lib.hid (HP.out.ext hxn)
 replace HOL:=Lib.hid (own_ext2 HOL.out hxn)
 clear hx1 hxn o0 o1 o2 o3 o4 o5 o6 TM CT
 obtain ⟨x0,x1,x2,x3,x4,x5,x6,x7,x8,x9,x10,x11,x12,x13,x14,x15,x16,x17,x18,x19,x20⟩:=xBlk HF.out (Ext.refl _)
 clear x1 x2 x6 x7 x8 x9 x10 x11 x12 x13 x14 x15 x16 x17 x18 x20
 obtain ⟨o0,o1,o2,o3,o4,o5,o6⟩:=optBlk HP.out (Ext.refl _)
 have n0:=HN.out.cell 0
 simp only [List.getElem?_toArray,List.getElem?_cons_zero] at n0
 gi_wp2_with fail
 generalize (w5.alloc (.cells #[.string (bs [55])] 24)).alloc (.cells #[.string (bs [49]),.string (bs [50])] 26)=W5 at *
 generalize w5.heap.size=G12 at *
 gi_quiet (fail)
 have hxq:Ext W5 (W5.drewN nq):=(Ext.refl W5).drewN nq
 replace HX:=Lib.hid (HX.out.trans hxq)
 replace HF:=Lib.hid (HF.out.ext hxq)
 replace HR:=Lib.hid (HR.out.ext hxq)
 replace HP:=Lib.hid (HP.out.ext hxq)
 replace HN:=Lib.hid (HN.out.ext hxq)
 replace HOL:=Lib.hid (own_ext2 HOL.out hxq)
 clear hxq
 generalize W5.drewN nq=W6 at *
 (try clear x0 x3 x4 x5 x19 o0 o1 o2 o3 o4 o5 o6 n0)
 obtain ⟨x0,x1,x2,x3,x4,x5,x6,x7,x8,x9,x10,x11,x12,x13,x14,x15,x16,x17,x18,x19,x20⟩:=xBlk HF.out (Ext.refl _)
 clear x1 x2 x6 x7 x8 x9 x10 x11 x12 x13 x14 x15 x16 x17 x18 x20
 obtain ⟨o0,o1,o2,o3,o4,o5,o6⟩:=optBlk HP.out (Ext.refl _)
 have n0:=HN.out.cell 0
 simp only [List.getElem?_toArray,List.getElem?_cons_zero] at n0
 have PV:=Lib.hid (priceVal (L:=100) (by decide) (by decide) exO.v [55] (by decide) (by decide) (by decide))
 rw [ex_val,ofI_of (l:=[49,49,50]) (z:=112) (by decide +kernel) (by decide +kernel)] at PV
 have RC:=Lib.hid (mgRec [49,50,48] [51,56] [49,49,50] (by decide) (by decide) (by decide) (by decide +kernel) (by decide +kernel))
 rw [show valI [49,50,48]=120 by decide +kernel,show valI [51,56]=38 by decide +kernel,show valI [49,49,50]=112 by decide +kernel,ex_rec] at RC
 rw [ofI_of (l:=[51,48]) (z:=30) (by decide +kernel) (by decide +kernel),ofI_of (l:=[49,49,50]) (z:=120+30-38) (by decide +kernel) (by decide +kernel)] at RC
 gi_wp2_with fail
 refine (callsIn_wide.2 (PV.out _ (HE.out.ext HX.out))).mono ?_
 rintro e w7 ⟨rfl,hx1⟩
 replace HX:=Lib.hid (HX.out.trans hx1)
 replace HF:=Lib.hid (HF.out.ext hx1)
 replace HR:=Lib.hid (HR.out.ext hx1)
 replace HP:=Lib.hid (HP.out.ext hx1)
 replace HN:=Lib.hid (HN.out.ext hx1)
 replace HOL:=Lib.hid (own_ext2 HOL.out hx1)
 clear hx1
 (try clear x0 x3 x4 x5 x19 o0 o1 o2 o3 o4 o5 o6 n0)
 obtain ⟨x0,x1,x2,x3,x4,x5,x6,x7,x8,x9,x10,x11,x12,x13,x14,x15,x16,x17,x18,x19,x20⟩:=xBlk HF.out (Ext.refl _)
 clear x1 x2 x6 x7 x8 x9 x10 x11 x12 x13 x14 x15 x16 x17 x18 x20
 obtain ⟨o0,o1,o2,o3,o4,o5,o6⟩:=optBlk HP.out (Ext.refl _)
 have n0:=HN.out.cell 0
 simp only [List.getElem?_toArray,List.getElem?_cons_zero] at n0
 gi_wp2_with fail
 refine (callsIn_wide.2 (RC.out _ (HE.out.ext HX.out))).mono ?_
 rintro e w8 ⟨rfl,hx1⟩
 replace HX:=Lib.hid (HX.out.trans hx1)
 replace HF:=Lib.hid (HF.out.ext hx1)
 replace HR:=Lib.hid (HR.out.ext hx1)
 replace HP:=Lib.hid (HP.out.ext hx1)
 replace HN:=Lib.hid (HN.out.ext hx1)
 replace HOL:=Lib.hid (own_ext2 HOL.out hx1)
 clear hx1
 (try clear x0 x3 x4 x5 x19 o0 o1 o2 o3 o4 o5 o6 n0)
 obtain ⟨x0,x1,x2,x3,x4,x5,x6,x7,x8,x9,x10,x11,x12,x13,x14,x15,x16,x17,x18,x19,x20⟩:=xBlk HF.out (Ext.refl _)
 clear x1 x2 x6 x7 x8 x9 x10 x11 x12 x13 x14 x15 x16 x17 x18 x20
 obtain ⟨o0,o1,o2,o3,o4,o5,o6⟩:=optBlk HP.out (Ext.refl _)
 have n0:=HN.out.cell 0
 simp only [List.getElem?_toArray,List.getElem?_cons_zero] at n0
 clear PV RC
 have HG18:=Lib.hid HX.out.size
 have HRl:=Lib.hid HR.out.lt
 have HU:=Lib.hid (Blk.new w8 37 #[.slice none 0 0,.slice none 0 0,.slice none 0 0,.slice none 0 0])
 have hxq:=Ext.new w8 (.cells #[.slice none 0 0,.slice none 0 0,.slice none 0 0,.slice none 0 0] 37)
 replace HX:=Lib.hid (HX.out.trans hxq)
 replace HF:=Lib.hid (HF.out.ext hxq)
 replace HR:=Lib.hid (HR.out.ext hxq)
 replace HP:=Lib.hid (HP.out.ext hxq)
 replace HN:=Lib.hid (HN.out.ext hxq)
 replace HOL:=Lib.hid (own_ext2 HOL.out hxq)
 clear hxq
 gi_wp2_with fail
 generalize w8.alloc (.cells #[.slice none 0 0,.slice none 0 0,.slice none 0 0,.slice none 0 0] 37)=W9 at *
 generalize w8.heap.size=G18 at *
 clear x0 x3 x4 x5 x19 o0 o1 o2 o3 o4 o5 o6 n0
 gi_loopw [114,20] (fun i _ wr=>∃ k:Nat,k≤2∧i = .int .i64 k∧Ext W9 wr) (fun i _ _=>2-(intOf i).toNat)
 case atStart=>exact ⟨0,by omega,rfl,Ext.refl _⟩
 case round =>
  obtain ⟨k,hk,rfl,hx⟩:=hrel
  by_cases hlt:k<2
  ·obtain ⟨b,o,rfl,hb,c0,c1,c2,c3,c4,c5,c6⟩:=(HA.out.ext (HX.out.trans hx)).at_ (k:=k) hlt
   have hki:(k:Int)<2:=by omega
   have hk0:(0:Int)≤(k:Int):=by omega
   have hxi:(exLs[k]'hlt).ins=exIns:=by
    obtain rfl | rfl:k=0∨k=1:=by omega
    ·rfl
    ·rfl
   generalize exLs[k]'hlt=x at *
   obtain ⟨xi,xn,xa,xo,xq,xc,xu⟩:=x
   dsimp only at hxi c0 c1 c2 c3 c4 c5 c6
   subst hxi
   have HL:Hid (Ext W9 (wr.alloc (.cells #[.string (bs xi),.string (bs exIns),.int .i64 xa,.int .i64 xo,.string (bs xq),.string (bs xc),.string (bs xu)] 71))):=Lib.hid (hx.alloc _)
   have x5:=(xBlk HF.out HL.out).2.2.2.2.2.1
   clear hx
   gi_wp2_with fail
   go_roundw
   case rel=>exact ⟨k+1,by omega,by go_num,HL.out⟩
   case measure=>simp [intOf];omega
  ·have hki:¬ (k:Int)<2:=by omega
   replace HF:=Lib.hid (HF.out.ext hx)
   replace HR:=Lib.hid (HR.out.ext hx)
   replace HP:=Lib.hid (HP.out.ext hx)
   replace HN:=Lib.hid (HN.out.ext hx)
   replace HU:=Lib.hid (HU.out.ext hx)
   replace HX:=Lib.hid (HX.out.trans hx)
   replace HOL:=Lib.hid (own_ext2 HOL.out hx)
   have HG21:=Lib.hid HX.out.size
   clear hx hk hlt
   have HV:=Lib.hid ((Blk.new wr 22 #[.slice none 0 0]).alloc (.cells #[.string ⟨#[]⟩] 24))
   have HZ:=Lib.hid (Blk.newAt (wr.alloc (.cells #[.slice none 0 0] 22)) 24 #[.string ⟨#[]⟩] (wr.heap.size+1) (by simp))
   have hxq:=(Ext.new wr (.cells #[.slice none 0 0] 22)).alloc (.cells #[.string ⟨#[]⟩] 24)
   replace HX:=Lib.hid (HX.out.trans hxq)
   replace HF:=Lib.hid (HF.out.ext hxq)
   replace HR:=Lib.hid (HR.out.ext hxq)
   replace HP:=Lib.hid (HP.out.ext hxq)
   replace HN:=Lib.hid (HN.out.ext hxq)
   replace HU:=Lib.hid (HU.out.ext hxq)
   replace HOL:=Lib.hid (own_ext2 HOL.out hxq)
   clear hxq
   have n0:=HN.out.cell 0
   simp only [List.getElem?_toArray,List.getElem?_cons_zero] at n0
   have SH:=Lib.hid (fun W (hx:Ext w W) hl=>mgShares [55] [51,56] [49,49,50] exLs A' c' W (HE.out.ext hx) hl ⟨by decide,by decide,by decide +kernel⟩ ⟨by decide,by decide,by decide +kernel⟩ ⟨by decide,by decide,by decide +kernel⟩ ex_w1 ex_w2 (by decide))
   gi_wp2_with fail
   generalize (wr.alloc (.cells #[.slice none 0 0] 22)).alloc (.cells #[.string ⟨#[]⟩] 24)=W10 at *
   generalize wr.heap.size=G21 at *
   refine (callsIn_wide.2 (SH.out _ HX.out (Reads.own HOL.out))).mono ?_
   rintro e W11 ⟨B0,B1,B2,B3,P1,P2,P3,rfl,b0,b1,b2,b3,r1,r2,r3,hx1,hB0⟩
   have hle:G21<W10.heap.size:=HV.out.lt
   have hUV:Hid (G18≠G21):=Lib.hid (blk_ne HU.out HV.out (by decide))
   have HUw:Hid (w.heap.size≤G18∧w.heap.size≤G21):=Lib.hid ⟨HG18.out,HG21.out⟩
   replace HX:=Lib.hid (HX.out.trans hx1)
   replace HF:=Lib.hid (HF.out.ext hx1)
   replace HR:=Lib.hid (HR.out.ext hx1)
   replace HP:=Lib.hid (HP.out.ext hx1)
   replace HN:=Lib.hid (HN.out.ext hx1)
   replace HU:=Lib.hid (HU.out.ext hx1)
   replace HV:=Lib.hid (HV.out.ext hx1)
   replace HZ:=Lib.hid (HZ.out.ext hx1)
   replace HOL:=Lib.hid (own_ext2 HOL.out hx1)
   have hB0V:B0≠G21:=by omega
   have hB0U:B0≠G18:=blk_ne b0 HU.out (by decide)
   rw [ex_d1] at r1
   rw [ex_d2] at r2
   rw [ex_d3] at r3
   have HB:=Lib.hid (And.intro b0 (And.intro b1 (And.intro b2 b3)))
   have HRW:=Lib.hid (And.intro r1 (And.intro r2 r3))
   have HBN:=Lib.hid (And.intro hB0U hB0V)
   clear hx1 b0 b1 b2 b3 r1 r2 r3 hB0 hB0V hB0U hle SH n0
   gi_wp2_with fail
   refine range_outer' rfl (by omega) W11.heap.size rfl rfl trivial (fun _ _=>by rfl) ?_
   intro fn lp W1 hlp hW1 _
   have h0:RJ W11 G18 G21 lp 0 W1:=by
    subst hW1
    have hxx:=(Ext.new W11 (.deferred (some []))).alloc (.loop lp)
    refine ⟨.slice none 0 0,.slice none 0 0,.slice none 0 0,0,[],⟨(Ex2.refl _ _ _).on hxx,HU.out.ext hxx,HV.out.ext hxx,World.ownsRow_nil _ _ _ _,World.ownsRow_nil _ _ _ _,World.ownsRow_nil _ _ _ _,?_,?_⟩,by omega⟩
    ·exact oldAt (newAt _ _ _ rfl)
    ·exact newAt _ _ _ (by simp)
   have hJ:∀ k W,RJ W11 G18 G21 lp k W→ShIn B0 B1 B2 B3 exLs A' c' [[53],[50]] [[50,53],[49,51]] [[57,51],[49,57]] (some ⟨P1,0,none⟩) 2 (some ⟨P2,0,none⟩) 2 (some ⟨P3,0,none⟩) 2 W:=by
    rintro k W ⟨vg,vs,vf,ks,ss,h,_⟩
    exact ⟨h.ex.blk HB.out.1 HBN.out.1 HBN.out.2,h.ex.blk HB.out.2.1 (blk_ne HB.out.2.1 HU.out (by decide)) (blk_ne HB.out.2.1 HV.out (by decide)),h.ex.blk HB.out.2.2.1 (blk_ne HB.out.2.2.1 HU.out (by decide)) (blk_ne HB.out.2.2.1 HV.out (by decide)),h.ex.blk HB.out.2.2.2 (blk_ne HB.out.2.2.2 HU.out (by decide)) (blk_ne HB.out.2.2.2 HV.out (by decide)),
     Reads.own (h.ex.own HOL.out (own_ne HOL.out HU.out (by decide)) (own_ne HOL.out HV.out (by decide))),
     (h.ex.rowS HRW.out.1 (rowS_neT HRW.out.1 HU.out (by decide)) (rowS_neT HRW.out.1 HV.out (by decide))).reads,(h.ex.rowS HRW.out.2.1 (rowS_neT HRW.out.2.1 HU.out (by decide)) (rowS_neT HRW.out.2.1 HV.out (by decide))).reads,(h.ex.rowS HRW.out.2.2 (rowS_neT HRW.out.2.2 HU.out (by decide)) (rowS_neT HRW.out.2.2 HV.out (by decide))).reads⟩
   refine (mgShares3 4 (W11.heap.size+1) B0 B1 B2 B3 exLs A' c' [[53],[50]] [[50,53],[49,51]] [[57,51],[49,57]] _ _ _ _ _ _ (by decide) rfl rfl rfl (RJ W11 G18 G21 lp) hJ (fun k W W' ⟨vg,vs,vf,ks,ss,h,hk⟩ hx=>⟨vg,vs,vf,ks,ss,h.on hx,hk⟩) ?hY W1 h0).mono ?_
   case hY =>
    rintro k hk W ⟨vg,vs,vf,ks,ss,hrb,hks⟩
    have e1:=congrArg Loop.assign hlp
    have e2:=congrArg Loop.body hlp
    have e3:=congrArg Loop.tmps hlp
    have e4:=congrArg Loop.params hlp
    have e5:{ lp with state := .ready,pending:=none }=lp:=by rw [hlp];rfl
    obtain ⟨lb,hlb⟩:∃ lb,{ lp with state := .busy }=lb:=⟨_,rfl⟩
    simp only [recOf] at e1 e2 e3 e4
    refine yield_round' (rec:=lp) hrb.L (by rw [hlp];rfl) (by rw [hlp];rfl) trivial e1 e2 e4 e3 (zip1 _ _ _) hlb ?_
    clear e1 e2 e3 e4 hlp hW1 h0 hJ
    have HLB:=Lib.hid hlb
    have HE5:=Lib.hid e5
    have HNE:Hid ((w.heap.size≠G18∧w.heap.size≠G21)∧(G9≠G18∧G9≠G21)∧(G12≠G18∧G12≠G21)):=Lib.hid ⟨⟨blk_ne HF.out HU.out (by decide),blk_ne HF.out HV.out (by decide)⟩,⟨blk_ne HP.out HU.out (by decide),blk_ne HP.out HV.out (by decide)⟩,⟨blk_ne HN.out HU.out (by decide),blk_ne HN.out HV.out (by decide)⟩⟩
    clear hlb e5
    obtain ⟨ig,hIg,zg0,zg1,zg2⟩:=info_parts gainInfo
    obtain ⟨is',hIs,zs0,zs1,zs2⟩:=info_parts stepInfo
    obtain ⟨il,hIl,zl0,zl1,zl2⟩:=info_parts lotInfo
    have HIg:=Lib.hid hIg
    have HIs:=Lib.hid hIs
    have HIl:=Lib.hid hIl
    clear hIg hIs hIl
    obtain ⟨Ag,cg,rfl⟩:=own_slice hrb.og
    obtain ⟨As,cs,rfl⟩:=own_slice hrb.os
    obtain ⟨Af,cf,rfl⟩:=own_slice hrb.fo
    have hk2:k<2:=hk
    obtain rfl | rfl:k=0∨k=1:=by omega
    ·skip
     have HXN:Hid (Ext W (W.alloc (.cells (svC exL1 [53] [50,53] [57,51]) 102))):=Lib.hid (Ext.new _ _)
     have HL0:=Lib.hid (hrb.on HXN.out).L
     have HRB:=Lib.hid ((hrb.on HXN.out).put (lp':=lb) HU.out.lt HV.out.lt)
     have HS:=Lib.hid ((Blk.new W 102 (svC exL1 [53] [50,53] [57,51])).put (.loop lb) (l:=W11.heap.size+1) (by have:=(Array.getElem?_eq_some_iff.1 hrb.L).1;omega))
     clear hrb
     gi_wp2
     refine ⟨HL0.out,?_⟩
     generalize hSS:W.heap.size=S at *
     generalize (W.alloc (.cells (svC exL1 [53] [50,53] [57,51]) 102)).putObj (W11.heap.size+1) (.loop lb)=Wb at *
     clear hSS HXN HL0
     obtain ⟨x0A,x1,x2,x3A,x4,x5A,x6,x7,x8,x9,x10,x11,x12,x13,x14,x15,x16,x17,x18,x19,x20⟩:=xBlk (HRB.out.ex.blk HF.out HNE.out.1.1 HNE.out.1.2) (Ext.refl _)
     clear x1 x2 x4 x6 x7 x8 x9 x10 x11 x12 x13 x14 x15 x16 x17 x18 x19 x20
     obtain ⟨o0A,o1,o2,o3,o4,o5,o6⟩:=optBlk (HRB.out.ex.blk HP.out HNE.out.2.1.1 HNE.out.2.1.2) (Ext.refl _)
     clear o1 o2 o3 o4 o5 o6
     have n0A:=(HRB.out.ex.blk HN.out HNE.out.2.2.1 HNE.out.2.2.2).cell 0
     have y0A:=HRB.out.v.cell 0
     have y1A:=HRB.out.v.frozen 0
     simp only [List.getElem?_toArray,List.getElem?_cons_zero] at n0A y0A
     obtain ⟨s0A,s1A,s2A,s3A,s4A,s5A,s6A,s7A,s8A,s9A ⟩:=svBlk HS.out (Ext.refl _)
     obtain ⟨u0A,u1A,u2A,u3A ⟩:=rcB HRB.out.u (Ext.refl _)
     have u4A:=HRB.out.u.frozen 1
     have u5A:=HRB.out.u.frozen 2
     have SB:=Lib.hid (subP (exL1).c [57,51] (by decide) (by decide))
     rw [ofI_of (l:=[55]) (z:=valI (exL1).c-valI [57,51]) (by decide +kernel) (by decide +kernel)] at SB
     gi_wp2_with fail
     refine (CallsIn.inRound _ (callsIn_wide.2 (SB.out _ (HE.out.ext (Ex2.after HX.out HRB.out.ex HUw.out.1 HUw.out.2))))).mono ?_
     rintro e Wc ⟨rfl,hx1⟩
     replace HRB:=Lib.hid (HRB.out.on hx1)
     replace HS:=Lib.hid (HS.out.ext hx1)
     clear hx1 SB
     clear x0A x3A x5A o0A n0A y0A y1A s0A s1A s2A s3A s4A s5A s6A s7A s8A s9A u0A u1A u2A u3A u4A u5A
     obtain ⟨x0A,x1,x2,x3A,x4,x5A,x6,x7,x8,x9,x10,x11,x12,x13,x14,x15,x16,x17,x18,x19,x20⟩:=xBlk (HRB.out.ex.blk HF.out HNE.out.1.1 HNE.out.1.2) (Ext.refl _)
     clear x1 x2 x4 x6 x7 x8 x9 x10 x11 x12 x13 x14 x15 x16 x17 x18 x19 x20
     obtain ⟨o0A,o1,o2,o3,o4,o5,o6⟩:=optBlk (HRB.out.ex.blk HP.out HNE.out.2.1.1 HNE.out.2.1.2) (Ext.refl _)
     clear o1 o2 o3 o4 o5 o6
     have n0A:=(HRB.out.ex.blk HN.out HNE.out.2.2.1 HNE.out.2.2.2).cell 0
     have y0A:=HRB.out.v.cell 0
     have y1A:=HRB.out.v.frozen 0
     simp only [List.getElem?_toArray,List.getElem?_cons_zero] at n0A y0A
     obtain ⟨s0A,s1A,s2A,s3A,s4A,s5A,s6A,s7A,s8A,s9A ⟩:=svBlk HS.out (Ext.refl _)
     obtain ⟨u0A,u1A,u2A,u3A ⟩:=rcB HRB.out.u (Ext.refl _)
     have u4A:=HRB.out.u.frozen 1
     have u5A:=HRB.out.u.frozen 2
     have HG:=Lib.hid (Blk.new Wc 68 (gcA exL1 [50,53] [55]))
     have hxg:=Ext.new Wc (.cells (gcA exL1 [50,53] [55]) 68)
     replace HRB:=Lib.hid (HRB.out.on hxg)
     replace HS:=Lib.hid (HS.out.ext hxg)
     clear hxg
     obtain ⟨x0B,x1,x2,x3B,x4,x5B,x6,x7,x8,x9,x10,x11,x12,x13,x14,x15,x16,x17,x18,x19,x20⟩:=xBlk (HRB.out.ex.blk HF.out HNE.out.1.1 HNE.out.1.2) (Ext.refl _)
     clear x1 x2 x4 x6 x7 x8 x9 x10 x11 x12 x13 x14 x15 x16 x17 x18 x19 x20
     obtain ⟨o0B,o1,o2,o3,o4,o5,o6⟩:=optBlk (HRB.out.ex.blk HP.out HNE.out.2.1.1 HNE.out.2.1.2) (Ext.refl _)
     clear o1 o2 o3 o4 o5 o6
     have n0B:=(HRB.out.ex.blk HN.out HNE.out.2.2.1 HNE.out.2.2.2).cell 0
     have y0B:=HRB.out.v.cell 0
     have y1B:=HRB.out.v.frozen 0
     simp only [List.getElem?_toArray,List.getElem?_cons_zero] at n0B y0B
     obtain ⟨s0B,s1B,s2B,s3B,s4B,s5B,s6B,s7B,s8B,s9B ⟩:=svBlk HS.out (Ext.refl _)
     obtain ⟨u0B,u1B,u2B,u3B ⟩:=rcB HRB.out.u (Ext.refl _)
     have u4B:=HRB.out.u.frozen 1
     have u5B:=HRB.out.u.frozen 2
     obtain ⟨g0,g1,g2,g3,g4,g5,g6,g7,g8,g9⟩:=tenBlk HG.out (Ext.refl _)
     have HRB3:=Lib.hid (HRB.out.on (Ext.new _ (.cells (gcA exL1 [50,53] [55]) 68)))
     have HS3:=Lib.hid (HS.out.ext (Ext.new _ (.cells (gcA exL1 [50,53] [55]) 68)))
     have hsz:=HRB3.out.ex.size
     gi_wp2_with (gi_at_builtin;refine wpListIn_append_own _ rfl (.tmp 172) (.tmp 174) 33 rfl W11.heap.size 68 ig _ 10 144 Tryz.underlying33 HIg.out zg0 zg1 zg2 rfl (by decide) _ _ _ rfl HRB3.out.og ⟨Wc.heap.size+1,0,none⟩ 1 1 (gcell exL1 [50,53] [55]) rfl rfl (World.news_of_block (Blk.newAt _ _ _ _ (by simp))) (one_gcell _ _ _) (by simp only [maxLen];omega) (by omega) hsz ?_;intro v2 w' hown' hgrow hnil;(obtain ⟨A2,c2,hv2⟩:=own_slice hown');(have hv2:v2 = .slice A2 1 c2:=hv2);subst hv2;clear hnil;refine halt_in ?_)
     refine halt_out ?_
     clear x0A x3A x5A o0A n0A y0A y1A s0A s1A s2A s3A s4A s5A s6A s7A s8A s9A u0A u1A u2A u3A u4A u5A
     clear x0B x3B x5B o0B n0B y0B y1B s0B s1B s2B s3B s4B s5B s6B s7B s8B s9B u0B u1B u2B u3B u4B u5B
     clear g0 g1 g2 g3 g4 g5 g6 g7 g8 g9 HG
     have HT:=Lib.hid (HRB3.out.gain HU.out.lt HV.out.lt hUV.out hgrow hown')
     have HSn:=Lib.hid ((blkGrown HS3.out HRB3.out.og hgrow (by decide)).far (p:=⟨G18,1,none⟩) (blk_ne HS3.out HRB3.out.u (by decide)) (.slice A2 1 c2))
     clear hgrow hown' HS3 HRB3 hsz
     have hst:(Instr.storeAt 33 (.pointer (some ⟨G18,1,none⟩)) (.slice A2 1 c2)).run Tryz.prog w' = .ok () (w'.setCell ⟨G18,1,none⟩ (.slice A2 1 c2)):=by
      obtain ⟨t0,t1,t2,t3⟩:=rcB HT.out.1 (Ext.refl _)
      have t4:=HT.out.1.frozen 1
      go_simp
     gi_wp2_with (first | (refine wpListIn_store1 (fun _=>trivial) rfl 33 _ _ rfl _ _ rfl rfl _ hst ?_;refine halt_in ?_) | fail)
     refine halt_out ?_
     replace HRB:=Lib.hid HT.out.2
     replace HS:=HSn
     clear HT HSn hst
     generalize w'.setCell ⟨G18,1,none⟩ (.slice A2 1 c2)=Wd at *
     clear w'
     obtain ⟨x0A,x1,x2,x3A,x4,x5A,x6,x7,x8,x9,x10,x11,x12,x13,x14,x15,x16,x17,x18,x19,x20⟩:=xBlk (HRB.out.ex.blk HF.out HNE.out.1.1 HNE.out.1.2) (Ext.refl _)
     clear x1 x2 x4 x6 x7 x8 x9 x10 x11 x12 x13 x14 x15 x16 x17 x18 x19 x20
     obtain ⟨o0A,o1,o2,o3,o4,o5,o6⟩:=optBlk (HRB.out.ex.blk HP.out HNE.out.2.1.1 HNE.out.2.1.2) (Ext.refl _)
     clear o1 o2 o3 o4 o5 o6
     have n0A:=(HRB.out.ex.blk HN.out HNE.out.2.2.1 HNE.out.2.2.2).cell 0
     have y0A:=HRB.out.v.cell 0
     have y1A:=HRB.out.v.frozen 0
     simp only [List.getElem?_toArray,List.getElem?_cons_zero] at n0A y0A
     obtain ⟨s0A,s1A,s2A,s3A,s4A,s5A,s6A,s7A,s8A,s9A ⟩:=svBlk HS.out (Ext.refl _)
     obtain ⟨u0A,u1A,u2A,u3A ⟩:=rcB HRB.out.u (Ext.refl _)
     have u4A:=HRB.out.u.frozen 1
     have u5A:=HRB.out.u.frozen 2
     gi_wp2_with fail
     refine region_in (S:=fun w'=>w'.cell? ⟨w.heap.size,0,none⟩=some (.string (bs exKey))∧w'.cell? ⟨G21,0,none⟩=some (.slice Af 0 cf)) (by kernel_rfl) (by simp [plainOp]) (by rintro ⟨a,w,h⟩;exact h) ⟨x0A,y0A⟩ ?_
     intro hHeld
     refine wpAnyH_take (i:=0) (v := .pointer (some ⟨w.heap.size,0,none⟩)) rfl (by kernel_rfl) (by kernel_rfl) (by kernel_rfl) (fun _ _ _ h=>h) (Or.inl ⟨by rfl,?_⟩) (by assumption) ?_
     ·intro w hSw
      (try dsimp only at hSw)
      go_simp
      try rfl
     (try simp only [Act.put,List.setIfInBounds_toArray])
     refine wpAnyH_take (i:=1) (v := .string (bs exKey)) rfl (by kernel_rfl) (by kernel_rfl) (by kernel_rfl) (fun _ _ _ h=>h) (Or.inl ⟨by rfl,?_⟩) (by assumption) ?_
     ·intro w hSw
      (try dsimp only at hSw)
      go_simp
      try rfl
     (try simp only [Act.put])
     refine wpAnyH_take (i:=2) (v := .string (bs [120,47])) rfl (by kernel_rfl) (by kernel_rfl) (by kernel_rfl) (fun _ _ _ h=>h) (Or.inl ⟨by rfl,?_⟩) (by assumption) ?_
     ·intro w hSw
      (try dsimp only at hSw)
      go_simp
      try rfl
     (try simp only [Act.put])
     refine wpAnyH_take (i:=3) (v := .slice Af 0 cf) rfl (by kernel_rfl) (by kernel_rfl) (by kernel_rfl) (fun _ _ _ h=>h) (Or.inl ⟨by rfl,?_⟩) (by assumption) ?_
     ·intro w hSw
      (try dsimp only at hSw)
      go_simp
      try rfl
     (try simp only [Act.put])
     refine wpAnyH_take (i:=4) (v := .int .i64 0) rfl (by kernel_rfl) (by kernel_rfl) (by kernel_rfl) (fun _ _ _ h=>h) (Or.inl ⟨by rfl,?_⟩) (by assumption) ?_
     ·intro w hSw
      (try dsimp only at hSw)
      go_simp
      try rfl
     (try simp only [Act.put])
     refine wpAnyH_take (i:=5) (v := .int .i64 1) rfl (by kernel_rfl) (by kernel_rfl) (by kernel_rfl) (fun _ _ _ h=>h) (Or.inl ⟨by rfl,?_⟩) (by assumption) ?_
     ·intro w hSw
      (try dsimp only at hSw)
      go_simp
      try rfl
     (try simp only [Act.put])
     refine wpAnyH_ready (rs:=[6]) (by kernel_rfl) (by simp) ?_
     refine AllReadyH.cons rfl (fun K hK=>?_) (AllReadyH.nil)
     go_simp
     refine (itoa_any 1 _ (by decide) (by decide) (HE.out.ext (Ex2.after HX.out (HRB.out.ex.on (Ext.refl Wd).drew) HUw.out.1 HUw.out.2))).mono ?_
     rintro e We ⟨he,hx1⟩
     rw [show Lib.itoa 1=[49] from by decide +kernel] at he
     subst he
     replace HRB:=Lib.hid (HRB.out.on ((Ext.refl Wd).drew.trans hx1))
     replace HS:=Lib.hid (HS.out.ext ((Ext.refl Wd).drew.trans hx1))
     clear hx1
     clear x0A x3A x5A o0A n0A y0A y1A s0A s1A s2A s3A s4A s5A s6A s7A s8A s9A u0A u1A u2A u3A u4A u5A
     obtain ⟨x0A,x1,x2,x3A,x4,x5A,x6,x7,x8,x9,x10,x11,x12,x13,x14,x15,x16,x17,x18,x19,x20⟩:=xBlk (HRB.out.ex.blk HF.out HNE.out.1.1 HNE.out.1.2) (Ext.refl _)
     clear x1 x2 x4 x6 x7 x8 x9 x10 x11 x12 x13 x14 x15 x16 x17 x18 x19 x20
     obtain ⟨o0A,o1,o2,o3,o4,o5,o6⟩:=optBlk (HRB.out.ex.blk HP.out HNE.out.2.1.1 HNE.out.2.1.2) (Ext.refl _)
     clear o1 o2 o3 o4 o5 o6
     have n0A:=(HRB.out.ex.blk HN.out HNE.out.2.2.1 HNE.out.2.2.2).cell 0
     have y0A:=HRB.out.v.cell 0
     have y1A:=HRB.out.v.frozen 0
     simp only [List.getElem?_toArray,List.getElem?_cons_zero] at n0A y0A
     obtain ⟨s0A,s1A,s2A,s3A,s4A,s5A,s6A,s7A,s8A,s9A ⟩:=svBlk HS.out (Ext.refl _)
     obtain ⟨u0A,u1A,u2A,u3A ⟩:=rcB HRB.out.u (Ext.refl _)
     have u4A:=HRB.out.u.frozen 1
     have u5A:=HRB.out.u.frozen 2
     refine hK.out _ _ ⟨x0A,y0A⟩ (fun hHeld=>?_)
     clear hK K
     (try simp only [Act.put,List.setIfInBounds_toArray,List.set_cons_zero,List.set_cons_succ])
     refine wpAnyH_take (i:=7) (v := .string (bs [120,47,49])) rfl (by kernel_rfl) (by kernel_rfl) (by kernel_rfl) (fun _ _ _ h=>h) (Or.inl ⟨by rfl,?_⟩) (by assumption) ?_
     ·intro w hSw
      (try dsimp only at hSw)
      go_simp
      try rfl
     (try simp only [Act.put,List.setIfInBounds_toArray])
     refine wpAnyH_take (i:=8) (v := .string (bs [120,47,49])) rfl (by kernel_rfl) (by kernel_rfl) (by kernel_rfl) (fun _ _ _ h=>h) (Or.inl ⟨by rfl,?_⟩) (by assumption) ?_
     ·intro w hSw
      (try dsimp only at hSw)
      go_simp
      try rfl
     (try simp only [Act.put])
     refine wpAnyH_done (by kernel_rfl) ?_ _
     clear hHeld
     have HRB3:=Lib.hid (HRB.out.on (Ext.new We (.cells (lc exN1) 71)))
     have HS3:=Lib.hid (HS.out.ext (Ext.new We (.cells (lc exN1) 71)))
     have hsz:=HRB3.out.ex.size
     gi_wp2_with (gi_at_builtin;refine wpListIn_append_own _ rfl (.tmp 210) (.tmp 227) 22 rfl W11.heap.size 71 il _ 7 96 Tryz.underlying22 HIl.out zl0 zl1 zl2 rfl (by decide) _ _ _ rfl HRB3.out.fo ⟨We.heap.size,0,none⟩ 1 1 (lotCells exN1) rfl rfl (World.news_of_block (heap_alloc_new We _)) (one_lot _) (by simp only [maxLen];omega) (by omega) hsz ?_;intro v2 w' hown' hgrow hnil;(obtain ⟨A3,c3,hv2⟩:=own_slice hown');(have hv2:v2 = .slice A3 1 c3:=hv2);subst hv2;clear hnil;refine halt_in ?_)
     refine halt_out ?_
     clear x0A x3A x5A o0A n0A y0A y1A s0A s1A s2A s3A s4A s5A s6A s7A s8A s9A u0A u1A u2A u3A u4A u5A
     have HT:=Lib.hid (HRB3.out.lot HU.out.lt HV.out.lt hUV.out hgrow hown')
     have HSn:=Lib.hid ((blkGrown HS3.out HRB3.out.fo hgrow (by decide)).far (p:=⟨G21,0,none⟩) (blk_ne HS3.out HRB3.out.v (by decide)) (.slice A3 1 c3))
     clear hgrow hown' HS3 HRB3 hsz
     have hst:(Instr.storeAt 22 (.pointer (some ⟨G21,0,none⟩)) (.slice A3 1 c3)).run Tryz.prog w' = .ok () (w'.setCell ⟨G21,0,none⟩ (.slice A3 1 c3)):=by
      have t0:=HT.out.1.cell 0
      have t4:=HT.out.1.frozen 0
      simp only [List.getElem?_toArray,List.getElem?_cons_zero] at t0
      go_simp
     gi_wp2_with (first | (refine wpListIn_store1 (fun _=>trivial) rfl 22 _ _ rfl _ _ rfl rfl _ hst ?_;refine halt_in ?_) | fail)
     refine halt_out ?_
     replace HRB:=Lib.hid HT.out.2
     replace HS:=HSn
     clear HT HSn hst
     generalize w'.setCell ⟨G21,0,none⟩ (.slice A3 1 c3)=Wf at *
     clear w'
     obtain ⟨x0A,x1,x2,x3A,x4,x5A,x6,x7,x8,x9,x10,x11,x12,x13,x14,x15,x16,x17,x18,x19,x20⟩:=xBlk (HRB.out.ex.blk HF.out HNE.out.1.1 HNE.out.1.2) (Ext.refl _)
     clear x1 x2 x4 x6 x7 x8 x9 x10 x11 x12 x13 x14 x15 x16 x17 x18 x19 x20
     obtain ⟨o0A,o1,o2,o3,o4,o5,o6⟩:=optBlk (HRB.out.ex.blk HP.out HNE.out.2.1.1 HNE.out.2.1.2) (Ext.refl _)
     clear o1 o2 o3 o4 o5 o6
     have n0A:=(HRB.out.ex.blk HN.out HNE.out.2.2.1 HNE.out.2.2.2).cell 0
     have y0A:=HRB.out.v.cell 0
     have y1A:=HRB.out.v.frozen 0
     simp only [List.getElem?_toArray,List.getElem?_cons_zero] at n0A y0A
     obtain ⟨s0A,s1A,s2A,s3A,s4A,s5A,s6A,s7A,s8A,s9A ⟩:=svBlk HS.out (Ext.refl _)
     obtain ⟨u0A,u1A,u2A,u3A ⟩:=rcB HRB.out.u (Ext.refl _)
     have u4A:=HRB.out.u.frozen 1
     have u5A:=HRB.out.u.frozen 2
     have HRB3:=Lib.hid (HRB.out.on (Ext.new Wf (.cells (stA (.string (bs (exL1).id)) (.string (bs [120,47,49])) (.string (bs (exL1).q)) (.string (bs [53])) (.string (bs [57,51]))) 76)))
     have HS3:=Lib.hid (HS.out.ext (Ext.new Wf (.cells (stA (.string (bs (exL1).id)) (.string (bs [120,47,49])) (.string (bs (exL1).q)) (.string (bs [53])) (.string (bs [57,51]))) 76)))
     have hsz:=HRB3.out.ex.size
     gi_wp2_with (gi_at_builtin;refine wpListIn_append_own _ rfl (.tmp 234) (.tmp 249) 34 rfl W11.heap.size 76 is' _ 6 96 Tryz.underlying34 HIs.out zs0 zs1 zs2 rfl (by decide) _ _ _ rfl HRB3.out.os ⟨Wf.heap.size,0,none⟩ 1 1 [.string (bs exKey),.string (bs (exL1).id),.string (bs [120,47,49]),.string (bs (exL1).q),.string (bs [53]),.string (bs [57,51])] rfl rfl (World.news_of_block (heap_alloc_new Wf _)) (one_st _ _ _ _ _) (by simp only [maxLen];omega) (by omega) hsz ?_;intro v2 w' hown' hgrow hnil;(obtain ⟨A4,c4,hv2⟩:=own_slice hown');subst hv2;clear hnil;refine halt_in ?_)
     refine halt_out ?_
     clear x0A x3A x5A o0A n0A y0A y1A s0A s1A s2A s3A s4A s5A s6A s7A s8A s9A u0A u1A u2A u3A u4A u5A
     have HT:=Lib.hid (HRB3.out.step HU.out.lt HV.out.lt hUV.out hgrow hown')
     have HSn:=Lib.hid ((blkGrown HS3.out HRB3.out.os hgrow (by decide)).far (p:=⟨G18,2,none⟩) (blk_ne HS3.out HRB3.out.u (by decide)) (.slice A4 (ks+1) c4))
     clear hgrow hown' HS3 HRB3 hsz
     have hst:(Instr.storeAt 34 (.pointer (some ⟨G18,2,none⟩)) (.slice A4 (ks+1) c4)).run Tryz.prog w' = .ok () (w'.setCell ⟨G18,2,none⟩ (.slice A4 (ks+1) c4)):=by
      obtain ⟨t0,t1,t2,t3⟩:=rcB HT.out.1 (Ext.refl _)
      have t4:=HT.out.1.frozen 2
      go_simp
     gi_wp2_with (first | (refine wpListIn_store1 (fun _=>trivial) rfl 34 _ _ rfl _ _ rfl rfl _ hst ?_;refine halt_in ?_) | fail)
     refine halt_out ?_
     replace HRB:=Lib.hid HT.out.2
     replace HS:=HSn
     clear HT HSn hst
     generalize w'.setCell ⟨G18,2,none⟩ (.slice A4 (ks+1) c4)=Wg at *
     clear w'
     obtain ⟨x0A,x1,x2,x3A,x4,x5A,x6,x7,x8,x9,x10,x11,x12,x13,x14,x15,x16,x17,x18,x19,x20⟩:=xBlk (HRB.out.ex.blk HF.out HNE.out.1.1 HNE.out.1.2) (Ext.refl _)
     clear x1 x2 x4 x6 x7 x8 x9 x10 x11 x12 x13 x14 x15 x16 x17 x18 x19 x20
     obtain ⟨o0A,o1,o2,o3,o4,o5,o6⟩:=optBlk (HRB.out.ex.blk HP.out HNE.out.2.1.1 HNE.out.2.1.2) (Ext.refl _)
     clear o1 o2 o3 o4 o5 o6
     have n0A:=(HRB.out.ex.blk HN.out HNE.out.2.2.1 HNE.out.2.2.2).cell 0
     have y0A:=HRB.out.v.cell 0
     have y1A:=HRB.out.v.frozen 0
     simp only [List.getElem?_toArray,List.getElem?_cons_zero] at n0A y0A
     obtain ⟨s0A,s1A,s2A,s3A,s4A,s5A,s6A,s7A,s8A,s9A ⟩:=svBlk HS.out (Ext.refl _)
     obtain ⟨u0A,u1A,u2A,u3A ⟩:=rcB HRB.out.u (Ext.refl _)
     have u4A:=HRB.out.u.frozen 1
     have u5A:=HRB.out.u.frozen 2
     have HRB3:=Lib.hid (HRB.out.on (Ext.new Wg (.cells (stA (.string (bs (exL1).id)) (.string ⟨#[]⟩) (.string ⟨#[]⟩) (.string ⟨#[]⟩) (.string (bs [55]))) 76)))
     have HS3:=Lib.hid (HS.out.ext (Ext.new Wg (.cells (stA (.string (bs (exL1).id)) (.string ⟨#[]⟩) (.string ⟨#[]⟩) (.string ⟨#[]⟩) (.string (bs [55]))) 76)))
     have hsz:=HRB3.out.ex.size
     gi_wp2_with (gi_at_builtin;refine wpListIn_append_own _ rfl (.tmp 255) (.tmp 263) 34 rfl W11.heap.size 76 is' _ 6 96 Tryz.underlying34 HIs.out zs0 zs1 zs2 rfl (by decide) _ _ _ rfl HRB3.out.os ⟨Wg.heap.size,0,none⟩ 1 1 [.string (bs exKey),.string (bs (exL1).id),.string ⟨#[]⟩,.string ⟨#[]⟩,.string ⟨#[]⟩,.string (bs [55])] rfl rfl (World.news_of_block (heap_alloc_new Wg _)) (one_st2 _ _) (by simp only [maxLen];omega) (by omega) hsz ?_;intro v2 w' hown' hgrow hnil;(obtain ⟨A5,c5,hv2⟩:=own_slice hown');subst hv2;clear hnil;refine halt_in ?_)
     refine halt_out ?_
     clear x0A x3A x5A o0A n0A y0A y1A s0A s1A s2A s3A s4A s5A s6A s7A s8A s9A u0A u1A u2A u3A u4A u5A
     have HT:=Lib.hid (HRB3.out.step HU.out.lt HV.out.lt hUV.out hgrow hown')
     have HSn:=Lib.hid ((blkGrown HS3.out HRB3.out.os hgrow (by decide)).far (p:=⟨G18,2,none⟩) (blk_ne HS3.out HRB3.out.u (by decide)) (.slice A5 (ks+1+1) c5))
     clear hgrow hown' HS3 HRB3 hsz
     have hst:(Instr.storeAt 34 (.pointer (some ⟨G18,2,none⟩)) (.slice A5 (ks+1+1) c5)).run Tryz.prog w' = .ok () (w'.setCell ⟨G18,2,none⟩ (.slice A5 (ks+1+1) c5)):=by
      obtain ⟨t0,t1,t2,t3⟩:=rcB HT.out.1 (Ext.refl _)
      have t4:=HT.out.1.frozen 2
      go_simp
     gi_wp2_with (first | (refine wpListIn_store1 (fun _=>trivial) rfl 34 _ _ rfl _ _ rfl rfl _ hst ?_;refine halt_in ?_) | fail)
     refine halt_out ?_
     replace HRB:=Lib.hid HT.out.2
     replace HS:=HSn
     clear HT HSn hst
     generalize w'.setCell ⟨G18,2,none⟩ (.slice A5 (ks+1+1) c5)=Wh at *
     clear w'
     gi_wp2_with fail
     refine ⟨by rw [HLB.out];exact HRB.out.L,rfl,?_⟩
     rw [HE5.out]
     exact RJ.mk HRB.out HU.out.lt HV.out.lt gs1 nl1 (by omega)
    ·skip
     have HXN:Hid (Ext W (W.alloc (.cells (svC exL2 [50] [49,51] [49,57]) 102))):=Lib.hid (Ext.new _ _)
     have HL0:=Lib.hid (hrb.on HXN.out).L
     have HRB:=Lib.hid ((hrb.on HXN.out).put (lp':=lb) HU.out.lt HV.out.lt)
     have HS:=Lib.hid ((Blk.new W 102 (svC exL2 [50] [49,51] [49,57])).put (.loop lb) (l:=W11.heap.size+1) (by have:=(Array.getElem?_eq_some_iff.1 hrb.L).1;omega))
     clear hrb
     gi_wp2
     refine ⟨HL0.out,?_⟩
     generalize hSS:W.heap.size=S at *
     generalize (W.alloc (.cells (svC exL2 [50] [49,51] [49,57]) 102)).putObj (W11.heap.size+1) (.loop lb)=Wb at *
     clear hSS HXN HL0
     obtain ⟨x0A,x1,x2,x3A,x4,x5A,x6,x7,x8,x9,x10,x11,x12,x13,x14,x15,x16,x17,x18,x19,x20⟩:=xBlk (HRB.out.ex.blk HF.out HNE.out.1.1 HNE.out.1.2) (Ext.refl _)
     clear x1 x2 x4 x6 x7 x8 x9 x10 x11 x12 x13 x14 x15 x16 x17 x18 x19 x20
     obtain ⟨o0A,o1,o2,o3,o4,o5,o6⟩:=optBlk (HRB.out.ex.blk HP.out HNE.out.2.1.1 HNE.out.2.1.2) (Ext.refl _)
     clear o1 o2 o3 o4 o5 o6
     have n0A:=(HRB.out.ex.blk HN.out HNE.out.2.2.1 HNE.out.2.2.2).cell 0
     have y0A:=HRB.out.v.cell 0
     have y1A:=HRB.out.v.frozen 0
     simp only [List.getElem?_toArray,List.getElem?_cons_zero] at n0A y0A
     obtain ⟨s0A,s1A,s2A,s3A,s4A,s5A,s6A,s7A,s8A,s9A ⟩:=svBlk HS.out (Ext.refl _)
     obtain ⟨u0A,u1A,u2A,u3A ⟩:=rcB HRB.out.u (Ext.refl _)
     have u4A:=HRB.out.u.frozen 1
     have u5A:=HRB.out.u.frozen 2
     have SB:=Lib.hid (subP (exL2).c [49,57] (by decide) (by decide))
     rw [ofI_of (l:=[49]) (z:=valI (exL2).c-valI [49,57]) (by decide +kernel) (by decide +kernel)] at SB
     gi_wp2_with fail
     refine (CallsIn.inRound _ (callsIn_wide.2 (SB.out _ (HE.out.ext (Ex2.after HX.out HRB.out.ex HUw.out.1 HUw.out.2))))).mono ?_
     rintro e Wc ⟨rfl,hx1⟩
     replace HRB:=Lib.hid (HRB.out.on hx1)
     replace HS:=Lib.hid (HS.out.ext hx1)
     clear hx1 SB
     clear x0A x3A x5A o0A n0A y0A y1A s0A s1A s2A s3A s4A s5A s6A s7A s8A s9A u0A u1A u2A u3A u4A u5A
     obtain ⟨x0A,x1,x2,x3A,x4,x5A,x6,x7,x8,x9,x10,x11,x12,x13,x14,x15,x16,x17,x18,x19,x20⟩:=xBlk (HRB.out.ex.blk HF.out HNE.out.1.1 HNE.out.1.2) (Ext.refl _)
     clear x1 x2 x4 x6 x7 x8 x9 x10 x11 x12 x13 x14 x15 x16 x17 x18 x19 x20
     obtain ⟨o0A,o1,o2,o3,o4,o5,o6⟩:=optBlk (HRB.out.ex.blk HP.out HNE.out.2.1.1 HNE.out.2.1.2) (Ext.refl _)
     clear o1 o2 o3 o4 o5 o6
     have n0A:=(HRB.out.ex.blk HN.out HNE.out.2.2.1 HNE.out.2.2.2).cell 0
     have y0A:=HRB.out.v.cell 0
     have y1A:=HRB.out.v.frozen 0
     simp only [List.getElem?_toArray,List.getElem?_cons_zero] at n0A y0A
     obtain ⟨s0A,s1A,s2A,s3A,s4A,s5A,s6A,s7A,s8A,s9A ⟩:=svBlk HS.out (Ext.refl _)
     obtain ⟨u0A,u1A,u2A,u3A ⟩:=rcB HRB.out.u (Ext.refl _)
     have u4A:=HRB.out.u.frozen 1
     have u5A:=HRB.out.u.frozen 2
     have HG:=Lib.hid (Blk.new Wc 68 (gcA exL2 [49,51] [49]))
     have hxg:=Ext.new Wc (.cells (gcA exL2 [49,51] [49]) 68)
     replace HRB:=Lib.hid (HRB.out.on hxg)
     replace HS:=Lib.hid (HS.out.ext hxg)
     clear hxg
     obtain ⟨x0B,x1,x2,x3B,x4,x5B,x6,x7,x8,x9,x10,x11,x12,x13,x14,x15,x16,x17,x18,x19,x20⟩:=xBlk (HRB.out.ex.blk HF.out HNE.out.1.1 HNE.out.1.2) (Ext.refl _)
     clear x1 x2 x4 x6 x7 x8 x9 x10 x11 x12 x13 x14 x15 x16 x17 x18 x19 x20
     obtain ⟨o0B,o1,o2,o3,o4,o5,o6⟩:=optBlk (HRB.out.ex.blk HP.out HNE.out.2.1.1 HNE.out.2.1.2) (Ext.refl _)
     clear o1 o2 o3 o4 o5 o6
     have n0B:=(HRB.out.ex.blk HN.out HNE.out.2.2.1 HNE.out.2.2.2).cell 0
     have y0B:=HRB.out.v.cell 0
     have y1B:=HRB.out.v.frozen 0
     simp only [List.getElem?_toArray,List.getElem?_cons_zero] at n0B y0B
     obtain ⟨s0B,s1B,s2B,s3B,s4B,s5B,s6B,s7B,s8B,s9B ⟩:=svBlk HS.out (Ext.refl _)
     obtain ⟨u0B,u1B,u2B,u3B ⟩:=rcB HRB.out.u (Ext.refl _)
     have u4B:=HRB.out.u.frozen 1
     have u5B:=HRB.out.u.frozen 2
     obtain ⟨g0,g1,g2,g3,g4,g5,g6,g7,g8,g9⟩:=tenBlk HG.out (Ext.refl _)
     have HRB3:=Lib.hid (HRB.out.on (Ext.new _ (.cells (gcA exL2 [49,51] [49]) 68)))
     have HS3:=Lib.hid (HS.out.ext (Ext.new _ (.cells (gcA exL2 [49,51] [49]) 68)))
     have hsz:=HRB3.out.ex.size
     gi_wp2_with (gi_at_builtin;refine wpListIn_append_own _ rfl (.tmp 172) (.tmp 174) 33 rfl W11.heap.size 68 ig _ 10 144 Tryz.underlying33 HIg.out zg0 zg1 zg2 rfl (by decide) _ _ _ rfl HRB3.out.og ⟨Wc.heap.size+1,0,none⟩ 1 1 (gcell exL2 [49,51] [49]) rfl rfl (World.news_of_block (Blk.newAt _ _ _ _ (by simp))) (one_gcell _ _ _) (by simp only [maxLen];omega) (by omega) hsz ?_;intro v2 w' hown' hgrow hnil;(obtain ⟨A2,c2,hv2⟩:=own_slice hown');(have hv2:v2 = .slice A2 2 c2:=hv2);subst hv2;clear hnil;refine halt_in ?_)
     refine halt_out ?_
     clear x0A x3A x5A o0A n0A y0A y1A s0A s1A s2A s3A s4A s5A s6A s7A s8A s9A u0A u1A u2A u3A u4A u5A
     clear x0B x3B x5B o0B n0B y0B y1B s0B s1B s2B s3B s4B s5B s6B s7B s8B s9B u0B u1B u2B u3B u4B u5B
     clear g0 g1 g2 g3 g4 g5 g6 g7 g8 g9 HG
     have HT:=Lib.hid (HRB3.out.gain HU.out.lt HV.out.lt hUV.out hgrow hown')
     have HSn:=Lib.hid ((blkGrown HS3.out HRB3.out.og hgrow (by decide)).far (p:=⟨G18,1,none⟩) (blk_ne HS3.out HRB3.out.u (by decide)) (.slice A2 2 c2))
     clear hgrow hown' HS3 HRB3 hsz
     have hst:(Instr.storeAt 33 (.pointer (some ⟨G18,1,none⟩)) (.slice A2 2 c2)).run Tryz.prog w' = .ok () (w'.setCell ⟨G18,1,none⟩ (.slice A2 2 c2)):=by
      obtain ⟨t0,t1,t2,t3⟩:=rcB HT.out.1 (Ext.refl _)
      have t4:=HT.out.1.frozen 1
      go_simp
     gi_wp2_with (first | (refine wpListIn_store1 (fun _=>trivial) rfl 33 _ _ rfl _ _ rfl rfl _ hst ?_;refine halt_in ?_) | fail)
     refine halt_out ?_
     replace HRB:=Lib.hid HT.out.2
     replace HS:=HSn
     clear HT HSn hst
     generalize w'.setCell ⟨G18,1,none⟩ (.slice A2 2 c2)=Wd at *
     clear w'
     obtain ⟨x0A,x1,x2,x3A,x4,x5A,x6,x7,x8,x9,x10,x11,x12,x13,x14,x15,x16,x17,x18,x19,x20⟩:=xBlk (HRB.out.ex.blk HF.out HNE.out.1.1 HNE.out.1.2) (Ext.refl _)
     clear x1 x2 x4 x6 x7 x8 x9 x10 x11 x12 x13 x14 x15 x16 x17 x18 x19 x20
     obtain ⟨o0A,o1,o2,o3,o4,o5,o6⟩:=optBlk (HRB.out.ex.blk HP.out HNE.out.2.1.1 HNE.out.2.1.2) (Ext.refl _)
     clear o1 o2 o3 o4 o5 o6
     have n0A:=(HRB.out.ex.blk HN.out HNE.out.2.2.1 HNE.out.2.2.2).cell 0
     have y0A:=HRB.out.v.cell 0
     have y1A:=HRB.out.v.frozen 0
     simp only [List.getElem?_toArray,List.getElem?_cons_zero] at n0A y0A
     obtain ⟨s0A,s1A,s2A,s3A,s4A,s5A,s6A,s7A,s8A,s9A ⟩:=svBlk HS.out (Ext.refl _)
     obtain ⟨u0A,u1A,u2A,u3A ⟩:=rcB HRB.out.u (Ext.refl _)
     have u4A:=HRB.out.u.frozen 1
     have u5A:=HRB.out.u.frozen 2
     gi_wp2_with fail
     refine region_in (S:=fun w'=>w'.cell? ⟨w.heap.size,0,none⟩=some (.string (bs exKey))∧w'.cell? ⟨G21,0,none⟩=some (.slice Af 1 cf)) (by kernel_rfl) (by simp [plainOp]) (by rintro ⟨a,w,h⟩;exact h) ⟨x0A,y0A⟩ ?_
     intro hHeld
     refine wpAnyH_take (i:=0) (v := .pointer (some ⟨w.heap.size,0,none⟩)) rfl (by kernel_rfl) (by kernel_rfl) (by kernel_rfl) (fun _ _ _ h=>h) (Or.inl ⟨by rfl,?_⟩) (by assumption) ?_
     ·intro w hSw
      (try dsimp only at hSw)
      go_simp
      try rfl
     (try simp only [Act.put,List.setIfInBounds_toArray])
     refine wpAnyH_take (i:=1) (v := .string (bs exKey)) rfl (by kernel_rfl) (by kernel_rfl) (by kernel_rfl) (fun _ _ _ h=>h) (Or.inl ⟨by rfl,?_⟩) (by assumption) ?_
     ·intro w hSw
      (try dsimp only at hSw)
      go_simp
      try rfl
     (try simp only [Act.put])
     refine wpAnyH_take (i:=2) (v := .string (bs [120,47])) rfl (by kernel_rfl) (by kernel_rfl) (by kernel_rfl) (fun _ _ _ h=>h) (Or.inl ⟨by rfl,?_⟩) (by assumption) ?_
     ·intro w hSw
      (try dsimp only at hSw)
      go_simp
      try rfl
     (try simp only [Act.put])
     refine wpAnyH_take (i:=3) (v := .slice Af 1 cf) rfl (by kernel_rfl) (by kernel_rfl) (by kernel_rfl) (fun _ _ _ h=>h) (Or.inl ⟨by rfl,?_⟩) (by assumption) ?_
     ·intro w hSw
      (try dsimp only at hSw)
      go_simp
      try rfl
     (try simp only [Act.put])
     refine wpAnyH_take (i:=4) (v := .int .i64 1) rfl (by kernel_rfl) (by kernel_rfl) (by kernel_rfl) (fun _ _ _ h=>h) (Or.inl ⟨by rfl,?_⟩) (by assumption) ?_
     ·intro w hSw
      (try dsimp only at hSw)
      go_simp
      try rfl
     (try simp only [Act.put])
     refine wpAnyH_take (i:=5) (v := .int .i64 2) rfl (by kernel_rfl) (by kernel_rfl) (by kernel_rfl) (fun _ _ _ h=>h) (Or.inl ⟨by rfl,?_⟩) (by assumption) ?_
     ·intro w hSw
      (try dsimp only at hSw)
      go_simp
      try rfl
     (try simp only [Act.put])
     refine wpAnyH_ready (rs:=[6]) (by kernel_rfl) (by simp) ?_
     refine AllReadyH.cons rfl (fun K hK=>?_) (AllReadyH.nil)
     go_simp
     refine (itoa_any 2 _ (by decide) (by decide) (HE.out.ext (Ex2.after HX.out (HRB.out.ex.on (Ext.refl Wd).drew) HUw.out.1 HUw.out.2))).mono ?_
     rintro e We ⟨he,hx1⟩
     rw [show Lib.itoa 2=[50] from by decide +kernel] at he
     subst he
     replace HRB:=Lib.hid (HRB.out.on ((Ext.refl Wd).drew.trans hx1))
     replace HS:=Lib.hid (HS.out.ext ((Ext.refl Wd).drew.trans hx1))
     clear hx1
     clear x0A x3A x5A o0A n0A y0A y1A s0A s1A s2A s3A s4A s5A s6A s7A s8A s9A u0A u1A u2A u3A u4A u5A
     obtain ⟨x0A,x1,x2,x3A,x4,x5A,x6,x7,x8,x9,x10,x11,x12,x13,x14,x15,x16,x17,x18,x19,x20⟩:=xBlk (HRB.out.ex.blk HF.out HNE.out.1.1 HNE.out.1.2) (Ext.refl _)
     clear x1 x2 x4 x6 x7 x8 x9 x10 x11 x12 x13 x14 x15 x16 x17 x18 x19 x20
     obtain ⟨o0A,o1,o2,o3,o4,o5,o6⟩:=optBlk (HRB.out.ex.blk HP.out HNE.out.2.1.1 HNE.out.2.1.2) (Ext.refl _)
     clear o1 o2 o3 o4 o5 o6
     have n0A:=(HRB.out.ex.blk HN.out HNE.out.2.2.1 HNE.out.2.2.2).cell 0
     have y0A:=HRB.out.v.cell 0
     have y1A:=HRB.out.v.frozen 0
     simp only [List.getElem?_toArray,List.getElem?_cons_zero] at n0A y0A
     obtain ⟨s0A,s1A,s2A,s3A,s4A,s5A,s6A,s7A,s8A,s9A ⟩:=svBlk HS.out (Ext.refl _)
     obtain ⟨u0A,u1A,u2A,u3A ⟩:=rcB HRB.out.u (Ext.refl _)
     have u4A:=HRB.out.u.frozen 1
     have u5A:=HRB.out.u.frozen 2
     refine hK.out _ _ ⟨x0A,y0A⟩ (fun hHeld=>?_)
     clear hK K
     (try simp only [Act.put,List.setIfInBounds_toArray,List.set_cons_zero,List.set_cons_succ])
     refine wpAnyH_take (i:=7) (v := .string (bs [120,47,50])) rfl (by kernel_rfl) (by kernel_rfl) (by kernel_rfl) (fun _ _ _ h=>h) (Or.inl ⟨by rfl,?_⟩) (by assumption) ?_
     ·intro w hSw
      (try dsimp only at hSw)
      go_simp
      try rfl
     (try simp only [Act.put,List.setIfInBounds_toArray])
     refine wpAnyH_take (i:=8) (v := .string (bs [120,47,50])) rfl (by kernel_rfl) (by kernel_rfl) (by kernel_rfl) (fun _ _ _ h=>h) (Or.inl ⟨by rfl,?_⟩) (by assumption) ?_
     ·intro w hSw
      (try dsimp only at hSw)
      go_simp
      try rfl
     (try simp only [Act.put])
     refine wpAnyH_done (by kernel_rfl) ?_ _
     clear hHeld
     have HRB3:=Lib.hid (HRB.out.on (Ext.new We (.cells (lc exN2) 71)))
     have HS3:=Lib.hid (HS.out.ext (Ext.new We (.cells (lc exN2) 71)))
     have hsz:=HRB3.out.ex.size
     gi_wp2_with (gi_at_builtin;refine wpListIn_append_own _ rfl (.tmp 210) (.tmp 227) 22 rfl W11.heap.size 71 il _ 7 96 Tryz.underlying22 HIl.out zl0 zl1 zl2 rfl (by decide) _ _ _ rfl HRB3.out.fo ⟨We.heap.size,0,none⟩ 1 1 (lotCells exN2) rfl rfl (World.news_of_block (heap_alloc_new We _)) (one_lot _) (by simp only [maxLen];omega) (by omega) hsz ?_;intro v2 w' hown' hgrow hnil;(obtain ⟨A3,c3,hv2⟩:=own_slice hown');(have hv2:v2 = .slice A3 2 c3:=hv2);subst hv2;clear hnil;refine halt_in ?_)
     refine halt_out ?_
     clear x0A x3A x5A o0A n0A y0A y1A s0A s1A s2A s3A s4A s5A s6A s7A s8A s9A u0A u1A u2A u3A u4A u5A
     have HT:=Lib.hid (HRB3.out.lot HU.out.lt HV.out.lt hUV.out hgrow hown')
     have HSn:=Lib.hid ((blkGrown HS3.out HRB3.out.fo hgrow (by decide)).far (p:=⟨G21,0,none⟩) (blk_ne HS3.out HRB3.out.v (by decide)) (.slice A3 2 c3))
     clear hgrow hown' HS3 HRB3 hsz
     have hst:(Instr.storeAt 22 (.pointer (some ⟨G21,0,none⟩)) (.slice A3 2 c3)).run Tryz.prog w' = .ok () (w'.setCell ⟨G21,0,none⟩ (.slice A3 2 c3)):=by
      have t0:=HT.out.1.cell 0
      have t4:=HT.out.1.frozen 0
      simp only [List.getElem?_toArray,List.getElem?_cons_zero] at t0
      go_simp
     gi_wp2_with (first | (refine wpListIn_store1 (fun _=>trivial) rfl 22 _ _ rfl _ _ rfl rfl _ hst ?_;refine halt_in ?_) | fail)
     refine halt_out ?_
     replace HRB:=Lib.hid HT.out.2
     replace HS:=HSn
     clear HT HSn hst
     generalize w'.setCell ⟨G21,0,none⟩ (.slice A3 2 c3)=Wf at *
     clear w'
     obtain ⟨x0A,x1,x2,x3A,x4,x5A,x6,x7,x8,x9,x10,x11,x12,x13,x14,x15,x16,x17,x18,x19,x20⟩:=xBlk (HRB.out.ex.blk HF.out HNE.out.1.1 HNE.out.1.2) (Ext.refl _)
     clear x1 x2 x4 x6 x7 x8 x9 x10 x11 x12 x13 x14 x15 x16 x17 x18 x19 x20
     obtain ⟨o0A,o1,o2,o3,o4,o5,o6⟩:=optBlk (HRB.out.ex.blk HP.out HNE.out.2.1.1 HNE.out.2.1.2) (Ext.refl _)
     clear o1 o2 o3 o4 o5 o6
     have n0A:=(HRB.out.ex.blk HN.out HNE.out.2.2.1 HNE.out.2.2.2).cell 0
     have y0A:=HRB.out.v.cell 0
     have y1A:=HRB.out.v.frozen 0
     simp only [List.getElem?_toArray,List.getElem?_cons_zero] at n0A y0A
     obtain ⟨s0A,s1A,s2A,s3A,s4A,s5A,s6A,s7A,s8A,s9A ⟩:=svBlk HS.out (Ext.refl _)
     obtain ⟨u0A,u1A,u2A,u3A ⟩:=rcB HRB.out.u (Ext.refl _)
     have u4A:=HRB.out.u.frozen 1
     have u5A:=HRB.out.u.frozen 2
     have HRB3:=Lib.hid (HRB.out.on (Ext.new Wf (.cells (stA (.string (bs (exL2).id)) (.string (bs [120,47,50])) (.string (bs (exL2).q)) (.string (bs [50])) (.string (bs [49,57]))) 76)))
     have HS3:=Lib.hid (HS.out.ext (Ext.new Wf (.cells (stA (.string (bs (exL2).id)) (.string (bs [120,47,50])) (.string (bs (exL2).q)) (.string (bs [50])) (.string (bs [49,57]))) 76)))
     have hsz:=HRB3.out.ex.size
     gi_wp2_with (gi_at_builtin;refine wpListIn_append_own _ rfl (.tmp 234) (.tmp 249) 34 rfl W11.heap.size 76 is' _ 6 96 Tryz.underlying34 HIs.out zs0 zs1 zs2 rfl (by decide) _ _ _ rfl HRB3.out.os ⟨Wf.heap.size,0,none⟩ 1 1 [.string (bs exKey),.string (bs (exL2).id),.string (bs [120,47,50]),.string (bs (exL2).q),.string (bs [50]),.string (bs [49,57])] rfl rfl (World.news_of_block (heap_alloc_new Wf _)) (one_st _ _ _ _ _) (by simp only [maxLen];omega) (by omega) hsz ?_;intro v2 w' hown' hgrow hnil;(obtain ⟨A4,c4,hv2⟩:=own_slice hown');subst hv2;clear hnil;refine halt_in ?_)
     refine halt_out ?_
     clear x0A x3A x5A o0A n0A y0A y1A s0A s1A s2A s3A s4A s5A s6A s7A s8A s9A u0A u1A u2A u3A u4A u5A
     have HT:=Lib.hid (HRB3.out.step HU.out.lt HV.out.lt hUV.out hgrow hown')
     have HSn:=Lib.hid ((blkGrown HS3.out HRB3.out.os hgrow (by decide)).far (p:=⟨G18,2,none⟩) (blk_ne HS3.out HRB3.out.u (by decide)) (.slice A4 (ks+1) c4))
     clear hgrow hown' HS3 HRB3 hsz
     have hst:(Instr.storeAt 34 (.pointer (some ⟨G18,2,none⟩)) (.slice A4 (ks+1) c4)).run Tryz.prog w' = .ok () (w'.setCell ⟨G18,2,none⟩ (.slice A4 (ks+1) c4)):=by
      obtain ⟨t0,t1,t2,t3⟩:=rcB HT.out.1 (Ext.refl _)
      have t4:=HT.out.1.frozen 2
      go_simp
     gi_wp2_with (first | (refine wpListIn_store1 (fun _=>trivial) rfl 34 _ _ rfl _ _ rfl rfl _ hst ?_;refine halt_in ?_) | fail)
     refine halt_out ?_
     replace HRB:=Lib.hid HT.out.2
     replace HS:=HSn
     clear HT HSn hst
     generalize w'.setCell ⟨G18,2,none⟩ (.slice A4 (ks+1) c4)=Wg at *
     clear w'
     obtain ⟨x0A,x1,x2,x3A,x4,x5A,x6,x7,x8,x9,x10,x11,x12,x13,x14,x15,x16,x17,x18,x19,x20⟩:=xBlk (HRB.out.ex.blk HF.out HNE.out.1.1 HNE.out.1.2) (Ext.refl _)
     clear x1 x2 x4 x6 x7 x8 x9 x10 x11 x12 x13 x14 x15 x16 x17 x18 x19 x20
     obtain ⟨o0A,o1,o2,o3,o4,o5,o6⟩:=optBlk (HRB.out.ex.blk HP.out HNE.out.2.1.1 HNE.out.2.1.2) (Ext.refl _)
     clear o1 o2 o3 o4 o5 o6
     have n0A:=(HRB.out.ex.blk HN.out HNE.out.2.2.1 HNE.out.2.2.2).cell 0
     have y0A:=HRB.out.v.cell 0
     have y1A:=HRB.out.v.frozen 0
     simp only [List.getElem?_toArray,List.getElem?_cons_zero] at n0A y0A
     obtain ⟨s0A,s1A,s2A,s3A,s4A,s5A,s6A,s7A,s8A,s9A ⟩:=svBlk HS.out (Ext.refl _)
     obtain ⟨u0A,u1A,u2A,u3A ⟩:=rcB HRB.out.u (Ext.refl _)
     have u4A:=HRB.out.u.frozen 1
     have u5A:=HRB.out.u.frozen 2
     have HRB3:=Lib.hid (HRB.out.on (Ext.new Wg (.cells (stA (.string (bs (exL2).id)) (.string ⟨#[]⟩) (.string ⟨#[]⟩) (.string ⟨#[]⟩) (.string (bs [49]))) 76)))
     have HS3:=Lib.hid (HS.out.ext (Ext.new Wg (.cells (stA (.string (bs (exL2).id)) (.string ⟨#[]⟩) (.string ⟨#[]⟩) (.string ⟨#[]⟩) (.string (bs [49]))) 76)))
     have hsz:=HRB3.out.ex.size
     gi_wp2_with (gi_at_builtin;refine wpListIn_append_own _ rfl (.tmp 255) (.tmp 263) 34 rfl W11.heap.size 76 is' _ 6 96 Tryz.underlying34 HIs.out zs0 zs1 zs2 rfl (by decide) _ _ _ rfl HRB3.out.os ⟨Wg.heap.size,0,none⟩ 1 1 [.string (bs exKey),.string (bs (exL2).id),.string ⟨#[]⟩,.string ⟨#[]⟩,.string ⟨#[]⟩,.string (bs [49])] rfl rfl (World.news_of_block (heap_alloc_new Wg _)) (one_st2 _ _) (by simp only [maxLen];omega) (by omega) hsz ?_;intro v2 w' hown' hgrow hnil;(obtain ⟨A5,c5,hv2⟩:=own_slice hown');subst hv2;clear hnil;refine halt_in ?_)
     refine halt_out ?_
     clear x0A x3A x5A o0A n0A y0A y1A s0A s1A s2A s3A s4A s5A s6A s7A s8A s9A u0A u1A u2A u3A u4A u5A
     have HT:=Lib.hid (HRB3.out.step HU.out.lt HV.out.lt hUV.out hgrow hown')
     have HSn:=Lib.hid ((blkGrown HS3.out HRB3.out.os hgrow (by decide)).far (p:=⟨G18,2,none⟩) (blk_ne HS3.out HRB3.out.u (by decide)) (.slice A5 (ks+1+1) c5))
     clear hgrow hown' HS3 HRB3 hsz
     have hst:(Instr.storeAt 34 (.pointer (some ⟨G18,2,none⟩)) (.slice A5 (ks+1+1) c5)).run Tryz.prog w' = .ok () (w'.setCell ⟨G18,2,none⟩ (.slice A5 (ks+1+1) c5)):=by
      obtain ⟨t0,t1,t2,t3⟩:=rcB HT.out.1 (Ext.refl _)
      have t4:=HT.out.1.frozen 2
      go_simp
     gi_wp2_with (first | (refine wpListIn_store1 (fun _=>trivial) rfl 34 _ _ rfl _ _ rfl rfl _ hst ?_;refine halt_in ?_) | fail)
     refine halt_out ?_
     replace HRB:=Lib.hid HT.out.2
     replace HS:=HSn
     clear HT HSn hst
     generalize w'.setCell ⟨G18,2,none⟩ (.slice A5 (ks+1+1) c5)=Wh at *
     clear w'
     gi_wp2_with fail
     refine ⟨by rw [HLB.out];exact HRB.out.L,rfl,?_⟩
     rw [HE5.out]
     exact RJ.mk HRB.out HU.out.lt HV.out.lt gs2 nl2 (by omega)
   rintro e W ⟨hv,h⟩
   obtain ⟨vg,vs,vf,ks,ss,hrb,hks⟩:=h
   refine ⟨hv,.inl ⟨hrb.L,?_⟩⟩
   have hRB:=hrb.put (lp':={ lp with state := .exhausted }) HU.out.lt HV.out.lt
   generalize W.putObj (W11.heap.size+1) (.loop { lp with state := .exhausted })=W3 at *
   clear hv hrb hW1 hlp h0 hJ hks
   obtain ⟨Ag,cg,rfl⟩:=own_slice hRB.og
   obtain ⟨As,cs,rfl⟩:=own_slice hRB.os
   obtain ⟨Af,cf,rfl⟩:=own_slice hRB.fo
   have HNE:Hid ((w.heap.size≠G18∧w.heap.size≠G21)∧(G9≠G18∧G9≠G21)∧(G12≠G18∧G12≠G21)∧(G21+1≠G18∧G21+1≠G21)):=Lib.hid ⟨⟨blk_ne HF.out HU.out (by decide),blk_ne HF.out HV.out (by decide)⟩,⟨blk_ne HP.out HU.out (by decide),blk_ne HP.out HV.out (by decide)⟩,⟨blk_ne HN.out HU.out (by decide),blk_ne HN.out HV.out (by decide)⟩,⟨blk_ne HZ.out HU.out (by decide),by omega⟩⟩
   have HRB:=Lib.hid hRB
   clear hRB
   have y0:=HRB.out.v.cell 0
   simp only [List.getElem?_toArray,List.getElem?_cons_zero] at y0
   gi_wp2_with fail
   have HEX:=Lib.hid (fun W (h:Ex2 W11 G18 G21 W)=>Ex2.after HX.out h HUw.out.1 HUw.out.2)
   have CF1:=Lib.hid (fun W (hx:Ext w W)=>lotFind exLs A c [120,47,49] W (HA.out.ext hx) (by decide))
   have CF2:=Lib.hid (fun W (hx:Ext w W)=>lotFind exLs A c [120,47,50] W (HA.out.ext hx) (by decide))
   rw [show (findL exLs [120,47,49]).isSome=false by decide +kernel] at CF1
   rw [show (findL exLs [120,47,50]).isSome=false by decide +kernel] at CF2
   gi_loopw [268,28,29,30] (fun i _ _ _ wr=>∃ k:Nat,k≤2∧i = .int .i64 k∧Ext W3 wr) (fun i _ _ _ _=>2-(intOf i).toNat)
   case atStart=>exact ⟨0,by omega,rfl,Ext.refl _⟩
   case round =>
    obtain ⟨k,hk,rfl,hx⟩:=hrel
    by_cases hlt:k<2
    ·obtain ⟨b,o,rfl,hb,c0,c1,c2,c3,c4,c5,c6⟩:=lots2_at (Reads.own (own_ext2 HRB.out.fo hx)) hlt
     have hki:(k:Int)<2:=by omega
     have hk0:(0:Int)≤(k:Int):=by omega
     have hxa:Hid (Ext W3 (wr.alloc (.cells (lc ([exN1,exN2][k]'hlt)) 71))):=Lib.hid (hx.alloc _)
     have CFk:Hid (∀ W,Ext w W→Calls Tryz.prog 32 #[.slice A 2 c,.string (bs ([exN1,exN2][k]'hlt).id)] W fun e w'=>∃ z,e = .returned (.tuple #[.int .i64 z,.bool false])∧Ext W w'):=Lib.hid (by
      obtain rfl | rfl:k=0∨k=1:=by omega
      ·exact fun W hx=>(CF1.out W hx).mono (fun e w' h=>⟨_,h.1,h.2⟩)
      ·exact fun W hx=>(CF2.out W hx).mono (fun e w' h=>⟨_,h.1,h.2⟩))
     generalize [exN1,exN2][k]'hlt=x at *
     obtain ⟨xi,xn,xa,xo,xq,xc,xu⟩:=x
     clear hx
     gi_wp2_with fail
     refine (callsIn_wide.2 (CFk.out _ (HEX.out _ (HRB.out.ex.on hxa.out)))).mono ?_
     rintro e w1 ⟨z,rfl,hx1⟩
     replace hxa:=Lib.hid (hxa.out.trans hx1)
     clear hx1
     gi_wp2_with fail
     go_roundw
     case rel=>exact ⟨k+1,by omega,by go_num,hxa.out⟩
     case measure=>simp [intOf];omega
    ·have hki:¬ (k:Int)<2:=by omega
     have hOP:=(OP.start HRB.out).on hx
     clear hx hlt hk CF1 CF2
     have HOP:=Lib.hid hOP
     clear hOP
     have y0':=HOP.out.v.cell 0
     simp only [List.getElem?_toArray,List.getElem?_cons_zero] at y0'
     gi_wp2_with fail
     clear y0 y0'
     have AD:=Lib.hid (addP exN1.c [] (by decide) (by decide))
     rw [ofI_of (l:=[57,51]) (z:=valI exN1.c+valI []) (by decide +kernel) (by decide +kernel)] at AD
     have OP0:=Lib.hid (fun W A1 c1 (hx:Env W) (_:RdL W A1 [])=>lotOpen_ok [] exN1 A1 c1 W hx ⟨Reads.nil,by simp,by simp⟩ ⟨by decide,by decide,by decide,by decide,by decide⟩ (by decide +kernel) (by decide +kernel) (by decide +kernel) (by decide))
     have OP1:=Lib.hid (fun W A1 c1 (hx:Env W) hr=>lotOpen_ok [exN1] exN2 A1 c1 W hx ⟨hr,by intro x hx;have:x=exN1:=(by simpa using hx);subst this;exact ⟨by decide,by decide,by decide,by decide,by decide⟩,by decide⟩ ⟨by decide,by decide,by decide,by decide,by decide⟩ (by decide +kernel) (by decide +kernel) (by decide +kernel) (by decide))
     rw [show insAt [] (putK [] exN1.ins ([]:List LotV).length) exN1=[exN1] from rfl] at OP0
     rw [show insAt [exN1] (putK [exN1] exN2.ins [exN1].length) exN2=[exN1,exN2] from by rw [show putK [exN1] exN2.ins [exN1].length=1 by decide +kernel];rfl] at OP1
     gi_loopw [284,31,32,33,34] (fun i _ _ _ _ wr=>∃ k:Nat,k≤2∧i = .int .i64 k∧OP W11 G18 G21 (.slice Ag 2 cg) (.slice As ks cs) (.slice Af 2 cf) k wr) (fun i _ _ _ _ _=>2-(intOf i).toNat)
     case atStart=>exact ⟨0,by omega,rfl,HOP.out⟩
     case round =>
      clear HOP
      obtain ⟨k,hk,rfl,hop⟩:=hrel
      have HOP:=Lib.hid hop
      by_cases hlt:k<2
      ·obtain ⟨b,o,rfl,hb,c0,c1,c2,c3,c4,c5,c6⟩:=lots2_at (Reads.own hop.fo) hlt
       have hki:(k:Int)<2:=by omega
       have hk0:(0:Int)≤(k:Int):=by omega
       by_cases h0:k=0
       ·subst h0
        simp only [List.getElem_cons_zero,Nat.zero_mul,Nat.add_zero] at c0 c1 c2 c3 c4 c5 c6
        have HLt:=Lib.hid (Blk.new wr 71 (lc exN1))
        have HXr:Hid (Ext wr (wr.alloc (.cells (lc exN1) 71))):=Lib.hid (Ext.new _ _)
        have z0:=((HOP.out.on HXr.out).ex.blk HZ.out HNE.out.2.2.2.1 HNE.out.2.2.2.2).cell 0
        simp only [List.getElem?_toArray,List.getElem?_cons_zero] at z0
        clear hop
        gi_wp2_with fail
        refine (callsIn_wide.2 (AD.out _ (HE.out.ext (HEX.out _ (HOP.out.on HXr.out).ex)))).mono ?_
        rintro e wb ⟨rfl,hx1⟩
        replace HXr:=Lib.hid (HXr.out.trans hx1)
        replace HLt:=Lib.hid (HLt.out.ext hx1)
        clear hx1 z0 c0 c1 c2 c3 c4 c5 c6
        have l0:=(lotBlk HLt.out (Ext.refl _)).2.2.2.2.2.1
        have l1:=HLt.out.frozen 5
        have hst:(Instr.storeAt 24 (.pointer (some ⟨wr.heap.size,5,none⟩)) (.string (bs [57,51]))).run Tryz.prog wb = .ok () (wb.setCell ⟨wr.heap.size,5,none⟩ (.string (bs [57,51]))):=by go_simp
        gi_wp2_with (first | (refine wpListIn_store1 hfn rfl 24 _ _ rfl _ _ rfl rfl _ hst ?_;refine halt_in ?_) | fail)
        refine halt_out ?_
        replace HXr:=Lib.hid (HXr.out.setCell (p:=⟨wr.heap.size,5,none⟩) (Nat.le_refl _) (.string (bs [57,51])))
        have HLt2:Hid (Blk (wb.setCell ⟨wr.heap.size,5,none⟩ (.string (bs [57,51]))) wr.heap.size 71 (lc exN1)):=Lib.hid (HLt.out.set_ 5 (.string (bs [57,51])))
        clear HLt l0 l1 hst
        generalize wb.setCell ⟨wr.heap.size,5,none⟩ (.string (bs [57,51]))=wy at *
        obtain ⟨Ak,ck,hu,hrd,hck⟩:=(HOP.out.on HXr.out).u
        have HUu:=Lib.hid hu
        have HRd:=Lib.hid hrd
        obtain ⟨u0,u1,u2,u3⟩:=rcB hu (Ext.refl _)
        obtain ⟨m0,m1,m2,m3,m4,m5,m6⟩:=lotBlk HLt2.out (Ext.refl _)
        clear hu hrd hck
        gi_wp2_with fail
        refine (callsIn_wide.2 (OP0.out _ Ak ck (HE.out.ext (HEX.out _ (HOP.out.on HXr.out).ex)) HRd.out)).mono ?_
        rintro e wd ⟨A2,c2,rfl,hr,hc,hx1⟩
        replace HXr:=Lib.hid (HXr.out.trans hx1)
        replace HUu:=Lib.hid (HUu.out.ext hx1)
        have HR2:=Lib.hid hr
        have HC2:=Lib.hid hc
        clear hx1 u0 u1 u2 u3 m0 m1 m2 m3 m4 m5 m6 hr hc
        obtain ⟨u0,u1,u2,u3⟩:=rcB HUu.out (Ext.refl _)
        have u4:=HUu.out.frozen 0
        gi_wp2_with fail
        go_roundw
        case rel=>exact ⟨1,by omega,by go_num,(HOP.out.on HXr.out).more HUu.out hUV.out HU.out.lt HR2.out HC2.out⟩
        case measure=>simp [intOf]
       ·obtain rfl:k=1:=by omega
        simp only [List.getElem_cons_succ,List.getElem_cons_zero,Nat.one_mul] at c0 c1 c2 c3 c4 c5 c6
        have HLt2:=Lib.hid (Blk.new wr 71 (lc exN2))
        have HXr:Hid (Ext wr (wr.alloc (.cells (lc exN2) 71))):=Lib.hid (Ext.new _ _)
        clear hop
        obtain ⟨Ak,ck,hu,hrd,hck⟩:=(HOP.out.on HXr.out).u
        have HUu:=Lib.hid hu
        have HRd:=Lib.hid hrd
        obtain ⟨u0,u1,u2,u3⟩:=rcB hu (Ext.refl _)
        obtain ⟨m0,m1,m2,m3,m4,m5,m6⟩:=lotBlk HLt2.out (Ext.refl _)
        clear hu hrd hck
        gi_wp2_with fail
        refine (callsIn_wide.2 (OP1.out _ Ak ck (HE.out.ext (HEX.out _ (HOP.out.on HXr.out).ex)) HRd.out)).mono ?_
        rintro e wd ⟨A2,c2,rfl,hr,hc,hx1⟩
        replace HXr:=Lib.hid (HXr.out.trans hx1)
        replace HUu:=Lib.hid (HUu.out.ext hx1)
        have HR2:=Lib.hid hr
        have HC2:=Lib.hid hc
        clear hx1 u0 u1 u2 u3 m0 m1 m2 m3 m4 m5 m6 hr hc
        obtain ⟨u0,u1,u2,u3⟩:=rcB HUu.out (Ext.refl _)
        have u4:=HUu.out.frozen 0
        gi_wp2_with fail
        go_roundw
        case rel=>exact ⟨2,by omega,by go_num,(HOP.out.on HXr.out).more HUu.out hUV.out HU.out.lt HR2.out HC2.out⟩
        case measure=>simp [intOf]
      ·have hki:¬ (k:Int)<2:=by omega
       obtain rfl:k=2:=by omega
       have HRU:Hid (w.heap.size+1≠G18∧w.heap.size+1≠G21):=Lib.hid ⟨by have:=HRl.out;omega,blk_ne HR.out HV.out (by decide)⟩
       have hxx:=(Ext.new wr (.cells #[.string ⟨#[99,97,115,104]⟩,.string (bs [51,56]),.string ⟨#[99,111,115,116]⟩,.string (bs [49,50,48]),.string ⟨#[98,97,115,105,115]⟩,.string (bs [49,49,50])] 65)).alloc (.cells #[.int .i64 12,.int .i64 19723,.string (bs exKey),.string (bs exIns),.string (bs [100,101,102]),.string ⟨#[]⟩,.slice (some ⟨wr.heap.size,0,none⟩) 3 3] 62)
       obtain ⟨x0,x1,x2,x3,x4,x5,x6,x7,x8,x9,x10,x11,x12,x13,x14,x15,x16,x17,x18,x19,x20⟩:=xBlk (HOP.out.ex.blk HF.out HNE.out.1.1 HNE.out.1.2) (Ext.refl _)
       clear x1 x2 x4 x6 x7 x8 x9 x10 x11 x12 x13 x14 x15 x16 x17 x18 x19 x20
       replace HOP:=Lib.hid (HOP.out.on hxx)
       obtain ⟨Ak,ck,hu,hrd,hck⟩:=HOP.out.u
       have HUu:=Lib.hid hu
       have HRd:=Lib.hid hrd
       obtain ⟨u0,u1,u2,u3⟩:=rcB hu (Ext.refl _)
       have u4:=hu.frozen 3
       clear hu hrd hck hop hxx hk
       have hst:∀ W,W.cell? ⟨G18,3,none⟩=some (.slice none 0 0)→W.frozen? ⟨G18,3,none⟩=false→(Instr.storeAt 35 (.pointer (some ⟨G18,3,none⟩)) (.slice (some ⟨wr.heap.size+1,0,none⟩) 1 1)).run Tryz.prog W = .ok () (W.setCell ⟨G18,3,none⟩ (.slice (some ⟨wr.heap.size+1,0,none⟩) 1 1)):=fun W q1 q2=>by go_simp
       have hst2:=hst _ u3 u4
       clear hst
       gi_wp2_with (first | (refine wpListIn_store1 hfn rfl 35 _ _ rfl _ _ rfl rfl _ hst2 ?_;refine halt_in ?_) | fail)
       refine halt_out ?_
       have HQ:=Lib.hid (HOP.out.ex.set (g:=G18) (k:=3) (.inl rfl) (.slice (some ⟨wr.heap.size+1,0,none⟩) 1 1))
       have HU2:=Lib.hid (HUu.out.set_ 3 (.slice (some ⟨wr.heap.size+1,0,none⟩) 1 1))
       have HL2:=Lib.hid (rdL_set (u := .slice (some ⟨wr.heap.size+1,0,none⟩) 1 1) HRd.out HUu.out (k:=3) ⟨_,_,_,rfl⟩)
       have HG2:=Lib.hid (own_far (k:=3) (u := .slice (some ⟨wr.heap.size+1,0,none⟩) 1 1) HOP.out.og HUu.out (by decide))
       have HD2:=Lib.hid (dfar (i:=3) (u := .slice (some ⟨wr.heap.size+1,0,none⟩) 1 1) HOP.out.D (by have:=HU.out.lt;omega:W11.heap.size≠G18))
       clear x0 x3 x5 u0 u1 u2 u3 u4 hst2 HOP HUu HRd
       generalize (World.setCell _ ⟨G18,3,none⟩ (.slice (some ⟨wr.heap.size+1,0,none⟩) 1 1))=Wy at *
       have HR2:=Lib.hid (HQ.out.blk HR.out HRU.out.1 HRU.out.2)
       obtain ⟨u0,u1,u2,u3⟩:=rcB HU2.out (Ext.refl _)
       obtain ⟨t0,t1,t2,t3⟩:=rcB HR2.out (Ext.refl _)
       have t4:=HR2.out.frozen 0
       have t5:=HR2.out.frozen 1
       have t6:=HR2.out.frozen 2
       have t7:=HR2.out.frozen 3
       gi_wp2_with fail
       clear u0 u1 u2 u3 t0 t1 t2 t3 t4 t5 t6 t7
       have HR3:=Lib.hid (HR2.out.set_ 0 (.slice Ak 2 ck))
       have HR4:=Lib.hid (HR3.out.set_ 1 (.slice Ag 2 cg))
       have HR5:=Lib.hid (HR4.out.set_ 2 (.slice As ks cs))
       have HR6:=Lib.hid (HR5.out.set_ 3 (.slice (some ⟨wr.heap.size+1,0,none⟩) 1 1))
       have HL3:=Lib.hid (rdL_set (u := .slice Ak 2 ck) HL2.out HR2.out (k:=0) ⟨_,_,_,rfl⟩)
       have HL4:=Lib.hid (rdL_set (u := .slice Ag 2 cg) HL3.out HR3.out (k:=1) ⟨_,_,_,rfl⟩)
       have HL5:=Lib.hid (rdL_set (u := .slice As ks cs) HL4.out HR4.out (k:=2) ⟨_,_,_,rfl⟩)
       have HL6:=Lib.hid (rdL_set (u := .slice (some ⟨wr.heap.size+1,0,none⟩) 1 1) HL5.out HR5.out (k:=3) ⟨_,_,_,rfl⟩)
       have HG3:=Lib.hid (own_far (k:=0) (u := .slice Ak 2 ck) HG2.out HR2.out (by decide))
       have HG4:=Lib.hid (own_far (k:=1) (u := .slice Ag 2 cg) HG3.out HR3.out (by decide))
       have HG5:=Lib.hid (own_far (k:=2) (u := .slice As ks cs) HG4.out HR4.out (by decide))
       have HG6:=Lib.hid (own_far (k:=3) (u := .slice (some ⟨wr.heap.size+1,0,none⟩) 1 1) HG5.out HR5.out (by decide))
       have hDR:W11.heap.size≠w.heap.size+1:=by have:=HR.out.lt;omega
       have HD6:=Lib.hid (dfar (i:=3) (u := .slice (some ⟨wr.heap.size+1,0,none⟩) 1 1) (dfar (i:=2) (u := .slice As ks cs) (dfar (i:=1) (u := .slice Ag 2 cg) (dfar (i:=0) (u := .slice Ak 2 ck) HD2.out hDR) hDR) hDR) hDR)
       have hww:w.heap.size≤w.heap.size+1:=Nat.le_succ _
       have HX6:=Lib.hid (((((HEX.out _ HQ.out).setCell (p:=⟨w.heap.size+1,0,none⟩) hww (.slice Ak 2 ck)).setCell (p:=⟨w.heap.size+1,1,none⟩) hww (.slice Ag 2 cg)).setCell (p:=⟨w.heap.size+1,2,none⟩) hww (.slice As ks cs)).setCell (p:=⟨w.heap.size+1,3,none⟩) hww (.slice (some ⟨wr.heap.size+1,0,none⟩) 1 1))
       clear HR3 HR4 HR5 HL3 HL4 HL5 HG3 HG4 HG5
       generalize (World.setCell (World.setCell (World.setCell (World.setCell Wy ⟨w.heap.size+1,0,none⟩ (.slice Ak 2 ck)) ⟨w.heap.size+1,1,none⟩ (.slice Ag 2 cg)) ⟨w.heap.size+1,2,none⟩ (.slice As ks cs)) ⟨w.heap.size+1,3,none⟩ (.slice (some ⟨wr.heap.size+1,0,none⟩) 1 1))=Wz at *
       refine ⟨by simp,.inl ⟨_,_,rfl,run_takeDeferred HD6.out,?_⟩⟩
       refine ⟨_,results_rt rfl _ _ (w.heap.size+1) _ _ _ _ (.int .i64 0) rfl rfl (HR6.out.put _ (Ne.symm hDR)),?_⟩
       have hgr:=Reads.own (own_putD (o := .deferred none) HG6.out HD6.out)
       obtain ⟨gG,oG,rfl,hgl,hgc⟩:=hgr.2 (by decide)
       refine ⟨Ak,ck,gG,oG,cg,As,ks,cs,_,rfl,HL6.out.put HD6.out (fun _ _ _ h=>by cases h) (by decide) _,hgc 6 _ rfl,hgc 17 _ rfl,HX6.out.putObj (by have:=HX.out.size;omega) _⟩
end
end Go.Proofs.YthgpheopnhajaaaGreatDoor
