/- The seat's texts, part U25. -/
import Derived.Test.YthgpheopnhajaaaGreatDoorU24
set_option maxRecDepth 100000
set_option maxHeartbeats 8000000
namespace Go.Proofs.YthgpheopnhajaaaGreatDoor
section
open Go.RowKit Go.Shelf
attribute [local go_sem] size_bs toList_bs Oper.semAt_some
structure ShIn (B0 B1 B2 B3:Nat) (ls:List LotV) (A:Option Addr) (c:Nat) (ns ps ks:List Bs) (A1:Option Addr) (c1:Nat) (A2:Option Addr) (c2:Nat) (A3:Option Addr) (c3:Nat) (W:World):Prop where
 b0:Blk W B0 22 #[.slice A ls.length c]
 b1:Blk W B1 106 #[.slice A1 ls.length c1]
 b2:Blk W B2 106 #[.slice A2 ls.length c2]
 b3:Blk W B3 106 #[.slice A3 ls.length c3]
 a:RdL W A ls
 r1:RdS W A1 ns
 r2:RdS W A2 ps
 r3:RdS W A3 ks
theorem mgShares3 (n l:Nat) (B0 B1 B2 B3:Nat) (ls:List LotV) (A:Option Addr) (c:Nat) (ns ps ks:List Bs) (A1 A2 A3:Option Addr) (c1 c2 c3:Nat) (hn:ls.length≤1000000)
  (l1:ns.length=ls.length) (l2:ps.length=ls.length) (l3:ks.length=ls.length) (J:Nat→World→Prop)
  (hJ:∀ k W,J k W→ShIn B0 B1 B2 B3 ls A c ns ps ks A1 c1 A2 c2 A3 c3 W) (hX:∀ k W W',J k W→Ext W W'→J k W')
  (hY:∀ k (hk:k<ls.length) W,J k W→YieldAt Fence.wide (n-1) Tryz.prog l #[sv (ls[k]'hk) (ns[k]'(by omega)) (ps[k]'(by omega)) (ks[k]'(by omega))] W (YldEnds J k)) (W:World) (h0:J 0 W) :
  CallsIn Fence.wide n Tryz.prog 111 #[.func (.yield l) #[] #[],.pointer (some ⟨B0,0,none⟩),.pointer (some ⟨B1,0,none⟩),.pointer (some ⟨B2,0,none⟩),.pointer (some ⟨B3,0,none⟩)] W fun e W'=>(∃ v,e = .returned v)∧J ls.length W':=by
 have hfn:∀ k,Fence.wide.fn k:=fun _=>trivial
 have hdp:Fence.wide.depth.isSome=false:=rfl
 have HLL:=Lib.hid (And.intro l1 (And.intro l2 l3))
 have HJ:=Lib.hid hJ
 have HX:=Lib.hid hX
 have HY:=Lib.hid hY
 have H0:=Lib.hid h0
 clear hJ hX hY h0
 have q0:=(HJ.out 0 W H0.out).b0.cell 0
 simp only [List.getElem?_toArray,List.getElem?_cons_zero] at q0
 refine callsIn_of_wp Tryz.func111 rfl trivial ?_ rfl
 simp only [Tryz.ntmps111,List.size_toArray,List.length_cons,List.length_nil,Nat.reduceAdd,Nat.reduceSub,Array.replicate_succ,Array.replicate_zero,List.push_toArray,List.append_toArray,List.nil_append,List.cons_append]
 gi_wp2
 gi_loopw [10,6,7] (fun i _ _ wr=>∃ k:Nat,k≤ls.length∧i = .int .i64 k∧J k wr) (fun i _ _ _=>ls.length-(intOf i).toNat)
 case atStart=>exact ⟨0,by omega,rfl,H0.out⟩
 case round =>
  clear H0 q0
  obtain ⟨k,hk,rfl,h⟩:=hrel
  have hh:=HJ.out k wr h
  by_cases hlt:k<ls.length
  ·obtain ⟨b,o,rfl,hb,c0,c1',c2',c3',c4,c5,c6⟩:=hh.a.at_ hlt
   have HN:=Lib.hid (HX.out k wr (wr.alloc (.cells (lc (ls[k]'hlt)) 71)).drew h (Ext.new _ _).drew)
   have HY1:=Lib.hid (HY.out k hlt _ HN.out)
   have HHN:=Lib.hid (HJ.out k _ HN.out)
   have HB:=Lib.hid ((Blk.new wr 71 (lc (ls[k]'hlt))).drew)
   obtain ⟨g1,o1,rfl,hg1,w1⟩:=HHN.out.r1.at_ (k:=k) (by omega)
   obtain ⟨g2,o2,rfl,hg2,w2⟩:=HHN.out.r2.at_ (k:=k) (by omega)
   obtain ⟨g3,o3,rfl,hg3,w3⟩:=HHN.out.r3.at_ (k:=k) (by omega)
   have hki:(k:Int)<(ls.length:Int):=by omega
   have hk0:(0:Int)≤(k:Int):=by omega
   clear h hh
   generalize ns[k]'(by omega)=n1 at *
   generalize ps[k]'(by omega)=p1 at *
   generalize ks[k]'(by omega)=k1 at *
   generalize ls[k]'hlt=x at *
   obtain ⟨xi,xn,xa,xo,xq,xc,xu⟩:=x
   gi_wp2
   refine wpIn_region_any (by kernel_rfl) ?_
   change wpAnyIn _ _ _ _ _ _ _ _ _ (World.drew (wr.alloc (.cells #[.string (bs xi),.string (bs xn),.int .i64 xa,.int .i64 xo,.string (bs xq),.string (bs xc),.string (bs xu)] 71)))
   generalize World.drew (wr.alloc (.cells #[.string (bs xi),.string (bs xn),.int .i64 xa,.int .i64 xo,.string (bs xq),.string (bs xc),.string (bs xu)] 71))=Wd at *
   obtain ⟨y0,y1,y2,y3,y4,y5,y6⟩:=lotBlk HB.out (Ext.refl Wd)
   have z1:=HHN.out.b1.cell 0
   have z2:=HHN.out.b2.cell 0
   have z3:=HHN.out.b3.cell 0
   simp only [List.getElem?_toArray,List.getElem?_cons_zero] at z1 z2 z3
   generalize hX7:wr.heap.size=X7 at *
   have r1:(Instr.loadAt 71 (.pointer (some ⟨X7,0,none⟩))).run Tryz.prog Wd = .ok (.agg #[.string (bs xi),.string (bs xn),.int .i64 xa,.int .i64 xo,.string (bs xq),.string (bs xc),.string (bs xu)]) Wd:=by go_simp
   have s1:(Instr.loadAt 106 (.pointer (some ⟨B1,0,none⟩))).run Tryz.prog Wd = .ok (.slice (some ⟨g1,o1,none⟩) ls.length c1) Wd:=by go_simp
   have i1:(Instr.indexAt 106 (.slice (some ⟨g1,o1,none⟩) ls.length c1) (.int .i64 k)).run Tryz.prog Wd = .ok (.pointer (some ⟨g1,o1+k,none⟩)) Wd:=by go_simp
   have t1:(Instr.loadAt 24 (.pointer (some ⟨g1,o1+k,none⟩))).run Tryz.prog Wd = .ok (.string (bs n1)) Wd:=by go_simp
   have s2:(Instr.loadAt 106 (.pointer (some ⟨B2,0,none⟩))).run Tryz.prog Wd = .ok (.slice (some ⟨g2,o2,none⟩) ls.length c2) Wd:=by go_simp
   have i2:(Instr.indexAt 106 (.slice (some ⟨g2,o2,none⟩) ls.length c2) (.int .i64 k)).run Tryz.prog Wd = .ok (.pointer (some ⟨g2,o2+k,none⟩)) Wd:=by go_simp
   have t2:(Instr.loadAt 24 (.pointer (some ⟨g2,o2+k,none⟩))).run Tryz.prog Wd = .ok (.string (bs p1)) Wd:=by go_simp
   have s3:(Instr.loadAt 106 (.pointer (some ⟨B3,0,none⟩))).run Tryz.prog Wd = .ok (.slice (some ⟨g3,o3,none⟩) ls.length c3) Wd:=by go_simp
   have i3:(Instr.indexAt 106 (.slice (some ⟨g3,o3,none⟩) ls.length c3) (.int .i64 k)).run Tryz.prog Wd = .ok (.pointer (some ⟨g3,o3+k,none⟩)) Wd:=by go_simp
   have t3:(Instr.loadAt 24 (.pointer (some ⟨g3,o3+k,none⟩))).run Tryz.prog Wd = .ok (.string (bs k1)) Wd:=by go_simp
   have bld:(Instr.build 102 #[(0,Value.agg #[.string (bs xi),.string (bs xn),.int .i64 xa,.int .i64 xo,.string (bs xq),.string (bs xc),.string (bs xu)]),(1,Value.string (bs n1)),(2,Value.string (bs p1)),(3,Value.string (bs k1))]).run Tryz.prog Wd = .ok (Value.agg #[.string (bs xi),.string (bs xn),.int .i64 xa,.int .i64 xo,.string (bs xq),.string (bs xc),.string (bs xu),.string (bs n1),.string (bs p1),.string (bs k1)]) Wd:=by go_simp
   refine wpAnyIn_inv (Inv:=ChInv _ _ (fun s=>(#[Value.func (.yield l) #[] #[],Value.agg #[.string (bs xi),.string (bs xn),.int .i64 xa,.int .i64 xo,.string (bs xq),.string (bs xc),.string (bs xu)],Value.slice (some ⟨g1,o1,none⟩) ls.length c1,Value.int .i64 k,Value.pointer (some ⟨g1,o1+k,none⟩),Value.string (bs n1),Value.slice (some ⟨g2,o2,none⟩) ls.length c2,Value.int .i64 k,Value.pointer (some ⟨g2,o2+k,none⟩),Value.string (bs p1),Value.slice (some ⟨g3,o3,none⟩) ls.length c3,Value.int .i64 k,Value.pointer (some ⟨g3,o3+k,none⟩),Value.string (bs k1),Value.agg #[.string (bs xi),.string (bs xn),.int .i64 xa,.int .i64 xo,.string (bs xq),.string (bs xc),.string (bs xu),.string (bs n1),.string (bs p1),.string (bs k1)],Value.bool true,Value.bool false]:Array Value).getD (s-15) undef) 15 15 Wd (fun W=>J (k+1) W)) ?hend ?hz ?hstep _ _ _ _ (ChInv.start _)
   case hz=>exact fun listed a w' h=>ready_nil (by have:=h.cnt;omega) h.size
   case hend =>
    intro f listed a w' h hr
    obtain ⟨ha,hj⟩:=h.fin (by decide) hr (by kernel_rfl)
    have ha2:a=({ tmps:=#[Value.func (.yield l) #[] #[],Value.pointer (some ⟨B0,0,none⟩),Value.pointer (some ⟨B1,0,none⟩),Value.pointer (some ⟨B2,0,none⟩),Value.pointer (some ⟨B3,0,none⟩),undef,Value.int .i64 k,Value.pointer (some ⟨X7,0,none⟩),Value.slice (some ⟨b,o,none⟩) ls.length c,Value.int .i64 ls.length,Value.int .i64 k,Value.bool true,Value.int .i64 k,Value.pointer (some ⟨b,o+k*7,none⟩),Value.agg #[.string (bs xi),.string (bs xn),.int .i64 xa,.int .i64 xo,.string (bs xq),.string (bs xc),.string (bs xu)],Value.func (.yield l) #[] #[],Value.agg #[.string (bs xi),.string (bs xn),.int .i64 xa,.int .i64 xo,.string (bs xq),.string (bs xc),.string (bs xu)],Value.slice (some ⟨g1,o1,none⟩) ls.length c1,Value.int .i64 k,Value.pointer (some ⟨g1,o1+k,none⟩),Value.string (bs n1),Value.slice (some ⟨g2,o2,none⟩) ls.length c2,Value.int .i64 k,Value.pointer (some ⟨g2,o2+k,none⟩),Value.string (bs p1),Value.slice (some ⟨g3,o3,none⟩) ls.length c3,Value.int .i64 k,Value.pointer (some ⟨g3,o3+k,none⟩),Value.string (bs k1),Value.agg #[.string (bs xi),.string (bs xn),.int .i64 xa,.int .i64 xo,.string (bs xq),.string (bs xc),.string (bs xu),.string (bs n1),.string (bs p1),.string (bs k1)],Value.bool true,Value.bool false,u32],defers:=[] }:Act):=ha.trans (by kernel_rfl)
    clear ha
    subst ha2
    have HJ3:=Lib.hid hj
    clear h hr hj
    gi_wp2
    go_roundw
    case rel=>exact ⟨k+1,by omega,by go_num,HJ3.out⟩
    case measure=>simp [intOf];omega
   case hstep =>
    intro f listed a w' i h hi
    have hW:i<15→w'=Wd:=fun hi15=>h.before hi hi15 (by decide) (by
     intro L hcl h15
     have a0:L 0:=hcl 15 _ ⟨0,.data⟩ rfl h15 (by simp) rfl
     have a14:L 14:=hcl 15 _ ⟨14,.data⟩ rfl h15 (by simp) rfl
     have a1:L 1:=hcl 14 _ ⟨1,.data⟩ rfl a14 (by simp) rfl
     have a5:L 5:=hcl 14 _ ⟨5,.data⟩ rfl a14 (by simp) rfl
     have a9:L 9:=hcl 14 _ ⟨9,.data⟩ rfl a14 (by simp) rfl
     have a13:L 13:=hcl 14 _ ⟨13,.data⟩ rfl a14 (by simp) rfl
     have a4:L 4:=hcl 5 _ ⟨4,.data⟩ rfl a5 (by simp) rfl
     have a2:L 2:=hcl 4 _ ⟨2,.data⟩ rfl a4 (by simp) rfl
     have a3:L 3:=hcl 4 _ ⟨3,.data⟩ rfl a4 (by simp) rfl
     have a8:L 8:=hcl 9 _ ⟨8,.data⟩ rfl a9 (by simp) rfl
     have a6:L 6:=hcl 8 _ ⟨6,.data⟩ rfl a8 (by simp) rfl
     have a7:L 7:=hcl 8 _ ⟨7,.data⟩ rfl a8 (by simp) rfl
     have a12:L 12:=hcl 13 _ ⟨12,.data⟩ rfl a13 (by simp) rfl
     have a10:L 10:=hcl 12 _ ⟨10,.data⟩ rfl a12 (by simp) rfl
     have a11:L 11:=hcl 12 _ ⟨11,.data⟩ rfl a12 (by simp) rfl
     intro i hi
     obtain rfl | rfl | rfl | rfl | rfl | rfl | rfl | rfl | rfl | rfl | rfl | rfl | rfl | rfl | rfl:i=0∨i=1∨i=2∨i=3∨i=4∨i=5∨i=6∨i=7∨i=8∨i=9∨i=10∨i=11∨i=12∨i=13∨i=14:=by omega
     ·exact a0
     ·exact a1
     ·exact a2
     ·exact a3
     ·exact a4
     ·exact a5
     ·exact a6
     ·exact a7
     ·exact a8
     ·exact a9
     ·exact a10
     ·exact a11
     ·exact a12
     ·exact a13
     ·exact a14
     )
    have hlt:i<17:=ready_lt hi
    have hbz:∀ s,s<15→a.tmps.getD s undef=_:=fun s hs=>h.base' (s:=s) (by show s<33;omega) (.inl hs)
    obtain rfl | rfl | rfl | rfl | rfl | rfl | rfl | rfl | rfl | rfl | rfl | rfl | rfl | rfl | rfl | rfl | rfl:i=0∨i=1∨i=2∨i=3∨i=4∨i=5∨i=6∨i=7∨i=8∨i=9∨i=10∨i=11∨i=12∨i=13∨i=14∨i=15∨i=16:=by omega
    ·skip
     obtain rfl:=hW (by omega)
     have e0:a.tmps.getD 0 undef=Value.func (.yield l) #[] #[]:=hbz 0 (by omega)
     refine stepIn_read hfn rfl rfl rfl _ ?_ (h.step hi rfl rfl _ (.inl ⟨by decide,rfl⟩))
     simp [execOp,eval_tmpM,e0]
    ·skip
     obtain rfl:=hW (by omega)
     have e7:a.tmps.getD 7 undef=Value.pointer (some ⟨X7,0,none⟩):=hbz 7 (by omega)
     refine stepIn_read hfn rfl rfl rfl _ ?_ (h.step hi rfl rfl _ (.inl ⟨by decide,rfl⟩))
     simp [execOp,eval_tmpM,e7,r1]
    ·skip
     obtain rfl:=hW (by omega)
     have e2:a.tmps.getD 2 undef=Value.pointer (some ⟨B1,0,none⟩):=hbz 2 (by omega)
     refine stepIn_read hfn rfl rfl rfl _ ?_ (h.step hi rfl rfl _ (.inl ⟨by decide,rfl⟩))
     simp [execOp,eval_tmpM,e2,s1]
    ·skip
     obtain rfl:=hW (by omega)
     have e6:a.tmps.getD 6 undef=Value.int .i64 k:=hbz 6 (by omega)
     refine stepIn_read hfn rfl rfl rfl _ ?_ (h.step hi rfl rfl _ (.inl ⟨by decide,rfl⟩))
     simp [execOp,eval_tmpM,e6]
    ·skip
     obtain rfl:=hW (by omega)
     have e17:a.tmps.getD 17 undef=Value.slice (some ⟨g1,o1,none⟩) ls.length c1:=h.need (by show 15+17≤33;decide) hi rfl 2 (by show 2<17;decide) rfl
     have e18:a.tmps.getD 18 undef=Value.int .i64 k:=h.need (by show 15+17≤33;decide) hi rfl 3 (by show 3<17;decide) rfl
     refine stepIn_read hfn rfl rfl rfl _ ?_ (h.step hi rfl rfl _ (.inl ⟨by decide,rfl⟩))
     simp [execOp,eval_tmpM,e17,e18,i1]
    ·skip
     obtain rfl:=hW (by omega)
     have e19:a.tmps.getD 19 undef=Value.pointer (some ⟨g1,o1+k,none⟩):=h.need (by show 15+17≤33;decide) hi rfl 4 (by show 4<17;decide) rfl
     refine stepIn_read hfn rfl rfl rfl _ ?_ (h.step hi rfl rfl _ (.inl ⟨by decide,rfl⟩))
     simp [execOp,eval_tmpM,e19,t1]
    ·skip
     obtain rfl:=hW (by omega)
     have e3:a.tmps.getD 3 undef=Value.pointer (some ⟨B2,0,none⟩):=hbz 3 (by omega)
     refine stepIn_read hfn rfl rfl rfl _ ?_ (h.step hi rfl rfl _ (.inl ⟨by decide,rfl⟩))
     simp [execOp,eval_tmpM,e3,s2]
    ·skip
     obtain rfl:=hW (by omega)
     have e6:a.tmps.getD 6 undef=Value.int .i64 k:=hbz 6 (by omega)
     refine stepIn_read hfn rfl rfl rfl _ ?_ (h.step hi rfl rfl _ (.inl ⟨by decide,rfl⟩))
     simp [execOp,eval_tmpM,e6]
    ·skip
     obtain rfl:=hW (by omega)
     have e21:a.tmps.getD 21 undef=Value.slice (some ⟨g2,o2,none⟩) ls.length c2:=h.need (by show 15+17≤33;decide) hi rfl 6 (by show 6<17;decide) rfl
     have e22:a.tmps.getD 22 undef=Value.int .i64 k:=h.need (by show 15+17≤33;decide) hi rfl 7 (by show 7<17;decide) rfl
     refine stepIn_read hfn rfl rfl rfl _ ?_ (h.step hi rfl rfl _ (.inl ⟨by decide,rfl⟩))
     simp [execOp,eval_tmpM,e21,e22,i2]
    ·skip
     obtain rfl:=hW (by omega)
     have e23:a.tmps.getD 23 undef=Value.pointer (some ⟨g2,o2+k,none⟩):=h.need (by show 15+17≤33;decide) hi rfl 8 (by show 8<17;decide) rfl
     refine stepIn_read hfn rfl rfl rfl _ ?_ (h.step hi rfl rfl _ (.inl ⟨by decide,rfl⟩))
     simp [execOp,eval_tmpM,e23,t2]
    ·skip
     obtain rfl:=hW (by omega)
     have e4:a.tmps.getD 4 undef=Value.pointer (some ⟨B3,0,none⟩):=hbz 4 (by omega)
     refine stepIn_read hfn rfl rfl rfl _ ?_ (h.step hi rfl rfl _ (.inl ⟨by decide,rfl⟩))
     simp [execOp,eval_tmpM,e4,s3]
    ·skip
     obtain rfl:=hW (by omega)
     have e6:a.tmps.getD 6 undef=Value.int .i64 k:=hbz 6 (by omega)
     refine stepIn_read hfn rfl rfl rfl _ ?_ (h.step hi rfl rfl _ (.inl ⟨by decide,rfl⟩))
     simp [execOp,eval_tmpM,e6]
    ·skip
     obtain rfl:=hW (by omega)
     have e25:a.tmps.getD 25 undef=Value.slice (some ⟨g3,o3,none⟩) ls.length c3:=h.need (by show 15+17≤33;decide) hi rfl 10 (by show 10<17;decide) rfl
     have e26:a.tmps.getD 26 undef=Value.int .i64 k:=h.need (by show 15+17≤33;decide) hi rfl 11 (by show 11<17;decide) rfl
     refine stepIn_read hfn rfl rfl rfl _ ?_ (h.step hi rfl rfl _ (.inl ⟨by decide,rfl⟩))
     simp [execOp,eval_tmpM,e25,e26,i3]
    ·skip
     obtain rfl:=hW (by omega)
     have e27:a.tmps.getD 27 undef=Value.pointer (some ⟨g3,o3+k,none⟩):=h.need (by show 15+17≤33;decide) hi rfl 12 (by show 12<17;decide) rfl
     refine stepIn_read hfn rfl rfl rfl _ ?_ (h.step hi rfl rfl _ (.inl ⟨by decide,rfl⟩))
     simp [execOp,eval_tmpM,e27,t3]
    ·skip
     obtain rfl:=hW (by omega)
     have e16:a.tmps.getD 16 undef=Value.agg #[.string (bs xi),.string (bs xn),.int .i64 xa,.int .i64 xo,.string (bs xq),.string (bs xc),.string (bs xu)]:=h.need (by show 15+17≤33;decide) hi rfl 1 (by show 1<17;decide) rfl
     have e20:a.tmps.getD 20 undef=Value.string (bs n1):=h.need (by show 15+17≤33;decide) hi rfl 5 (by show 5<17;decide) rfl
     have e24:a.tmps.getD 24 undef=Value.string (bs p1):=h.need (by show 15+17≤33;decide) hi rfl 9 (by show 9<17;decide) rfl
     have e28:a.tmps.getD 28 undef=Value.string (bs k1):=h.need (by show 15+17≤33;decide) hi rfl 13 (by show 13<17;decide) rfl
     refine stepIn_read hfn rfl rfl rfl _ ?_ (h.step hi rfl rfl _ (.inl ⟨by decide,rfl⟩))
     simp [execOp,eval_tmpM,e16,e20,e24,e28,bld]
    ·obtain rfl:=h.at_call hi
     have e15:a.tmps.getD 15 undef=Value.func (.yield l) #[] #[]:=h.need (by show 15+17≤33;decide) hi rfl 0 (by show 0<17;decide) rfl
     have e29:a.tmps.getD 29 undef=Value.agg #[.string (bs xi),.string (bs xn),.int .i64 xa,.int .i64 xo,.string (bs xq),.string (bs xc),.string (bs xu),.string (bs n1),.string (bs p1),.string (bs k1)]:=h.need (by show 15+17≤33;decide) hi rfl 14 (by show 14<17;decide) rfl
     obtain ⟨fn,tmps,assign,body,hy,hR⟩:=HY1.out
     refine stepIn_round hfn hdp rfl rfl rfl l fn tmps assign body ?_ hR ?_
     ·simp [execOp,eval_tmpM,e15,e29,resolve,invoke,Deferred.ofValue,hy]
     ·rintro e W3 ⟨rfl,hJ3⟩
      exact ⟨_,rfl,h.step hi rfl rfl _ (.inr ⟨rfl,hJ3⟩)⟩
    ·skip
     have e30:a.tmps.getD 30 undef = .bool true:=h.need (by show 15+17≤33;decide) hi rfl 15 (by show 15<17;decide) rfl
     refine stepIn_read hfn rfl rfl rfl _ ?_ (h.step hi rfl rfl _ (.inl ⟨by decide,rfl⟩))
     simp [execOp,eval_tmpM,e30]
     go_simp
  ·obtain rfl:k=ls.length:=by omega
   have HH:=Lib.hid h
   clear h hh
   gi_wp2
   go_end0
   exact ⟨⟨_,rfl⟩,HH.out⟩
end
section
open Go.RowKit Go.Shelf
section
variable {P:Program} {ops:Array Oper} {Q:Exit→Act→World→Prop}
structure GrInv (ops:Array Oper) (base:Array Value) (val:Nat→Value) (d c:Nat) (R J:World→Prop) (f:Nat) (listed:Array Bool) (a:Act) (w:World):Prop where
 size:listed.size=ops.size
 cnt:listed.toList.count false≤f
 act:a=actOf base (whoOf d ops.size) val listed
 cl:∀ i o e,ops[i]? = some o→listed.getD i false=true→e ∈ o.after.toList→Region.binds .any e=true→listed.getD e.on false=true
 wld:(listed.getD c false=false∧R w)∨(listed.getD c false=true∧J w)
variable {base:Array Value} {val:Nat→Value} {d c f i:Nat} {R J:World→Prop} {w:World} {listed:Array Bool} {a:Act} {o:Oper}
theorem actOf_skip {who:Nat→Option Nat} (hw:∀ s,s<base.size→who s≠some i) (hi:i<listed.size):actOf base who val listed=actOf base who val (listed.setIfInBounds i true):=by
 have key:(actOf base who val listed).tmps=(actOf base who val (listed.setIfInBounds i true)).tmps:=by
  unfold actOf
  dsimp only
  apply Array.ext
  ·simp
  ·intro s h1 h2
   have hs:s<base.size:=by simpa using h2
   rw [Array.getElem_ofFn,Array.getElem_ofFn]
   dsimp only
   cases hq:who s with
   |none=>rfl
   |some j =>
    dsimp only
    have hne:j≠i:=fun h=>hw s hs (by rw [hq,h])
    rw [getD_set hi,if_neg hne]
 show ({ tmps:=(actOf base who val listed).tmps,defers:=[] }:Act)=_
 rw [key]
 rfl
theorem GrInv.need (h:GrInv ops base val d c R J (f+1) listed a w) (hi:i ∈ Region.ready .any ops listed) (ho:ops[i]? = some o) (p:Nat) (hps:p<ops.size) (hd:d+p<base.size) (hp:(o.after.toList.any fun e=>e.on == p && Region.binds .any e)=true):a.tmps.getD (d+p) undef=val (d+p):=by
 rw [h.act]
 exact actOf_val hd (whoOf_at hps) (ready_pred hi ho hp)
theorem GrInv.base' (h:GrInv ops base val d c R J f listed a w) {s:Nat} (hs:s<base.size) (hn:s<d∨d+ops.size≤s):a.tmps.getD s undef=base.getD s undef:=by
 rw [h.act]
 exact actOf_base hs (by unfold whoOf;rw [if_neg (by omega)])
theorem GrInv.more (h:GrInv ops base val d c R J (f+1) listed a w) (hi:i ∈ Region.ready .any ops listed) (ho:ops[i]? = some o) (a':Act) (w':World) (ha:a'=actOf base (whoOf d ops.size) val (listed.setIfInBounds i true)) (hw:(i≠c∧((R w→R w')∧(J w→J w')))∨(i=c∧J w')) :
  GrInv ops base val d c R J f (listed.setIfInBounds i true) a' w':=by
 have hlt:=ready_lt hi
 have hs:=h.size
 have hc:=count_set (ready_not hi)
 have hcn:=h.cnt
 refine ⟨by rw [Array.size_setIfInBounds];exact hs,by omega,ha,?_,?_⟩
 ·intro j oj e hj hl he hb
  rcases listed_set hl with e1 | e1
  ·subst e1
   rw [ho] at hj
   cases hj
   refine up_listed (ready_pred hi ho ?_)
   rw [List.any_eq_true]
   exact ⟨e,he,by rw [hb];simp⟩
  ·exact up_listed (h.cl j oj e hj e1 he hb)
 ·rcases hw with ⟨hne,h3,h4⟩ | ⟨rfl,hj⟩
  ·rcases h.wld with ⟨h1,h2⟩ | ⟨h1,h2⟩
   ·left
    refine ⟨?_,h3 h2⟩
    cases hq:(listed.setIfInBounds i true).getD c false
    ·rfl
    ·rcases listed_set hq with e | e
     ·exact absurd e.symm hne
     ·rw [h1] at e;cases e
   ·exact .inr ⟨up_listed h1,h4 h2⟩
  ·right
   refine ⟨?_,hj⟩
   rw [Array.getD_eq_getD_getElem?,Array.getElem?_setIfInBounds_self_of_lt (by omega)]
   rfl
theorem GrInv.step (h:GrInv ops base val d c R J (f+1) listed a w) (hi:i ∈ Region.ready .any ops listed) (ho:ops[i]? = some o) (hdst:o.dst=some (d+i)) (w':World) (hw:(i≠c∧((R w→R w')∧(J w→J w')))∨(i=c∧J w')) :
  GrInv ops base val d c R J f (listed.setIfInBounds i true) (a.put o.dst (val (d+i))) w':=by
 refine h.more hi ho _ w' ?_ hw
 have hlt:=ready_lt hi
 have hs:=h.size
 rw [hdst,h.act]
 exact actOf_put (whoOf_at hlt) (fun s hs=>whoOf_inj hs) (by omega)
theorem GrInv.stepN (h:GrInv ops base val d c R J (f+1) listed a w) (hi:i ∈ Region.ready .any ops listed) (ho:ops[i]? = some o) (hdst:o.dst=none) (hd:base.size≤d+i) (w':World) (v:Value) (hw:(i≠c∧((R w→R w')∧(J w→J w')))∨(i=c∧J w')) :
  GrInv ops base val d c R J f (listed.setIfInBounds i true) (a.put o.dst v) w':=by
 refine h.more hi ho _ w' ?_ hw
 have hlt:=ready_lt hi
 have hs:=h.size
 rw [hdst,h.act]
 exact actOf_skip (fun s hs hq=>by have:=whoOf_inj hq;omega) (by omega)
theorem GrInv.before (h:GrInv ops base val d c R J f listed a w) (hi:i ∈ Region.ready .any ops listed) (hic:i<c) (_hsz:c<ops.size)
  (hdep:∀ L:Nat→Prop,(∀ i o e,ops[i]? = some o→L i→e ∈ o.after.toList→Region.binds .any e=true→L e.on)→L c→∀ i,i<c→L i):R w:=by
 rcases h.wld with ⟨_,h2⟩ | ⟨h1,_⟩
 ·exact h2
 ·have:=hdep (fun i=>listed.getD i false=true) (fun i o e ho hl he hb=>h.cl i o e ho hl he hb) h1 i hic
  have hn:=ready_not hi
  rw [Array.getD_eq_getD_getElem?] at this hn
  have hlt:=ready_lt hi
  have hs:=h.size
  rw [Array.getElem?_eq_getElem (by omega)] at this hn
  exact absurd (hn.symm.trans this) (by decide)
theorem GrInv.at_last (h:GrInv ops base val d c R J f listed a w) (hi:c ∈ Region.ready .any ops listed):R w:=by
 rcases h.wld with ⟨_,h2⟩ | ⟨h1,_⟩
 ·exact h2
 ·have hn:=ready_not hi
  have hlt:=ready_lt hi
  have hs:=h.size
  rw [Array.getD_eq_getD_getElem?] at h1 hn
  rw [Array.getElem?_eq_getElem (by omega)] at h1 hn
  exact absurd (hn.symm.trans h1) (by decide)
theorem GrInv.start (J:World→Prop) (hR:R w):GrInv ops base val d c R J ops.size (Array.replicate ops.size false) { tmps:=base,defers:=[] } w:=by
 have hf:∀ i,(Array.replicate ops.size false).getD i false=false:=fun i=>by
  rw [Array.getD_eq_getD_getElem?,Array.getElem?_replicate]
  split <;> rfl
 refine ⟨by simp,by rw [Array.toList_replicate,List.count_replicate_self];exact Nat.le_refl _,actOf_none.symm,?_,.inl ⟨hf c,hR⟩⟩
 intro i o e _ hl
 rw [hf i] at hl;cases hl
theorem GrInv.fin (h:GrInv ops base val d c R J f listed a w) (hc:c<ops.size) (hr:Region.ready .any ops listed=[])
  (hacc:((List.range ops.size).all fun i=>match ops[i]? with | some o=>o.after.toList.all (fun e=>decide (e.on<i)) | none=>true)=true) :
  a=(List.range ops.size).foldl (fun a j=>a.put (some (d+j)) (val (d+j))) { tmps:=base,defers:=[] }∧J w:=by
 have hall:=ready_all hacc hr h.size
 refine ⟨?_,?_⟩
 ·rw [h.act,all_true h.size hall,actOf_end]
 ·rcases h.wld with ⟨h1,_⟩ | ⟨_,h2⟩
  ·rw [hall c hc] at h1;cases h1
  ·exact h2
theorem stepP_read {K:Act→World→Prop} {w':World} (ho:ops[i]? = some o) (hg:o.guard=none) (v:Value) (hrun:(execOp a.eval o).run P w = .ok (.value v) w') (hK:K (a.put o.dst v) w'):wpOp P ops Q i K a w:=by
 unfold wpOp
 rw [ho]
 dsimp only
 rw [if_pos (by simp [Region.wanted,hg])]
 refine .inl ?_
 unfold Oper.wp
 rw [hrun]
 exact hK
theorem stepP_skip {K:Act→World→Prop} {w':World} (ho:ops[i]? = some o) (hg:o.guard=none) (hrun:(execOp a.eval o).run P w = .ok .skip w') (hK:K (a.put o.dst undef) w'):wpOp P ops Q i K a w:=by
 unfold wpOp
 rw [ho]
 dsimp only
 rw [if_pos (by simp [Region.wanted,hg])]
 refine .inl ?_
 unfold Oper.wp
 rw [hrun]
 exact hK
theorem stepP_call {K:Act→World→Prop} {fn:Nat} {args:Array Value} {post:Ending→World→Prop} (ho:ops[i]? = some o) (hg:o.guard=none) (hrun:(execOp a.eval o).run P w = .ok (.enter fn args) w) (hC:Calls P fn args w post) (hK:∀ e w',post e w'→∃ v,e = .returned v∧K (a.put o.dst v) w'):wpOp P ops Q i K a w:=by
 unfold wpOp
 rw [ho]
 dsimp only
 rw [if_pos (by simp [Region.wanted,hg])]
 refine .inl ?_
 unfold Oper.wp
 rw [hrun]
 refine hC.mono ?_
 intro e w' hp
 obtain ⟨v,rfl,hk⟩:=hK e w' hp
 exact hk
end
end
section
open Go.RowKit Go.Shelf
section
variable {P:Program} {ops:Array Oper} {Q:Exit→Act→World→Prop}
def upd (val:Nat→Value) (d:Nat) (v:Value):Nat→Value:=fun s=>if s=d then v else val s
structure FtInv (ops:Array Oper) (base:Array Value) (who:Nat→Option Nat) (Fit:Nat→Value→World→Prop) (M:Array Bool→(Nat→Value)→World→Prop) (f:Nat) (listed:Array Bool) (val:Nat→Value) (a:Act) (w:World):Prop where
 size:listed.size=ops.size
 cnt:listed.toList.count false≤f
 act:a=actOf base who val listed
 fit:∀ s i,s<base.size→who s=some i→listed.getD i false=true→Fit s (val s) w
 m:M listed val w
def FtAt (ops:Array Oper) (base:Array Value) (who:Nat→Option Nat) (Fit:Nat→Value→World→Prop) (M:Array Bool→(Nat→Value)→World→Prop) (f:Nat) (listed:Array Bool) (a:Act) (w:World):Prop:=∃ val,FtInv ops base who Fit M f listed val a w
variable {base:Array Value} {who:Nat→Option Nat} {Fit:Nat→Value→World→Prop} {M:Array Bool→(Nat→Value)→World→Prop} {f i d:Nat} {w:World} {listed:Array Bool} {val:Nat→Value} {a:Act} {o:Oper}
theorem actOf_congr {val':Nat→Value} (h:∀ s i,s<base.size→who s=some i→listed.getD i false=true→val s=val' s):actOf base who val listed=actOf base who val' listed:=by
 have key:(actOf base who val listed).tmps=(actOf base who val' listed).tmps:=by
  unfold actOf
  dsimp only
  apply Array.ext
  ·simp
  ·intro s h1 h2
   have hs:s<base.size:=by simpa using h2
   rw [Array.getElem_ofFn,Array.getElem_ofFn]
   dsimp only
   cases hq:who s with
   |none=>rfl
   |some j =>
    dsimp only
    by_cases e:listed.getD j false=true
    ·rw [if_pos e,if_pos e,h s j hs hq e]
    ·rw [if_neg e,if_neg e]
 show ({ tmps:=(actOf base who val listed).tmps,defers:=[] }:Act)=_
 rw [key]
 rfl
theorem FtInv.at_ (h:FtInv ops base who Fit M f listed val a w) {s i:Nat} (hs:s<base.size) (hw:who s=some i) (hl:listed.getD i false=true):a.tmps.getD s undef=val s∧Fit s (val s) w:=by
 refine ⟨?_,h.fit s i hs hw hl⟩
 rw [h.act]
 exact actOf_val hs hw hl
theorem FtInv.old (h:FtInv ops base who Fit M f listed val a w) {s:Nat} (hs:s<base.size) (hw:who s=none):a.tmps.getD s undef=base.getD s undef:=by
 rw [h.act]
 exact actOf_base hs hw
theorem FtInv.step (h:FtInv ops base who Fit M (f+1) listed val a w) (hi:i ∈ Region.ready .any ops listed) (hdst:o.dst=some d) (hd:d<base.size) (hw:who d=some i) (hinj:∀ s,who s=some i→s=d) (v:Value) (w':World)
  (hv:Fit d v w') (hkeep:∀ s u,Fit s u w→Fit s u w') (hm:M (listed.setIfInBounds i true) (upd val d v) w'):FtAt ops base who Fit M f (listed.setIfInBounds i true) (a.put o.dst v) w':=by
 have hlt:=ready_lt hi
 have hs:=h.size
 have hc:=count_set (ready_not hi)
 have hcn:=h.cnt
 have hnot:listed.getD i false=false:=by
  have:=ready_not hi
  rw [Array.getD_eq_getD_getElem?] at this ⊢
  rw [Array.getElem?_eq_getElem (by omega)] at this ⊢
  exact this
 refine ⟨upd val d v,by rw [Array.size_setIfInBounds];exact hs,by omega,?_,?_,hm⟩
 ·rw [hdst,h.act]
  have e1:actOf base who val listed=actOf base who (upd val d v) listed:=actOf_congr (fun s j hs hq hl=>by
   unfold upd
   rw [if_neg]
   rintro rfl
   rw [hw] at hq
   cases hq
   rw [hnot] at hl;cases hl)
  rw [e1]
  have e2:v=upd val d v d:=by unfold upd;rw [if_pos rfl]
  have:=actOf_put (base:=base) (val:=upd val d v) hw hinj (listed:=listed) (by omega)
  rw [← e2] at this
  exact this
 ·intro s j hsb hq hl
  unfold upd
  by_cases e:s=d
  ·subst e;rw [if_pos rfl];exact hv
  ·rw [if_neg e]
   rcases listed_set hl with e1 | e1
   ·subst e1;exact absurd (hinj s hq) e
   ·exact hkeep _ _ (h.fit s j hsb hq e1)
theorem FtInv.stepN (h:FtInv ops base who Fit M (f+1) listed val a w) (hi:i ∈ Region.ready .any ops listed) (hdst:o.dst=none) (hw:∀ s,s<base.size→who s≠some i) (w':World) (v:Value)
  (hkeep:∀ s u,Fit s u w→Fit s u w') (hm:M (listed.setIfInBounds i true) val w'):FtAt ops base who Fit M f (listed.setIfInBounds i true) (a.put o.dst v) w':=by
 have hlt:=ready_lt hi
 have hs:=h.size
 have hc:=count_set (ready_not hi)
 have hcn:=h.cnt
 refine ⟨val,by rw [Array.size_setIfInBounds];exact hs,by omega,?_,?_,hm⟩
 ·rw [hdst,h.act]
  exact actOf_skip hw (by omega)
 ·intro s j hsb hq hl
  rcases listed_set hl with e1 | e1
  ·subst e1;exact absurd hq (hw s hsb)
  ·exact hkeep _ _ (h.fit s j hsb hq e1)
theorem FtInv.start (hm:M (Array.replicate ops.size false) (fun _=>undef) w):FtAt ops base who Fit M ops.size (Array.replicate ops.size false) { tmps:=base,defers:=[] } w:=by
 have hf:∀ i,(Array.replicate ops.size false).getD i false=false:=fun i=>by
  rw [Array.getD_eq_getD_getElem?,Array.getElem?_replicate]
  split <;> rfl
 refine ⟨_,by simp,by rw [Array.toList_replicate,List.count_replicate_self];exact Nat.le_refl _,actOf_none.symm,?_,hm⟩
 intro s i _ _ hl
 rw [hf i] at hl;cases hl
theorem FtInv.fin (h:FtInv ops base who Fit M f listed val a w) (hr:Region.ready .any ops listed=[])
  (hacc:((List.range ops.size).all fun i=>match ops[i]? with | some o=>o.after.toList.all (fun e=>decide (e.on<i)) | none=>true)=true) :
  listed=Array.replicate ops.size true:=all_true h.size (ready_all hacc hr h.size)
end
end
end Go.Proofs.YthgpheopnhajaaaGreatDoor
