/- The seat's texts, part P17. -/
import Derived.Test.YthgpheopnhajaaaGreatDoorP9
import Derived.Test.YthgpheopnhajaaaGreatDoorP14
import Derived.Test.YthgpheopnhajaaaGreatDoorP15
import Derived.Test.YthgpheopnhajaaaGreatDoorP16
import Derived.BigQuiet
set_option maxRecDepth 100000
set_option maxHeartbeats 8000000
namespace Go.Proofs.YthgpheopnhajaaaGreatDoor
section
open Go.RowKit Go.Shelf
attribute [local go_sem] size_bs toList_bs Oper.semAt_some
abbrev jM(x:LotV)(n p k:Bs):Array Value:=#[.string (bs x.id),.string (bs x.ins),.int .i64 x.acq,.int .i64 x.opn,.string (bs x.q),.string (bs x.c),.string (bs x.u),.string (bs n),.string (bs p),.string (bs k)]
abbrev sv(x:LotV)(n p k:Bs):Value := .agg (jM x n p k)
theorem av(a:Act)(m:Nat):a.eval (.tmp m)=a.tmps.getD m undef:=rfl
theorem jY{base:Array Value}{who:Nat→Option Nat}{val:Nat→Value}{m:Nat}:bS base who val (Array.replicate m false)={ tmps:=base,defers:=[] }:=by
 have key:(bS base who val (Array.replicate m false)).tmps=base:=by
  unfold bS;dsimp only;apply Array.ext
  ·simp
  ·intro s h1 h2;rw[Array.getElem_ofFn];have hb:base.getD s undef=base[s]:=by rw[Array.getD_eq_getD_getElem?,Array.getElem?_eq_getElem h2];rfl
   cases hq:who s with
   |none=>exact hb
   |some i =>
    dsimp only
    have hl:(Array.replicate m false).getD i false=false:=by
     rw[Array.getD_eq_getD_getElem?,Array.getElem?_replicate];split <;> rfl
    rw[hl,if_neg (by decide)];exact hb
 show({ tmps:=(bS base who val (Array.replicate m false)).tmps,defers:=[] }:Act)=_;rw[key]
def iG(d m:Nat)(s:Nat):Option Nat:=if d≤s∧s<d+m then some (s-d) else none
theorem kw{d m i:Nat}(h:i<m):iG d m (d+i)=some i:=by
 unfold iG;rw[if_pos ⟨by omega,by omega⟩];congr 1;omega
theorem kW{d m i s:Nat}(h:iG d m s=some i):s=d+i:=by
 unfold iG at h;split at h
 ·injection h with h;omega
 ·cases h
theorem Ie{m i:Nat}(_h:i<m):(Array.ofFn (n:=m) fun j=>decide (j.val<i)).setIfInBounds i true=Array.ofFn (n:=m) fun j=>decide (j.val<i+1):=by
 apply Array.ext
 ·simp
 ·intro s h1 h2;have hs:s<m:=by simpa using h2
  rw[Array.getElem_setIfInBounds (by simpa using hs),Array.getElem_ofFn,Array.getElem_ofFn];by_cases e:i=s
  ·subst e;rw[if_pos rfl];simp
  ·rw[if_neg e];simp;omega
theorem qX{base:Array Value}{val:Nat→Value}{d m:Nat}:∀i,i≤m→bS base (iG d m) val (Array.ofFn (n:=m) fun j=>decide (j.val<i))=(List.range i).foldl (fun a j=>a.put (some (d+j)) (val (d+j))) { tmps:=base,defers:=[] }
 |0,_=>by
  have e:(Array.ofFn (n:=m) fun j=>decide (j.val<0))=Array.replicate m false:=by
   apply Array.ext
   ·simp
   ·intro s h1 h2;simp
  rw[e,jY];rfl
 |i+1,h=>by
  rw[List.range_succ,List.foldl_append,←qX (m:=m) i (by omega),←Ie (m:=m) (i:=i) (by omega)];exact(kR (kw (by omega)) (fun s hs=>kW hs) (by simp;omega)).symm
theorem qY{base:Array Value}{val:Nat→Value}{d m:Nat}:bS base (iG d m) val (Array.replicate m true)=(List.range m).foldl (fun a j=>a.put (some (d+j)) (val (d+j))) { tmps:=base,defers:=[] }:=by
 rw[←qX (m:=m) m (Nat.le_refl _)];congr 1
 apply Array.ext
 ·simp
 ·intro s h1 h2;simp
section
variable {F:Fence} {n:Nat} {P:Program} {ops:Array Oper} {Q:Exit→Act→World→Prop}
theorem bg{listed:Array Bool}{i j:Nat}(h:listed.getD j false=true):(listed.setIfInBounds i true).getD j false=true:=by
 rw[Array.getD_eq_getD_getElem?]at h ⊢;rw[Array.getElem?_setIfInBounds];split
 ·rename_i e
  subst e;split
  ·rfl
  ·rename_i hge
   rw[Array.getElem?_eq_none (by omega)]at h
   cases h
 ·exact h
theorem sY(hfn:∀k,F.fn k)(hdp:F.depth.isSome=false)(hro:F.round=none){i:Nat}{o:Oper}{K:Act→World→Prop}{a:Act}{w:World}(ho:ops[i]? = some o)(hg:o.guard=none)(l fn:Nat)(tmps:Array Value)(assign body:Code){R:Ending→World→Prop}
  (hrun:(execOp a.eval o).run P w = .ok (.round l fn tmps assign body) w) (hR:RoundIn F (n-1) P l fn tmps assign body w R) (hK:∀e W,R e W→∃v,e = .returned v∧K (a.put o.dst v) W):wpOpIn F n P ops Q i K a w:=by
 unfold wpOpIn;rw[ho];dsimp only;rw[if_pos (by simp[Region.wanted,hg])];refine⟨fun f _=>hfn f,?_⟩;rw[hro];show Oper.uponIn F n P o a K Q ((execOp a.eval o).run P w);rw[hrun];refine⟨fun h=>(by rw[hdp]at h;cases h),hR.mono ?_⟩;intro e W hr;obtain⟨v,rfl,hk⟩:=hK e W hr;exact hk
structure ChInv (ops:Array Oper) (base:Array Value) (val:Nat→Value) (d c:Nat) (W:World) (J:World→Prop) (f:Nat) (listed:Array Bool) (a:Act) (w:World):Prop where
 size:listed.size=ops.size
 cnt:listed.toList.count false≤f
 act:a=bS base (iG d ops.size) val listed
 cl:∀i o e,ops[i]? = some o→listed.getD i false=true→e ∈ o.after.toList→Region.binds .any e=true→listed.getD e.on false=true
 wld:(listed.getD c false=false∧w=W)∨(listed.getD c false=true∧J w)
section
variable {base:Array Value} {val:Nat→Value} {d c f i:Nat} {W w:World} {J:World→Prop} {listed:Array Bool} {a:Act} {o:Oper}
theorem ChInv.need(h:ChInv ops base val d c W J (f+1) listed a w)(hd:d+ops.size≤base.size)(hi:i ∈ Region.ready .any ops listed)(ho:ops[i]? = some o)(p:Nat)(hps:p<ops.size)(hp:(o.after.toList.any fun e=>e.on == p && Region.binds .any e)=true):a.tmps.getD (d+p) undef=val (d+p):=by
 rw[h.act];exact mO (by omega) (kw hps) (bq hi ho hp)
theorem ChInv.base'(h:ChInv ops base val d c W J f listed a w){s:Nat}(hs:s<base.size)(hn:s<d∨d+ops.size≤s):a.tmps.getD s undef=base.getD s undef:=by
 rw[h.act];exact mj hs (by unfold iG;rw[if_neg (by omega)])
theorem ChInv.step(h:ChInv ops base val d c W J (f+1) listed a w)(hi:i ∈ Region.ready .any ops listed)(ho:ops[i]? = some o)(hdst:o.dst=some (d+i))(w':World)(hw:(i≠c∧w'=w)∨(i=c∧J w')) :
  ChInv ops base val d c W J f (listed.setIfInBounds i true) (a.put o.dst (val (d+i))) w':=by
 have hlt:=cX hi;have hs:=h.size;have hc:=count_set (cN hi);have hcn:=h.cnt;refine⟨by rw[Array.size_setIfInBounds];exact hs,by omega,?_,?_,?_⟩
 ·rw[hdst,h.act];exact kR (kw hlt) (fun s hs=>kW hs) (by omega)
 ·intro j oj e hj hl he hb;rcases bG hl with e1|e1
  ·subst e1;rw[ho]at hj
   cases hj;refine bg (bq hi ho ?_);rw[List.any_eq_true];exact⟨e,he,by rw[hb];simp⟩
  ·exact bg (h.cl j oj e hj e1 he hb)
 ·rcases hw with ⟨hne,rfl⟩ | ⟨rfl,hj⟩
  ·rcases h.wld with ⟨h1,h2⟩ | ⟨h1,h2⟩
   ·left
    refine⟨?_,h2⟩
    cases hq:(listed.setIfInBounds i true).getD c false
    ·rfl
    ·rcases bG hq with e|e
     ·exact absurd e.symm hne
     ·rw[h1]at e;cases e
   ·exact .inr ⟨bg h1,h2⟩
  ·right
   refine⟨?_,hj⟩;rw[Array.getD_eq_getD_getElem?,Array.getElem?_setIfInBounds_self_of_lt (by omega)];rfl
theorem ChInv.before(h:ChInv ops base val d c W J f listed a w)(hi:i ∈ Region.ready .any ops listed)(hic:i<c)(_hsz:c<ops.size)
  (hdep:∀L:Nat→Prop,(∀i o e,ops[i]? = some o→L i→e ∈ o.after.toList→Region.binds .any e=true→L e.on)→L c→∀i,i<c→L i):w=W:=by
 rcases h.wld with ⟨_,h2⟩ | ⟨h1,_⟩
 ·exact h2
 ·have:=hdep (fun i=>listed.getD i false=true) (fun i o e ho hl he hb=>h.cl i o e ho hl he hb) h1 i hic;have hn:=cN hi;rw[Array.getD_eq_getD_getElem?]at this hn
  have hlt:=cX hi;have hs:=h.size;rw[Array.getElem?_eq_getElem (by omega)]at this hn
  exact absurd (hn.symm.trans this) (by decide)
theorem ChInv.at_call(h:ChInv ops base val d c W J f listed a w)(hi:c ∈ Region.ready .any ops listed):w=W:=by
 rcases h.wld with ⟨_,h2⟩ | ⟨h1,_⟩
 ·exact h2
 ·have hn:=cN hi;have hlt:=cX hi;have hs:=h.size;rw[Array.getD_eq_getD_getElem?]at h1 hn;rw[Array.getElem?_eq_getElem (by omega)]at h1 hn;exact absurd (hn.symm.trans h1) (by decide)
theorem ChInv.start(J:World→Prop):ChInv ops base val d c W J ops.size (Array.replicate ops.size false) { tmps:=base,defers:=[] } W:=by
 have hf:∀i,(Array.replicate ops.size false).getD i false=false:=fun i=>by
  rw[Array.getD_eq_getD_getElem?,Array.getElem?_replicate];split <;> rfl
 refine⟨by simp,by rw[Array.toList_replicate,List.count_replicate_self];exact Nat.le_refl _,jY.symm,?_,.inl ⟨hf c,rfl⟩⟩;intro i o e _ hl;rw[hf i]at hl;cases hl
theorem ChInv.fin(h:ChInv ops base val d c W J f listed a w)(hc:c<ops.size)(hr:Region.ready .any ops listed=[])
  (hacc:((List.range ops.size).all fun i=>match ops[i]? with|some o=>o.after.toList.all (fun e=>decide (e.on<i))|none=>true)=true) :
  a=(List.range ops.size).foldl (fun a j=>a.put (some (d+j)) (val (d+j))) { tmps:=base,defers:=[] }∧J w:=by
 have hall:=kV hacc hr h.size;refine⟨?_,?_⟩
 ·rw[h.act,oJ h.size hall,qY]
 ·rcases h.wld with ⟨h1,_⟩ | ⟨_,h2⟩
  ·rw[hall c hc]at h1;cases h1
  ·exact h2
end
end
end
section
open Go.RowKit Go.Shelf
attribute [local go_sem] size_bs toList_bs Oper.semAt_some
structure ShIn (B0 B1 B2 B3:Nat) (ls:List LotV) (A:Option Addr) (c:Nat) (ns ps ks:List Bs) (A1:Option Addr) (c1:Nat) (A2:Option Addr) (c2:Nat) (A3:Option Addr) (c3:Nat) (W:World):Prop where
 b0:Blk W B0 22 #[.slice A ls.length c]
 b1:Blk W B1 106 #[.slice A1 ls.length c1]
 b2:Blk W B2 106 #[.slice A2 ls.length c2]
 b3:Blk W B3 106 #[.slice A3 ls.length c3]
 a:bp W A ls
 r1:RdS W A1 ns
 r2:RdS W A2 ps
 r3:RdS W A3 ks
theorem xE(n l:Nat)(B0 B1 B2 B3:Nat)(ls:List LotV)(A:Option Addr)(c:Nat)(ns ps ks:List Bs)(A1 A2 A3:Option Addr)(c1 c2 c3:Nat)(hn:ls.length≤1000000)
  (l1:ns.length=ls.length) (l2:ps.length=ls.length) (l3:ks.length=ls.length) (J:Nat→World→Prop)
  (hJ:∀k W,J k W→ShIn B0 B1 B2 B3 ls A c ns ps ks A1 c1 A2 c2 A3 c3 W) (hX:∀k W W',J k W→Ext W W'→J k W')
  (hY:∀k (hk:k<ls.length) W,J k W→YieldAt Fence.wide (n-1) Tryz.prog l #[sv (ls[k]'hk) (ns[k]'(by omega)) (ps[k]'(by omega)) (ks[k]'(by omega))] W (lK J k)) (W:World) (h0:J 0 W) :
  CallsIn Fence.wide n Tryz.prog 111 #[.func (.yield l) #[] #[],.pointer (some ⟨B0,0,none⟩),.pointer (some ⟨B1,0,none⟩),.pointer (some ⟨B2,0,none⟩),.pointer (some ⟨B3,0,none⟩)] W fun e W'=>(∃v,e = .returned v)∧J ls.length W':=by
 have hfn:∀k,Fence.wide.fn k:=fun _=>trivial
 have hdp:Fence.wide.depth.isSome=false:=rfl;have HLL:=qh (And.intro l1 (And.intro l2 l3));have HJ:=qh hJ;have HX:=qh hX;have HY:=qh hY;have H0:=qh h0;clear hJ hX hY h0;have q0:=(HJ.out 0 W H0.out).b0.cell 0;simp only[List.getElem?_toArray,List.getElem?_cons_zero]at q0;refine callsIn_of_wp Tryz.func111 rfl trivial ?_ rfl;simp only[Tryz.ntmps111,List.size_toArray,List.length_cons,List.length_nil,Nat.reduceAdd,Nat.reduceSub,Array.replicate_succ,Array.replicate_zero,List.push_toArray,List.append_toArray,List.nil_append,List.cons_append];gi_wp2
 gi_loopw [10,6,7] (fun i _ _ wr=>∃k:Nat,k≤ls.length∧i = .int .i64 k∧J k wr) (fun i _ _ _=>ls.length-(intOf i).toNat)
 case atStart=>exact⟨0,by omega,rfl,H0.out⟩
 case round =>
  clear H0 q0;obtain⟨k,hk,rfl,h⟩:=hrel;have hh:=HJ.out k wr h;by_cases hlt:k<ls.length
  ·obtain⟨b,o,rfl,hb,c0,c1',c2',c3',c4,c5,c6⟩:=hh.a.at_ hlt;have HN:=qh (HX.out k wr (wr.alloc (.cells (lc (ls[k]'hlt)) 71)).drew h (Ext.new _ _).drew);have HY1:=qh (HY.out k hlt _ HN.out);have HHN:=qh (HJ.out k _ HN.out);have HB:=qh ((Blk.new wr 71 (lc (ls[k]'hlt))).drew);obtain⟨g1,o1,rfl,hg1,w1⟩:=HHN.out.r1.at_ (k:=k) (by omega);obtain⟨g2,o2,rfl,hg2,w2⟩:=HHN.out.r2.at_ (k:=k) (by omega);obtain⟨g3,o3,rfl,hg3,w3⟩:=HHN.out.r3.at_ (k:=k) (by omega);have hki:(k:Int)<(ls.length:Int):=by omega
   have hk0:(0:Int)≤(k:Int):=by omega
   clear h hh;generalize ns[k]'(by omega)=n1 at *;generalize ps[k]'(by omega)=p1 at *;generalize ks[k]'(by omega)=k1 at *;generalize ls[k]'hlt=x at *;obtain⟨xi,xn,xa,xo,xq,xc,xu⟩:=x;gi_wp2
   refine wpIn_region_any (by kernel_rfl) ?_;change wpAnyIn _ _ _ _ _ _ _ _ _ (World.drew (wr.alloc (.cells #[.string (bs xi),.string (bs xn),.int .i64 xa,.int .i64 xo,.string (bs xq),.string (bs xc),.string (bs xu)] 71)));generalize World.drew (wr.alloc (.cells #[.string (bs xi),.string (bs xn),.int .i64 xa,.int .i64 xo,.string (bs xq),.string (bs xc),.string (bs xu)] 71))=Wd at *;obtain⟨y0,y1,y2,y3,y4,y5,y6⟩:=bK HB.out (Ext.refl Wd);have z1:=HHN.out.b1.cell 0;have z2:=HHN.out.b2.cell 0;have z3:=HHN.out.b3.cell 0;simp only[List.getElem?_toArray,List.getElem?_cons_zero]at z1 z2 z3;generalize hX7:wr.heap.size=X7 at *;have r1:(Instr.loadAt 71 (.pointer (some ⟨X7,0,none⟩))).run Tryz.prog Wd = .ok (.agg #[.string (bs xi),.string (bs xn),.int .i64 xa,.int .i64 xo,.string (bs xq),.string (bs xc),.string (bs xu)]) Wd:=by go_simp
   have s1:(Instr.loadAt 106 (.pointer (some ⟨B1,0,none⟩))).run Tryz.prog Wd = .ok (.slice (some ⟨g1,o1,none⟩) ls.length c1) Wd:=by go_simp
   have i1:(Instr.indexAt 106 (.slice (some ⟨g1,o1,none⟩) ls.length c1) (.int .i64 k)).run Tryz.prog Wd = .ok (.pointer (some ⟨g1,o1+k,none⟩)) Wd:=by go_simp
   have t1:(Instr.loadAt 24 (.pointer (some ⟨g1,o1+k,none⟩))).run Tryz.prog Wd = .ok (.string (bs n1)) Wd:=by go_simp
   have s2:(Instr.loadAt 106 (.pointer (some ⟨B2,0,none⟩))).run Tryz.prog Wd = .ok (.slice (some ⟨g2,o2,none⟩) ls.length c2) Wd:=by go_simp
   have i2:(Instr.indexAt 106 (.slice (some ⟨g2,o2,none⟩) ls.length c2) (.int .i64 k)).run Tryz.prog Wd = .ok (.pointer (some ⟨g2,o2+k,none⟩)) Wd:=by go_simp
   have t2:(Instr.loadAt 24 (.pointer (some ⟨g2,o2+k,none⟩))).run Tryz.prog Wd = .ok (.string (bs p1)) Wd:=by go_simp
   have s3:(Instr.loadAt 106 (.pointer (some ⟨B3,0,none⟩))).run Tryz.prog Wd = .ok (.slice (some ⟨g3,o3,none⟩) ls.length c3) Wd:=by go_simp
   have i3:(Instr.indexAt 106 (.slice (some ⟨g3,o3,none⟩) ls.length c3) (.int .i64 k)).run Tryz.prog Wd = .ok (.pointer (some ⟨g3,o3+k,none⟩)) Wd:=by go_simp
   have t3:(Instr.loadAt 24 (.pointer (some ⟨g3,o3+k,none⟩))).run Tryz.prog Wd = .ok (.string (bs k1)) Wd:=by go_simp
   have bld:(Instr.build 102 #[(0,Value.agg #[.string (bs xi),.string (bs xn),.int .i64 xa,.int .i64 xo,.string (bs xq),.string (bs xc),.string (bs xu)]),(1,Value.string (bs n1)),(2,Value.string (bs p1)),(3,Value.string (bs k1))]).run Tryz.prog Wd = .ok (Value.agg #[.string (bs xi),.string (bs xn),.int .i64 xa,.int .i64 xo,.string (bs xq),.string (bs xc),.string (bs xu),.string (bs n1),.string (bs p1),.string (bs k1)]) Wd:=by go_simp
   refine nN (Inv:=ChInv _ _ (fun s=>(#[Value.func (.yield l) #[] #[],Value.agg #[.string (bs xi),.string (bs xn),.int .i64 xa,.int .i64 xo,.string (bs xq),.string (bs xc),.string (bs xu)],Value.slice (some ⟨g1,o1,none⟩) ls.length c1,Value.int .i64 k,Value.pointer (some ⟨g1,o1+k,none⟩),Value.string (bs n1),Value.slice (some ⟨g2,o2,none⟩) ls.length c2,Value.int .i64 k,Value.pointer (some ⟨g2,o2+k,none⟩),Value.string (bs p1),Value.slice (some ⟨g3,o3,none⟩) ls.length c3,Value.int .i64 k,Value.pointer (some ⟨g3,o3+k,none⟩),Value.string (bs k1),Value.agg #[.string (bs xi),.string (bs xn),.int .i64 xa,.int .i64 xo,.string (bs xq),.string (bs xc),.string (bs xu),.string (bs n1),.string (bs p1),.string (bs k1)],Value.bool true,Value.bool false]:Array Value).getD (s-15) undef) 15 15 Wd (fun W=>J (k+1) W)) ?hend ?hz ?hstep _ _ _ _ (ChInv.start _)
   case hz=>exact fun listed a w' h=>kU (by have:=h.cnt;omega) h.size
   case hend =>
    intro f listed a w' h hr;obtain⟨ha,hj⟩:=h.fin (by decide) hr (by kernel_rfl);have ha2:a=({ tmps:=#[Value.func (.yield l) #[] #[],Value.pointer (some ⟨B0,0,none⟩),Value.pointer (some ⟨B1,0,none⟩),Value.pointer (some ⟨B2,0,none⟩),Value.pointer (some ⟨B3,0,none⟩),undef,Value.int .i64 k,Value.pointer (some ⟨X7,0,none⟩),Value.slice (some ⟨b,o,none⟩) ls.length c,Value.int .i64 ls.length,Value.int .i64 k,Value.bool true,Value.int .i64 k,Value.pointer (some ⟨b,o+k*7,none⟩),Value.agg #[.string (bs xi),.string (bs xn),.int .i64 xa,.int .i64 xo,.string (bs xq),.string (bs xc),.string (bs xu)],Value.func (.yield l) #[] #[],Value.agg #[.string (bs xi),.string (bs xn),.int .i64 xa,.int .i64 xo,.string (bs xq),.string (bs xc),.string (bs xu)],Value.slice (some ⟨g1,o1,none⟩) ls.length c1,Value.int .i64 k,Value.pointer (some ⟨g1,o1+k,none⟩),Value.string (bs n1),Value.slice (some ⟨g2,o2,none⟩) ls.length c2,Value.int .i64 k,Value.pointer (some ⟨g2,o2+k,none⟩),Value.string (bs p1),Value.slice (some ⟨g3,o3,none⟩) ls.length c3,Value.int .i64 k,Value.pointer (some ⟨g3,o3+k,none⟩),Value.string (bs k1),Value.agg #[.string (bs xi),.string (bs xn),.int .i64 xa,.int .i64 xo,.string (bs xq),.string (bs xc),.string (bs xu),.string (bs n1),.string (bs p1),.string (bs k1)],Value.bool true,Value.bool false,u32],defers:=[] }:Act):=ha.trans (by kernel_rfl);clear ha;subst ha2;have HJ3:=qh hj;clear h hr hj;gi_wp2
    go_roundw
    case rel=>exact⟨k+1,by omega,by go_num,HJ3.out⟩
    case measure=>simp[intOf];omega
   case hstep =>
    intro f listed a w' i h hi
    have hW:i<15→w'=Wd:=fun hi15=>h.before hi hi15 (by decide) (by
     intro L hcl h15;have a0:L 0:=hcl 15 _ ⟨0,.data⟩ rfl h15 (by simp) rfl;have a14:L 14:=hcl 15 _ ⟨14,.data⟩ rfl h15 (by simp) rfl;have a1:L 1:=hcl 14 _ ⟨1,.data⟩ rfl a14 (by simp) rfl;have a5:L 5:=hcl 14 _ ⟨5,.data⟩ rfl a14 (by simp) rfl;have a9:L 9:=hcl 14 _ ⟨9,.data⟩ rfl a14 (by simp) rfl;have a13:L 13:=hcl 14 _ ⟨13,.data⟩ rfl a14 (by simp) rfl;have a4:L 4:=hcl 5 _ ⟨4,.data⟩ rfl a5 (by simp) rfl;have a2:L 2:=hcl 4 _ ⟨2,.data⟩ rfl a4 (by simp) rfl;have a3:L 3:=hcl 4 _ ⟨3,.data⟩ rfl a4 (by simp) rfl;have a8:L 8:=hcl 9 _ ⟨8,.data⟩ rfl a9 (by simp) rfl;have a6:L 6:=hcl 8 _ ⟨6,.data⟩ rfl a8 (by simp) rfl;have a7:L 7:=hcl 8 _ ⟨7,.data⟩ rfl a8 (by simp) rfl;have a12:L 12:=hcl 13 _ ⟨12,.data⟩ rfl a13 (by simp) rfl;have a10:L 10:=hcl 12 _ ⟨10,.data⟩ rfl a12 (by simp) rfl;have a11:L 11:=hcl 12 _ ⟨11,.data⟩ rfl a12 (by simp) rfl;intro i hi;obtain rfl|rfl|rfl|rfl|rfl|rfl|rfl|rfl|rfl|rfl|rfl|rfl|rfl|rfl|rfl:i=0∨i=1∨i=2∨i=3∨i=4∨i=5∨i=6∨i=7∨i=8∨i=9∨i=10∨i=11∨i=12∨i=13∨i=14:=by omega
     ·exact a0
     ·exact a1
     ·exact a2
     ·exact a3
     ·exact a4
     ·exact a5
     ·exact a6
     ·exact a7
     ·exact a8
     ·exact a9
     ·exact a10
     ·exact a11
     ·exact a12
     ·exact a13
     ·exact a14
     )
    have hlt:i<17:=cX hi;have hbz:∀s,s<15→a.tmps.getD s undef=_:=fun s hs=>h.base' (s:=s) (by show s<33;omega) (.inl hs)
    obtain rfl|rfl|rfl|rfl|rfl|rfl|rfl|rfl|rfl|rfl|rfl|rfl|rfl|rfl|rfl|rfl|rfl:i=0∨i=1∨i=2∨i=3∨i=4∨i=5∨i=6∨i=7∨i=8∨i=9∨i=10∨i=11∨i=12∨i=13∨i=14∨i=15∨i=16:=by omega
    ·skip;obtain rfl:=hW (by omega);have e0:a.tmps.getD 0 undef=Value.func (.yield l) #[] #[]:=hbz 0 (by omega);refine bJ hfn rfl rfl rfl _ ?_ (h.step hi rfl rfl _ (.inl ⟨by decide,rfl⟩));simp[execOp,av,e0]
    ·skip;obtain rfl:=hW (by omega);have e7:a.tmps.getD 7 undef=Value.pointer (some ⟨X7,0,none⟩):=hbz 7 (by omega);refine bJ hfn rfl rfl rfl _ ?_ (h.step hi rfl rfl _ (.inl ⟨by decide,rfl⟩));simp[execOp,av,e7,r1]
    ·skip;obtain rfl:=hW (by omega);have e2:a.tmps.getD 2 undef=Value.pointer (some ⟨B1,0,none⟩):=hbz 2 (by omega);refine bJ hfn rfl rfl rfl _ ?_ (h.step hi rfl rfl _ (.inl ⟨by decide,rfl⟩));simp[execOp,av,e2,s1]
    ·skip;obtain rfl:=hW (by omega);have e6:a.tmps.getD 6 undef=Value.int .i64 k:=hbz 6 (by omega);refine bJ hfn rfl rfl rfl _ ?_ (h.step hi rfl rfl _ (.inl ⟨by decide,rfl⟩));simp[execOp,av,e6]
    ·skip;obtain rfl:=hW (by omega);have e17:a.tmps.getD 17 undef=Value.slice (some ⟨g1,o1,none⟩) ls.length c1:=h.need (by show 15+17≤33;decide) hi rfl 2 (by show 2<17;decide) rfl;have e18:a.tmps.getD 18 undef=Value.int .i64 k:=h.need (by show 15+17≤33;decide) hi rfl 3 (by show 3<17;decide) rfl;refine bJ hfn rfl rfl rfl _ ?_ (h.step hi rfl rfl _ (.inl ⟨by decide,rfl⟩));simp[execOp,av,e17,e18,i1]
    ·skip;obtain rfl:=hW (by omega);have e19:a.tmps.getD 19 undef=Value.pointer (some ⟨g1,o1+k,none⟩):=h.need (by show 15+17≤33;decide) hi rfl 4 (by show 4<17;decide) rfl;refine bJ hfn rfl rfl rfl _ ?_ (h.step hi rfl rfl _ (.inl ⟨by decide,rfl⟩));simp[execOp,av,e19,t1]
    ·skip;obtain rfl:=hW (by omega);have e3:a.tmps.getD 3 undef=Value.pointer (some ⟨B2,0,none⟩):=hbz 3 (by omega);refine bJ hfn rfl rfl rfl _ ?_ (h.step hi rfl rfl _ (.inl ⟨by decide,rfl⟩));simp[execOp,av,e3,s2]
    ·skip;obtain rfl:=hW (by omega);have e6:a.tmps.getD 6 undef=Value.int .i64 k:=hbz 6 (by omega);refine bJ hfn rfl rfl rfl _ ?_ (h.step hi rfl rfl _ (.inl ⟨by decide,rfl⟩));simp[execOp,av,e6]
    ·skip;obtain rfl:=hW (by omega);have e21:a.tmps.getD 21 undef=Value.slice (some ⟨g2,o2,none⟩) ls.length c2:=h.need (by show 15+17≤33;decide) hi rfl 6 (by show 6<17;decide) rfl;have e22:a.tmps.getD 22 undef=Value.int .i64 k:=h.need (by show 15+17≤33;decide) hi rfl 7 (by show 7<17;decide) rfl;refine bJ hfn rfl rfl rfl _ ?_ (h.step hi rfl rfl _ (.inl ⟨by decide,rfl⟩));simp[execOp,av,e21,e22,i2]
    ·skip;obtain rfl:=hW (by omega);have e23:a.tmps.getD 23 undef=Value.pointer (some ⟨g2,o2+k,none⟩):=h.need (by show 15+17≤33;decide) hi rfl 8 (by show 8<17;decide) rfl;refine bJ hfn rfl rfl rfl _ ?_ (h.step hi rfl rfl _ (.inl ⟨by decide,rfl⟩));simp[execOp,av,e23,t2]
    ·skip;obtain rfl:=hW (by omega);have e4:a.tmps.getD 4 undef=Value.pointer (some ⟨B3,0,none⟩):=hbz 4 (by omega);refine bJ hfn rfl rfl rfl _ ?_ (h.step hi rfl rfl _ (.inl ⟨by decide,rfl⟩));simp[execOp,av,e4,s3]
    ·skip;obtain rfl:=hW (by omega);have e6:a.tmps.getD 6 undef=Value.int .i64 k:=hbz 6 (by omega);refine bJ hfn rfl rfl rfl _ ?_ (h.step hi rfl rfl _ (.inl ⟨by decide,rfl⟩));simp[execOp,av,e6]
    ·skip;obtain rfl:=hW (by omega);have e25:a.tmps.getD 25 undef=Value.slice (some ⟨g3,o3,none⟩) ls.length c3:=h.need (by show 15+17≤33;decide) hi rfl 10 (by show 10<17;decide) rfl;have e26:a.tmps.getD 26 undef=Value.int .i64 k:=h.need (by show 15+17≤33;decide) hi rfl 11 (by show 11<17;decide) rfl;refine bJ hfn rfl rfl rfl _ ?_ (h.step hi rfl rfl _ (.inl ⟨by decide,rfl⟩));simp[execOp,av,e25,e26,i3]
    ·skip;obtain rfl:=hW (by omega);have e27:a.tmps.getD 27 undef=Value.pointer (some ⟨g3,o3+k,none⟩):=h.need (by show 15+17≤33;decide) hi rfl 12 (by show 12<17;decide) rfl;refine bJ hfn rfl rfl rfl _ ?_ (h.step hi rfl rfl _ (.inl ⟨by decide,rfl⟩));simp[execOp,av,e27,t3]
    ·skip;obtain rfl:=hW (by omega);have e16:a.tmps.getD 16 undef=Value.agg #[.string (bs xi),.string (bs xn),.int .i64 xa,.int .i64 xo,.string (bs xq),.string (bs xc),.string (bs xu)]:=h.need (by show 15+17≤33;decide) hi rfl 1 (by show 1<17;decide) rfl;have e20:a.tmps.getD 20 undef=Value.string (bs n1):=h.need (by show 15+17≤33;decide) hi rfl 5 (by show 5<17;decide) rfl;have e24:a.tmps.getD 24 undef=Value.string (bs p1):=h.need (by show 15+17≤33;decide) hi rfl 9 (by show 9<17;decide) rfl;have e28:a.tmps.getD 28 undef=Value.string (bs k1):=h.need (by show 15+17≤33;decide) hi rfl 13 (by show 13<17;decide) rfl;refine bJ hfn rfl rfl rfl _ ?_ (h.step hi rfl rfl _ (.inl ⟨by decide,rfl⟩));simp[execOp,av,e16,e20,e24,e28,bld]
    ·obtain rfl:=h.at_call hi;have e15:a.tmps.getD 15 undef=Value.func (.yield l) #[] #[]:=h.need (by show 15+17≤33;decide) hi rfl 0 (by show 0<17;decide) rfl;have e29:a.tmps.getD 29 undef=Value.agg #[.string (bs xi),.string (bs xn),.int .i64 xa,.int .i64 xo,.string (bs xq),.string (bs xc),.string (bs xu),.string (bs n1),.string (bs p1),.string (bs k1)]:=h.need (by show 15+17≤33;decide) hi rfl 14 (by show 14<17;decide) rfl;obtain⟨fn,tmps,assign,body,hy,hR⟩:=HY1.out;refine sY hfn hdp rfl rfl rfl l fn tmps assign body ?_ hR ?_
     ·simp[execOp,av,e15,e29,resolve,invoke,Deferred.ofValue,hy]
     ·rintro e W3⟨rfl,hJ3⟩;exact⟨_,rfl,h.step hi rfl rfl _ (.inr ⟨rfl,hJ3⟩)⟩
    ·skip;have e30:a.tmps.getD 30 undef = .bool true:=h.need (by show 15+17≤33;decide) hi rfl 15 (by show 15<17;decide) rfl;refine bJ hfn rfl rfl rfl _ ?_ (h.step hi rfl rfl _ (.inl ⟨by decide,rfl⟩));simp[execOp,av,e30];go_simp
  ·obtain rfl:k=ls.length:=by omega
   have HH:=qh h;clear h hh;gi_wp2
   go_end0
   exact⟨⟨_,rfl⟩,HH.out⟩
end
section
open Go.RowKit Go.Shelf
section
variable {P:Program} {ops:Array Oper} {Q:Exit→Act→World→Prop}
structure GrInv (ops:Array Oper) (base:Array Value) (val:Nat→Value) (d c:Nat) (R J:World→Prop) (f:Nat) (listed:Array Bool) (a:Act) (w:World):Prop where
 size:listed.size=ops.size
 cnt:listed.toList.count false≤f
 act:a=bS base (iG d ops.size) val listed
 cl:∀i o e,ops[i]? = some o→listed.getD i false=true→e ∈ o.after.toList→Region.binds .any e=true→listed.getD e.on false=true
 wld:(listed.getD c false=false∧R w)∨(listed.getD c false=true∧J w)
variable {base:Array Value} {val:Nat→Value} {d c f i:Nat} {R J:World→Prop} {w:World} {listed:Array Bool} {a:Act} {o:Oper}
theorem pj{who:Nat→Option Nat}(hw:∀s,s<base.size→who s≠some i)(hi:i<listed.size):bS base who val listed=bS base who val (listed.setIfInBounds i true):=by
 have key:(bS base who val listed).tmps=(bS base who val (listed.setIfInBounds i true)).tmps:=by
  unfold bS;dsimp only;apply Array.ext
  ·simp
  ·intro s h1 h2;have hs:s<base.size:=by simpa using h2
   rw[Array.getElem_ofFn,Array.getElem_ofFn];dsimp only
   cases hq:who s with
   |none=>rfl
   |some j =>
    dsimp only;have hne:j≠i:=fun h=>hw s hs (by rw[hq,h])
    rw[oI hi,if_neg hne]
 show({ tmps:=(bS base who val listed).tmps,defers:=[] }:Act)=_;rw[key];rfl
theorem GrInv.need(h:GrInv ops base val d c R J (f+1) listed a w)(hi:i ∈ Region.ready .any ops listed)(ho:ops[i]? = some o)(p:Nat)(hps:p<ops.size)(hd:d+p<base.size)(hp:(o.after.toList.any fun e=>e.on == p && Region.binds .any e)=true):a.tmps.getD (d+p) undef=val (d+p):=by
 rw[h.act];exact mO hd (kw hps) (bq hi ho hp)
theorem GrInv.base'(h:GrInv ops base val d c R J f listed a w){s:Nat}(hs:s<base.size)(hn:s<d∨d+ops.size≤s):a.tmps.getD s undef=base.getD s undef:=by
 rw[h.act];exact mj hs (by unfold iG;rw[if_neg (by omega)])
theorem GrInv.more(h:GrInv ops base val d c R J (f+1) listed a w)(hi:i ∈ Region.ready .any ops listed)(ho:ops[i]? = some o)(a':Act)(w':World)(ha:a'=bS base (iG d ops.size) val (listed.setIfInBounds i true))(hw:(i≠c∧((R w→R w')∧(J w→J w')))∨(i=c∧J w')) :
  GrInv ops base val d c R J f (listed.setIfInBounds i true) a' w':=by
 have hlt:=cX hi;have hs:=h.size;have hc:=count_set (cN hi);have hcn:=h.cnt;refine⟨by rw[Array.size_setIfInBounds];exact hs,by omega,ha,?_,?_⟩
 ·intro j oj e hj hl he hb;rcases bG hl with e1|e1
  ·subst e1;rw[ho]at hj
   cases hj;refine bg (bq hi ho ?_);rw[List.any_eq_true];exact⟨e,he,by rw[hb];simp⟩
  ·exact bg (h.cl j oj e hj e1 he hb)
 ·rcases hw with ⟨hne,h3,h4⟩ | ⟨rfl,hj⟩
  ·rcases h.wld with ⟨h1,h2⟩ | ⟨h1,h2⟩
   ·left
    refine⟨?_,h3 h2⟩
    cases hq:(listed.setIfInBounds i true).getD c false
    ·rfl
    ·rcases bG hq with e|e
     ·exact absurd e.symm hne
     ·rw[h1]at e;cases e
   ·exact .inr ⟨bg h1,h4 h2⟩
  ·right
   refine⟨?_,hj⟩;rw[Array.getD_eq_getD_getElem?,Array.getElem?_setIfInBounds_self_of_lt (by omega)];rfl
theorem GrInv.step(h:GrInv ops base val d c R J (f+1) listed a w)(hi:i ∈ Region.ready .any ops listed)(ho:ops[i]? = some o)(hdst:o.dst=some (d+i))(w':World)(hw:(i≠c∧((R w→R w')∧(J w→J w')))∨(i=c∧J w')) :
  GrInv ops base val d c R J f (listed.setIfInBounds i true) (a.put o.dst (val (d+i))) w':=by
 refine h.more hi ho _ w' ?_ hw;have hlt:=cX hi;have hs:=h.size;rw[hdst,h.act];exact kR (kw hlt) (fun s hs=>kW hs) (by omega)
theorem GrInv.stepN(h:GrInv ops base val d c R J (f+1) listed a w)(hi:i ∈ Region.ready .any ops listed)(ho:ops[i]? = some o)(hdst:o.dst=none)(hd:base.size≤d+i)(w':World)(v:Value)(hw:(i≠c∧((R w→R w')∧(J w→J w')))∨(i=c∧J w')) :
  GrInv ops base val d c R J f (listed.setIfInBounds i true) (a.put o.dst v) w':=by
 refine h.more hi ho _ w' ?_ hw;have hlt:=cX hi;have hs:=h.size;rw[hdst,h.act];exact pj (fun s hs hq=>by have:=kW hq;omega) (by omega)
theorem GrInv.before(h:GrInv ops base val d c R J f listed a w)(hi:i ∈ Region.ready .any ops listed)(hic:i<c)(_hsz:c<ops.size)
  (hdep:∀L:Nat→Prop,(∀i o e,ops[i]? = some o→L i→e ∈ o.after.toList→Region.binds .any e=true→L e.on)→L c→∀i,i<c→L i):R w:=by
 rcases h.wld with ⟨_,h2⟩ | ⟨h1,_⟩
 ·exact h2
 ·have:=hdep (fun i=>listed.getD i false=true) (fun i o e ho hl he hb=>h.cl i o e ho hl he hb) h1 i hic;have hn:=cN hi;rw[Array.getD_eq_getD_getElem?]at this hn
  have hlt:=cX hi;have hs:=h.size;rw[Array.getElem?_eq_getElem (by omega)]at this hn
  exact absurd (hn.symm.trans this) (by decide)
theorem GrInv.at_last(h:GrInv ops base val d c R J f listed a w)(hi:c ∈ Region.ready .any ops listed):R w:=by
 rcases h.wld with ⟨_,h2⟩ | ⟨h1,_⟩
 ·exact h2
 ·have hn:=cN hi;have hlt:=cX hi;have hs:=h.size;rw[Array.getD_eq_getD_getElem?]at h1 hn;rw[Array.getElem?_eq_getElem (by omega)]at h1 hn;exact absurd (hn.symm.trans h1) (by decide)
theorem GrInv.start(J:World→Prop)(hR:R w):GrInv ops base val d c R J ops.size (Array.replicate ops.size false) { tmps:=base,defers:=[] } w:=by
 have hf:∀i,(Array.replicate ops.size false).getD i false=false:=fun i=>by
  rw[Array.getD_eq_getD_getElem?,Array.getElem?_replicate];split <;> rfl
 refine⟨by simp,by rw[Array.toList_replicate,List.count_replicate_self];exact Nat.le_refl _,jY.symm,?_,.inl ⟨hf c,hR⟩⟩;intro i o e _ hl;rw[hf i]at hl;cases hl
theorem GrInv.fin(h:GrInv ops base val d c R J f listed a w)(hc:c<ops.size)(hr:Region.ready .any ops listed=[])
  (hacc:((List.range ops.size).all fun i=>match ops[i]? with|some o=>o.after.toList.all (fun e=>decide (e.on<i))|none=>true)=true) :
  a=(List.range ops.size).foldl (fun a j=>a.put (some (d+j)) (val (d+j))) { tmps:=base,defers:=[] }∧J w:=by
 have hall:=kV hacc hr h.size;refine⟨?_,?_⟩
 ·rw[h.act,oJ h.size hall,qY]
 ·rcases h.wld with ⟨h1,_⟩ | ⟨_,h2⟩
  ·rw[hall c hc]at h1;cases h1
  ·exact h2
theorem aV{K:Act→World→Prop}{w':World}(ho:ops[i]? = some o)(hg:o.guard=none)(v:Value)(hrun:(execOp a.eval o).run P w = .ok (.value v) w')(hK:K (a.put o.dst v) w'):wpOp P ops Q i K a w:=by
 unfold wpOp;rw[ho];dsimp only;rw[if_pos (by simp[Region.wanted,hg])];refine .inl ?_;unfold Oper.wp;rw[hrun];exact hK
theorem mq{K:Act→World→Prop}{w':World}(ho:ops[i]? = some o)(hg:o.guard=none)(hrun:(execOp a.eval o).run P w = .ok .skip w')(hK:K (a.put o.dst undef) w'):wpOp P ops Q i K a w:=by
 unfold wpOp;rw[ho];dsimp only;rw[if_pos (by simp[Region.wanted,hg])];refine .inl ?_;unfold Oper.wp;rw[hrun];exact hK
theorem iH{K:Act→World→Prop}{fn:Nat}{args:Array Value}{post:Ending→World→Prop}(ho:ops[i]? = some o)(hg:o.guard=none)(hrun:(execOp a.eval o).run P w = .ok (.enter fn args) w)(hC:Calls P fn args w post)(hK:∀e w',post e w'→∃v,e = .returned v∧K (a.put o.dst v) w'):wpOp P ops Q i K a w:=by
 unfold wpOp;rw[ho];dsimp only;rw[if_pos (by simp[Region.wanted,hg])];refine .inl ?_;unfold Oper.wp;rw[hrun];refine hC.mono ?_;intro e w' hp;obtain⟨v,rfl,hk⟩:=hK e w' hp;exact hk
end
end
section
open Go.RowKit Go.Shelf
section
variable {P:Program} {ops:Array Oper} {Q:Exit→Act→World→Prop}
def ii(val:Nat→Value)(d:Nat)(v:Value):Nat→Value:=fun s=>if s=d then v else val s
structure FtInv (ops:Array Oper) (base:Array Value) (who:Nat→Option Nat) (iI:Nat→Value→World→Prop) (M:Array Bool→(Nat→Value)→World→Prop) (f:Nat) (listed:Array Bool) (val:Nat→Value) (a:Act) (w:World):Prop where
 size:listed.size=ops.size
 cnt:listed.toList.count false≤f
 act:a=bS base who val listed
 fit:∀s i,s<base.size→who s=some i→listed.getD i false=true→iI s (val s) w
 m:M listed val w
def vZ(ops:Array Oper)(base:Array Value)(who:Nat→Option Nat)(iI:Nat→Value→World→Prop)(M:Array Bool→(Nat→Value)→World→Prop)(f:Nat)(listed:Array Bool)(a:Act)(w:World):Prop:=∃val,FtInv ops base who iI M f listed val a w
variable {base:Array Value} {who:Nat→Option Nat} {iI:Nat→Value→World→Prop} {M:Array Bool→(Nat→Value)→World→Prop} {f i d:Nat} {w:World} {listed:Array Bool} {val:Nat→Value} {a:Act} {o:Oper}
theorem un{val':Nat→Value}(h:∀s i,s<base.size→who s=some i→listed.getD i false=true→val s=val' s):bS base who val listed=bS base who val' listed:=by
 have key:(bS base who val listed).tmps=(bS base who val' listed).tmps:=by
  unfold bS;dsimp only;apply Array.ext
  ·simp
  ·intro s h1 h2;have hs:s<base.size:=by simpa using h2
   rw[Array.getElem_ofFn,Array.getElem_ofFn];dsimp only
   cases hq:who s with
   |none=>rfl
   |some j =>
    dsimp only;by_cases e:listed.getD j false=true
    ·rw[if_pos e,if_pos e,h s j hs hq e]
    ·rw[if_neg e,if_neg e]
 show({ tmps:=(bS base who val listed).tmps,defers:=[] }:Act)=_;rw[key];rfl
theorem FtInv.at_(h:FtInv ops base who iI M f listed val a w){s i:Nat}(hs:s<base.size)(hw:who s=some i)(hl:listed.getD i false=true):a.tmps.getD s undef=val s∧iI s (val s) w:=by
 refine⟨?_,h.fit s i hs hw hl⟩;rw[h.act];exact mO hs hw hl
theorem FtInv.old(h:FtInv ops base who iI M f listed val a w){s:Nat}(hs:s<base.size)(hw:who s=none):a.tmps.getD s undef=base.getD s undef:=by
 rw[h.act];exact mj hs hw
theorem FtInv.step(h:FtInv ops base who iI M (f+1) listed val a w)(hi:i ∈ Region.ready .any ops listed)(hdst:o.dst=some d)(hd:d<base.size)(hw:who d=some i)(hinj:∀s,who s=some i→s=d)(v:Value)(w':World)
  (hv:iI d v w') (hkeep:∀s u,iI s u w→iI s u w') (hm:M (listed.setIfInBounds i true) (ii val d v) w'):vZ ops base who iI M f (listed.setIfInBounds i true) (a.put o.dst v) w':=by
 have hlt:=cX hi;have hs:=h.size;have hc:=count_set (cN hi);have hcn:=h.cnt
 have hnot:listed.getD i false=false:=by
  have:=cN hi;rw[Array.getD_eq_getD_getElem?]at this ⊢
  rw[Array.getElem?_eq_getElem (by omega)]at this ⊢
  exact this
 refine⟨ii val d v,by rw[Array.size_setIfInBounds];exact hs,by omega,?_,?_,hm⟩
 ·rw[hdst,h.act]
  have e1:bS base who val listed=bS base who (ii val d v) listed:=un (fun s j hs hq hl=>by
   unfold ii;rw[if_neg];rintro rfl;rw[hw]at hq
   cases hq;rw[hnot]at hl;cases hl)
  rw[e1];have e2:v=ii val d v d:=by unfold ii;rw[if_pos rfl]
  have:=kR (base:=base) (val:=ii val d v) hw hinj (listed:=listed) (by omega);rw[←e2]at this
  exact this
 ·intro s j hsb hq hl;unfold ii;by_cases e:s=d
  ·subst e;rw[if_pos rfl];exact hv
  ·rw[if_neg e];rcases bG hl with e1|e1
   ·subst e1;exact absurd (hinj s hq) e
   ·exact hkeep _ _ (h.fit s j hsb hq e1)
theorem FtInv.stepN(h:FtInv ops base who iI M (f+1) listed val a w)(hi:i ∈ Region.ready .any ops listed)(hdst:o.dst=none)(hw:∀s,s<base.size→who s≠some i)(w':World)(v:Value)
  (hkeep:∀s u,iI s u w→iI s u w') (hm:M (listed.setIfInBounds i true) val w'):vZ ops base who iI M f (listed.setIfInBounds i true) (a.put o.dst v) w':=by
 have hlt:=cX hi;have hs:=h.size;have hc:=count_set (cN hi);have hcn:=h.cnt;refine⟨val,by rw[Array.size_setIfInBounds];exact hs,by omega,?_,?_,hm⟩
 ·rw[hdst,h.act];exact pj hw (by omega)
 ·intro s j hsb hq hl;rcases bG hl with e1|e1
  ·subst e1;exact absurd hq (hw s hsb)
  ·exact hkeep _ _ (h.fit s j hsb hq e1)
theorem FtInv.start(hm:M (Array.replicate ops.size false) (fun _=>undef) w):vZ ops base who iI M ops.size (Array.replicate ops.size false) { tmps:=base,defers:=[] } w:=by
 have hf:∀i,(Array.replicate ops.size false).getD i false=false:=fun i=>by
  rw[Array.getD_eq_getD_getElem?,Array.getElem?_replicate];split <;> rfl
 refine⟨_,by simp,by rw[Array.toList_replicate,List.count_replicate_self];exact Nat.le_refl _,jY.symm,?_,hm⟩;intro s i _ _ hl;rw[hf i]at hl;cases hl
theorem FtInv.fin(h:FtInv ops base who iI M f listed val a w)(hr:Region.ready .any ops listed=[])
  (hacc:((List.range ops.size).all fun i=>match ops[i]? with|some o=>o.after.toList.all (fun e=>decide (e.on<i))|none=>true)=true) :
  listed=Array.replicate ops.size true:=oJ h.size (kV hacc hr h.size)
end
end
section
open Go.RowKit Go.Shelf
attribute [local go_sem] size_bs toList_bs
theorem Bm(x:LotV)(W:World):Calls Tryz.prog 108 #[lv x] W fun e w'=>e = .returned (.string (bs x.q))∧Ext W w':=by
 have HX:Hid (Ext W (W.alloc (.cells (lc x) 71))):=qh (Ext.new _ _);go_enter Tryz.func108,Tryz.ntmps108;go_wp2_with fail;go_ret;exact⟨rfl,HX.out⟩
theorem E9(x:LotV)(W:World):Calls Tryz.prog 110 #[lv x] W fun e w'=>e = .returned (.string (bs x.c))∧Ext W w':=by
 have HX:Hid (Ext W (W.alloc (.cells (lc x) 71))):=qh (Ext.new _ _);go_enter Tryz.func110,Tryz.ntmps110;go_wp2_with fail;go_ret;exact⟨rfl,HX.out⟩
def rO(s:Nat):Option Nat:=if 13≤s∧s≤20 then some (s-13) else if s=10 then some 8 else if s=11 then some 9 else none
theorem cY{s i:Nat}(h:rO s=some i):(i≤7∧s=i+13)∨(i=8∧s=10)∨(i=9∧s=11):=by
 unfold rO at h;split at h
 ·injection h with h;omega
 ·split at h
  ·injection h with h;omega
  ·split at h
   ·injection h with h;omega
   ·cases h
end
section
open Go.RowKit Go.Shelf
section
variable {W0 W W':World} {U V:Nat}
theorem jd{base:Nat}{e:TypeId}{size n:Nat}{v u:Value}{xs:List Value}(ho:W.ownsRow base e size v n xs)(hg:W.grownBy W' u.ownBlock)(hne:v.ownBlock=none∨v.ownBlock≠u.ownBlock):W'.ownsRow base e size v n xs:=by
 refine⟨ho.1,?_⟩;rcases ho.2 with hn | ⟨g,cap,cur,rfl,hb,hh,hrest⟩
 ·exact .inl hn
 ·refine .inr ⟨g,cap,cur,rfl,hb,(hg.block g (Array.getElem?_eq_some_iff.1 hh).1 ?_).trans hh,hrest⟩;intro e;rcases hne with hne|hne
  ·simp[Value.ownBlock]at hne
  ·exact hne (by rw[←e];rfl)
end
theorem oK{w:World}{P g cap:Nat}{l:List Bs}{t:TypeId}{cs:Array Value}(h:RowS w P cap l)(hb:Blk w g t cs)(hne:24≠t):P≠g:=by
 obtain⟨cur,h⟩:=h;exact az h.blk hb hne
theorem oL:(Tryz.prog.info? 68).map (fun i=>(i.zero,i.size,i.bytes))=some (some (.agg #[.string ⟨#[]⟩,.string ⟨#[]⟩,.string ⟨#[]⟩,.int .i64 0,.int .i64 0,.string ⟨#[]⟩,.string ⟨#[]⟩,.string ⟨#[]⟩,.string ⟨#[]⟩,.string ⟨#[]⟩]),10,144):=by kernel_rfl
theorem oM:(Tryz.prog.info? 76).map (fun i=>(i.zero,i.size,i.bytes))=some (some (.agg #[.string ⟨#[]⟩,.string ⟨#[]⟩,.string ⟨#[]⟩,.string ⟨#[]⟩,.string ⟨#[]⟩,.string ⟨#[]⟩]),6,96):=by kernel_rfl
abbrev gT:TypeId:=68
abbrev sT:TypeId:=76
abbrev lT:TypeId:=71
abbrev rT:TypeId:=37
abbrev bT:TypeId:=22
theorem DM{W W':World}{b:Nat}(h:W'.heap[b]? = W.heap[b]?)(i:Nat):W'.cell? ⟨b,i,none⟩=W.cell? ⟨b,i,none⟩:=by
 unfold World.cell?;dsimp only;rw[h]
theorem fG{W:World}{A:Option Addr}{ls:List LotV}{g k:Nat}{t:TypeId}{cs:Array Value}{u:Value}(h:bp W A ls)(hg:Blk W g t cs)(hs:∃A' n' c',cs[k]? = some (.slice A' n' c')):bp (W.setCell ⟨g,k,none⟩ u) A ls:=by
 refine⟨h.1,fun hn=>?_⟩;obtain⟨b,o,e,hb,hc⟩:=h.2 hn;refine⟨b,o,e,by simpa[World.setCell] using hb,fun j u2 hu=>?_⟩;have h1:=hc j u2 hu;by_cases e1:b=g
 ·subst e1;by_cases e2:o+j=k
  ·subst e2;obtain⟨A',n',c',h3⟩:=hs;rw[hg.cell,h3]at h1;injection h1 with h1
   have hm:=List.mem_of_getElem? hu;rw[←h1]at hm;rw[List.mem_flatMap]at hm;obtain⟨x,_,hm⟩:=hm;unfold aU at hm;simp only[List.mem_cons,List.not_mem_nil,or_false]at hm;rcases hm with hm|hm|hm|hm|hm|hm|hm <;> cases hm
  ·rw[(hg.set_ k u).cell,Array.getElem?_setIfInBounds_ne (Ne.symm e2),←hg.cell];exact h1
 ·rw[←h1];exact DM (Below.heap_setCell W ⟨g,k,none⟩ u b e1) _
section
variable {W0 W W':World} {U V:Nat} {lp lp':Loop} {vg vs vf v':Value} {kg ks kf:Nat} {gs ss fs xs:List Value}
theorem bH{base:Nat}{e:TypeId}{size n g k:Nat}{t:TypeId}{cs:Array Value}{v u:Value}{xs:List Value}(ho:W.ownsRow base e size v n xs)(hb:Blk W g t cs)(hne:e≠t):(W.setCell ⟨g,k,none⟩ u).ownsRow base e size v n xs :=
 m8 ho (eD ho hb hne) u
theorem ct{u:Value}{g:Nat}{t e:TypeId}{base size n:Nat}{cs:Array Value}(hb:Blk W g t cs)(ho:W.ownsRow base e size u n xs)(hg:W.grownBy W' u.ownBlock)(hne:e≠t):Blk W' g t cs :=
 (hg.block g hb.lt (fun e2=>eD ho hb hne e2.symm)).trans hb
end
end
end Go.Proofs.YthgpheopnhajaaaGreatDoor
