/- The seat's texts, part Q21. -/
import Derived.Test.YtaegjkllenlfpaaGreatDoorQ10
import Derived.Test.YtaegjkllenlfpaaGreatDoorQ11
import Derived.Test.YtaegjkllenlfpaaGreatDoorQ16
import Derived.Test.YtaegjkllenlfpaaGreatDoorQ20
import Derived.BigQuiet
import Derived.BigRegion
import Derived.Deep.RegionHeld3
set_option maxRecDepth 100000
set_option maxHeartbeats 8000000
namespace Go.Proofs.YtaegjkllenlfpaaGreatDoor
variable {k i:Nat}{ls:List LotV}{w:World}{a' b':LotV}{o ps:List Fr}{id d ins:Bs}
section
open Go.RowKit
attribute [local go_sem] size_bs toList_bs
def dN(ls:List LotV)(ins:Bs):List Bs:=(ofL ls ins).map (·.q)
def cG(ls:List LotV)(ins:Bs):List Bs:=(bU (totC ls ins) ((dN ls ins).map valI)).map ofI
def bS(ls:List LotV)(ins:Bs):List LotV:=if(ofL ls ins).length=0 then ls else eZ (fun n x=>{ x with c:=(cG ls ins).getD n [] }) ins 0 ls
theorem ft(ls:List LotV)(ins:Bs):(dN ls ins).length=(ofL ls ins).length:=by simp[dN]
theorem mP(ls:List LotV)(ins:Bs):(cG ls ins).length=(ofL ls ins).length:=by simp[cG,li,ft]
theorem mv(ls:List LotV)(ins:Bs):(bS ls ins).length=ls.length:=by
 unfold bS;split
 ·rfl
 ·exact mK _ _
def EU(p:Prop)(w:World)(e:Ending)(w':World):Prop:=Ext w w'∧((p∧e = .returned (.bool true))∨(¬ p∧e = .returned (.bool false)))
theorem oY{a b:Bs}(h:a≠b):(a == b)=false:=by rw[beq_eq_false_iff_ne];exact h
theorem xC{a b:Int}(h:a≠b):(a == b)=false:=by rw[beq_eq_false_iff_ne];exact h
theorem CE{α:Type}{l l':List α}(hl:l.length=l'.length)(h:∀(j:Nat) (h1:j<l.length) (h2:j<l'.length),l[j]=l'[j]):l=l':=List.ext_getElem hl h
theorem CG{α:Type}{l l':List α}(hz:∀(j:Nat) (h1:j<l.length) (h2:j<l'.length),j<k->l[j]=l'[j])(h1:k<l.length)(h2:k<l'.length)(he:l[k]=l'[k]):∀(j:Nat) (h1:j<l.length) (h2:j<l'.length),j<k+1->l[j]=l'[j]:=by
 intro j a b hj;rcases Nat.lt_or_ge j k with h|h
 ·exact hz j a b h
 ·obtain rfl:j=k:=by omega
  exact he
theorem EV{a b:LotV}(h0:a.id=b.id)(h1:a.ins=b.ins)(h2:a.acq=b.acq)(h3:a.opn=b.opn)(h4:a.q=b.q)(h5:a.c=b.c)(h6:a.u=b.u):a=b:=by cases a;cases b;simp_all
instance:DecidableEq LotV:=fun a b=>by
 by_cases h:(a.id=b.id∧a.ins=b.ins∧a.acq=b.acq∧a.opn=b.opn∧a.q=b.q∧a.c=b.c∧a.u=b.u)
 ·exact isTrue (by obtain⟨h0,h1,h2,h3,h4,h5,h6⟩:=h;exact EV h0 h1 h2 h3 h4 h5 h6)
 ·exact isFalse (by rintro rfl;exact h ⟨rfl,rfl,rfl,rfl,rfl,rfl,rfl⟩)
theorem zI(seen:List Bs)(ls:List LotV)(h:goAll seen ls=0):∀x ∈ ls,checkL x=0:=by
 induction ls generalizing seen with
 |nil=>intro x hx;cases hx
 |cons y r ih =>
  unfold goAll at h;split at h
  ·rename_i hc;exact absurd h hc
  ·rename_i hc
   split at h
   ·cases h
   ·intro x hx;rcases List.mem_cons.1 hx with rfl|hx
    ·exact Decidable.not_not.1 hc
    ·exact ih _ h x hx
theorem ap(h:checkAllL ls=0):ls.length<=1000∧∀x ∈ ls,checkL x=0:=by
 unfold checkAllL at h;split at h
 ·cases h
 ·exact⟨by omega,zI _ _ h⟩
theorem bh{x:LotV}(h:checkL x=0):checkI x.q=0∧checkI x.c=0∧0<valI x.q∧0<=valI x.c∧(x.u=[]∨x.u=x.q):=by
 unfold checkL at h;split at h
 ·cases h
 split at h
 ·cases h
 split at h
 ·cases h
 split at h
 ·cases h
 split at h
 ·cases h
 rename_i h4 h5
 simp only[not_or,Decidable.not_not]at h4 h5;refine⟨h4.1,h4.2.1,by omega,by omega,?_⟩;by_cases hu:x.u=[]
 ·exact .inl hu
 ·exact .inr (Decidable.not_not.1 (fun hq=>h5.2.2 ⟨hu,hq⟩))
theorem uK(l:List Int)(h:∀x ∈ l,0<x)(hl:0<l.length):0<l.sum:=by
 cases l with
 |nil=>simp at hl
 |cons a r =>
  rw[List.sum_cons];have:=h a (by simp);have:=dY r (fun x hx=>Int.le_of_lt (h x (by simp[hx])));omega
theorem Bx(ins:Bs)(hs:∀x ∈ ls,SmallL x)(h:checkAllL ls=0)(hl:0<(ofL ls ins).length):WtOK (dN ls ins):=by
 obtain⟨h1,h2⟩:=ap h
 have hm:∀x ∈ dN ls ins,∃y ∈ ls,y.q=x:=by
  intro x hx;obtain⟨y,hy,rfl⟩:=List.mem_map.1 hx;exact⟨y,(List.mem_filter.1 hy).1,rfl⟩
 have hle:(ofL ls ins).length<=ls.length:=List.length_filter_le _ _;refine⟨by rw[ft];exact hl,by rw[ft];omega,?_,?_,?_,?_⟩
 ·intro x hx;obtain⟨y,hy,rfl⟩:=hm x hx;have:=(hs y hy).2.2.1;omega
 ·intro x hx;obtain⟨y,hy,rfl⟩:=hm x hx;exact(bh (h2 y hy)).1
 ·intro x hx;obtain⟨y,hy,rfl⟩:=hm x hx;exact Int.le_of_lt (bh (h2 y hy)).2.2.1
 ·refine uK _ ?_ (by rw[List.length_map,ft];exact hl);intro v hv;obtain⟨x,hx,rfl⟩:=List.mem_map.1 hv;obtain⟨y,hy,rfl⟩:=hm x hx;exact(bh (h2 y hy)).2.2.1
theorem pR(a:Bs)(w:World):Calls Tryz.prog 110 #[.string (bs a)] w fun e w'=>e = .returned (.bool (decide (13<(a.length:Int))))∧w'=w:=by
 go_enter Tryz.func110,Tryz.ntmps110;go_wp2_with fail;go_ret;exact⟨rfl,rfl⟩
end
section
open Go.RowKit Go.Shelf
attribute [local go_sem] size_bs toList_bs
def aQ:LotV:=⟨[],[],0,0,[],[],[]⟩
def cV(x:LotV)(q:Bs):LotV:={ x with q:=q,c:=ofI (dv (valI x.c) (valI q) (valI x.q)),u:=if x.u=[] then [] else q }
def cH(x:LotV)(q:Bs):LotV:={ x with q:=ofI (valI x.q-valI q),c:=ofI (valI x.c-dv (valI x.c) (valI q) (valI x.q)),u:=if x.u=[] then [] else ofI (valI x.q-valI q) }
def gL(x:LotV)(q:Bs):LotV × LotV × Int :=
 if checkL x≠0∨checkI q≠0 then(aQ,aQ,1) else if valI q<=0∨valI x.q<=valI q then(aQ,aQ,2) else(cV x q,cH x q,0)
theorem nF(vs cs:List Value)(h:cs.length=vs.length):lsplice cs 0 vs=vs:=by
 unfold lsplice;rw[List.take_zero,List.nil_append,List.drop_of_length_le (by omega),List.append_nil]
theorem dt{g:Nat}{x:LotV}(h:Blk w g 62 (lc x))(y:LotV):Blk (w.setCells g 0 (lotCells y)) g 62 (lc y):=by
 have:=Blk.sets (lotCells y) 0 w (lotCells x) h (by rw[aN,aN];omega);rw[nF _ _ (by rw[aN,aN])]at this
 exact this
theorem eK{fn:Func}{a b c:Tmp}(h:fn.results=#[.cell a 62,.cell b 62,.tmp c])(tmps:Array Value)(w:World)(g k:Nat)(x y:LotV)(z:Value)(ha:tmps.getD a undef = .pointer (some ⟨g,0,none⟩))(hb:tmps.getD b undef = .pointer (some ⟨k,0,none⟩))(hz:tmps.getD c undef=z)(hx:Blk w g 62 (lc x))(hy:Blk w k 62 (lc y)) :
  (results fn tmps).run Tryz.prog w = .ok (.tuple #[lv x,lv y,z]) w:=by
 obtain⟨p0,p1,p2,p3,p4,p5,p6⟩:=aj hx (Ext.refl _);obtain⟨q0,q1,q2,q3,q4,q5,q6⟩:=aj hy (Ext.refl _);unfold results;rw[h];simp only[List.mapM_toArray,List.mapM_cons,List.mapM_nil,ha,hb,hz];go_simp
structure CutAt (W0 W:World) (g:Nat) (x:LotV):Prop where
 bx:Blk W g 62 (lc x)
 ba:Blk W (g+1) 62 (lc aQ)
 bb:Blk W (g+2) 62 (lc aQ)
 le:W0.heap.size<=g
 ext:Ext W0 W
theorem CutAt.on{W0 W W':World}{g:Nat}{x:LotV}(h:CutAt W0 W g x)(hx:Ext W W'):CutAt W0 W' g x:=⟨h.bx.ext hx,h.ba.ext hx,h.bb.ext hx,h.le,h.ext.trans hx⟩
theorem xD(w:World)(x:LotV):CutAt w (((w.alloc (.cells (lc x) 62)).alloc (.cells (lc aQ) 62)).alloc (.cells (lc aQ) 62)) w.heap.size x:=by
 have e1:(w.alloc (.cells (lc x) 62)).heap.size=w.heap.size+1:=Array.size_push ..;have e2:((w.alloc (.cells (lc x) 62)).alloc (.cells (lc aQ) 62)).heap.size=w.heap.size+2:=(Array.size_push ..).trans (congrArg (·+1) e1);refine⟨((Blk.new _ _ _).ext (Ext.new _ _)).ext (Ext.new _ _),?_,?_,Nat.le_refl _,((Ext.new _ _).trans (Ext.new _ _)).trans (Ext.new _ _)⟩
 ·have:=(Blk.new (w.alloc (.cells (lc x) 62)) 62 (lc aQ)).ext (Ext.new _ (.cells (lc aQ) 62));rwa[e1]at this
 ·have:=Blk.new ((w.alloc (.cells (lc x) 62)).alloc (.cells (lc aQ) 62)) 62 (lc aQ);rwa[e2]at this
def kT(w:World)(x:LotV)(p2 p4 p5:Value)(wx:World):Prop:=∃g,p2 = .pointer (some ⟨g,0,none⟩)∧p4 = .pointer (some ⟨g+1,0,none⟩)∧p5 = .pointer (some ⟨g+2,0,none⟩)∧CutAt w wx g x
def EW(W:World)(x:LotV)(p7 p8:Value)(wx:World):Prop:=∃P R,p7 = .pointer (some ⟨P,0,none⟩)∧p8 = .pointer (some ⟨R,0,none⟩)∧P≠R∧W.heap.size<=P∧W.heap.size<=R∧Blk wx P 62 (lc x)∧Blk wx R 62 (lc x)∧Ext W wx
structure HalvesAt (W0 W:World) (g P R:Nat) (x a b:LotV):Prop where
 cut:CutAt W0 W g x
 ne:P≠R
 lp:g+3<=P
 lr:g+3<=R
 bp:Blk W P 62 (lc a)
 br:Blk W R 62 (lc b)
section
variable {W0 W W':World} {g P R:Nat} {x a b:LotV}
theorem HalvesAt.on(h:HalvesAt W0 W g P R x a b)(hx:Ext W W'):HalvesAt W0 W' g P R x a b:=⟨h.cut.on hx,h.ne,h.lp,h.lr,h.bp.ext hx,h.br.ext hx⟩
theorem HalvesAt.store(h:HalvesAt W0 W g P R x a b)(n:Nat)(u v:Value)(ha:(lc a).setIfInBounds n u=lc a')(hb:(lc b).setIfInBounds n v=lc b'):HalvesAt W0 ((W.setCell ⟨P,n,none⟩ u).setCell ⟨R,n,none⟩ v) g P R x a' b':=by
 have h1:=h.lp;have h2:=h.lr;have h3:=h.ne;have h4:=h.cut.le;refine⟨⟨(h.cut.bx.far (p:=⟨P,n,none⟩) (by show g≠P;omega) u).far (p:=⟨R,n,none⟩) (by show g≠R;omega) v,(h.cut.ba.far (p:=⟨P,n,none⟩) (by show g+1≠P;omega) u).far (p:=⟨R,n,none⟩) (by show g+1≠R;omega) v,(h.cut.bb.far (p:=⟨P,n,none⟩) (by show g+2≠P;omega) u).far (p:=⟨R,n,none⟩) (by show g+2≠R;omega) v,h.cut.le,(h.cut.ext.setCell (p:=⟨P,n,none⟩) (by show W0.heap.size<=P;omega) u).setCell (p:=⟨R,n,none⟩) (by show W0.heap.size<=R;omega) v⟩,h3,h1,h2,?_,?_⟩
 ·have:=(h.bp.set_ n u).far (p:=⟨R,n,none⟩) h3 v;rwa[ha]at this
 ·have:=(h.br.far (p:=⟨P,n,none⟩) (Ne.symm h3) u).set_ n v;rwa[hb]at this
theorem tY(h:HalvesAt W0 W g P R x a b):HalvesAt W0 W.drew g P R x a b:=h.on (Ext.refl _).drew
end
theorem EX(x:LotV)(q:Bs)(hs:SmallL x)(hq:q.length<=5000):cw 156 #[lv x,.string (bs q)] (.tuple #[lv (gL x q).1,lv (gL x q).2.1,.int .i64 (gL x q).2.2]):=by
 intro w hE;have s3:=hs.2.2.1;have s4:=hs.2.2.2.1;have HE:=qh hE;have HN:=qh (xD w x);have HX:Hid (Ext w w):=qh (Ext.refl w);have KL:=qh (rM x hs);have KQ:=qh (dI q (by omega));have C0:=qh (ij q (by omega));have C1:=qh (cmpP q x.q (by omega) (by omega));have S1:=qh (ln x.q q (by omega) (by omega));by_cases h1:checkL x=0;rotate_left
 ·have he:gL x q=(aQ,aQ,1):=by unfold gL;rw[if_pos (.inl h1)]
  rw[he];have g1:(checkL x != 0)=true:=by rw[bne_iff_ne];exact h1
  generalize checkL x=ck at *;go_enter Tryz.func156,Tryz.ntmps156;go_upto_region 0 with fail;go_cut [2,4,5] (fun p2 p4 p5 wx=>kT w x p2 p4 p5 wx)
  case first =>
   go_wp2_with fail;go_meet
   exact⟨_,rfl,rfl,rfl,HN.out⟩
  obtain⟨g,rfl,rfl,rfl,hcu⟩:=hcut;replace HN:=qh hcu;replace HX:=qh hcu.ext;clear hcu;obtain⟨p0,p1,p2,p3,p4,p5,p6⟩:=aj HN.out.bx (Ext.refl _);go_wp2_with fail;refine(KL.out _ (HE.out.ext HX.out)).mono ?_;rintro e wv⟨rfl,hx1⟩;replace HN:=qh (HN.out.on hx1);replace HX:=HX.qt hx1;clear hx1;obtain⟨p0,p1,p2,p3,p4,p5,p6⟩:=aj HN.out.bx (Ext.refl _);obtain⟨a0,a1,a2,a3,a4,a5,a6⟩:=aj HN.out.ba (Ext.refl _);obtain⟨b0,b1,b2,b3,b4,b5,b6⟩:=aj HN.out.bb (Ext.refl _);have fa:=fun k=>HN.out.ba.frozen k
  have fb:=fun k=>HN.out.bb.frozen k
  go_wp2_with fail;refine bodyPost_ret (eK rfl _ _ (g+1) (g+2) (aQ) (aQ) (.int .i64 1) rfl rfl rfl (Blk.sets_far (dt HN.out.ba (aQ)) (by omega) (lotCells (aQ)) 0) (dt (Blk.sets_far HN.out.bb (by omega) (lotCells (aQ)) 0) (aQ))) rfl ?_;exact⟨rfl,ext_sets (lotCells (aQ)) 0 _ () (ext_sets (lotCells (aQ)) 0 _ () HX.out (by have:=HN.out.le;omega)) (by have:=HN.out.le;omega)⟩
 rw[h1]at KL;by_cases h2:checkI q=0;rotate_left
 ·have he:gL x q=(aQ,aQ,1):=by unfold gL;rw[if_pos (.inr h2)]
  rw[he];have g1:(checkI q != 0)=true:=by rw[bne_iff_ne];exact h2
  generalize checkI q=ck at *;go_enter Tryz.func156,Tryz.ntmps156;go_upto_region 0 with fail;go_cut [2,4,5] (fun p2 p4 p5 wx=>kT w x p2 p4 p5 wx)
  case first =>
   go_wp2_with fail;go_meet
   exact⟨_,rfl,rfl,rfl,HN.out⟩
  obtain⟨g,rfl,rfl,rfl,hcu⟩:=hcut;replace HN:=qh hcu;replace HX:=qh hcu.ext;clear hcu;obtain⟨p0,p1,p2,p3,p4,p5,p6⟩:=aj HN.out.bx (Ext.refl _);go_wp2_with fail;refine(KL.out _ (HE.out.ext HX.out)).mono ?_;rintro e wv⟨rfl,hx1⟩;replace HN:=qh (HN.out.on hx1);replace HX:=HX.qt hx1;clear hx1;obtain⟨p0,p1,p2,p3,p4,p5,p6⟩:=aj HN.out.bx (Ext.refl _);go_wp2_with fail;refine(KQ.out _ (HE.out.ext HX.out)).mono ?_;rintro e wv⟨rfl,hx1⟩;replace HN:=qh (HN.out.on hx1);replace HX:=HX.qt hx1;clear hx1;obtain⟨p0,p1,p2,p3,p4,p5,p6⟩:=aj HN.out.bx (Ext.refl _);obtain⟨a0,a1,a2,a3,a4,a5,a6⟩:=aj HN.out.ba (Ext.refl _);obtain⟨b0,b1,b2,b3,b4,b5,b6⟩:=aj HN.out.bb (Ext.refl _);have fa:=fun k=>HN.out.ba.frozen k
  have fb:=fun k=>HN.out.bb.frozen k
  go_wp2_with fail;refine bodyPost_ret (eK rfl _ _ (g+1) (g+2) (aQ) (aQ) (.int .i64 1) rfl rfl rfl (Blk.sets_far (dt HN.out.ba (aQ)) (by omega) (lotCells (aQ)) 0) (dt (Blk.sets_far HN.out.bb (by omega) (lotCells (aQ)) 0) (aQ))) rfl ?_;exact⟨rfl,ext_sets (lotCells (aQ)) 0 _ () (ext_sets (lotCells (aQ)) 0 _ () HX.out (by have:=HN.out.le;omega)) (by have:=HN.out.le;omega)⟩
 rw[h2]at KQ;by_cases h3:valI q<=0
 ·have he:gL x q=(aQ,aQ,2):=by unfold gL;rw[if_neg (by omega),if_pos (.inl h3)]
  rw[he];have g2:decide (cmpI (valI q) 0<=0)=true:=by rw[decide_eq_true_iff];have:=dq (x:=valI q) (y:=0);omega
  clear he h1 h2 h3 s3 s4 hs hq;generalize cmpI (valI q) 0=k1 at *;go_enter Tryz.func156,Tryz.ntmps156;go_upto_region 0 with fail;go_cut [2,4,5] (fun p2 p4 p5 wx=>kT w x p2 p4 p5 wx)
  case first =>
   go_wp2_with fail;go_meet
   exact⟨_,rfl,rfl,rfl,HN.out⟩
  obtain⟨g,rfl,rfl,rfl,hcu⟩:=hcut;replace HN:=qh hcu;replace HX:=qh hcu.ext;clear hcu;obtain⟨p0,p1,p2,p3,p4,p5,p6⟩:=aj HN.out.bx (Ext.refl _);go_wp2_with fail;refine(KL.out _ (HE.out.ext HX.out)).mono ?_;rintro e wv⟨rfl,hx1⟩;replace HN:=qh (HN.out.on hx1);replace HX:=HX.qt hx1;clear hx1;obtain⟨p0,p1,p2,p3,p4,p5,p6⟩:=aj HN.out.bx (Ext.refl _);go_wp2_with fail;refine(KQ.out _ (HE.out.ext HX.out)).mono ?_;rintro e wv⟨rfl,hx1⟩;replace HN:=qh (HN.out.on hx1);replace HX:=HX.qt hx1;clear hx1;obtain⟨p0,p1,p2,p3,p4,p5,p6⟩:=aj HN.out.bx (Ext.refl _);go_wp2_with fail;refine(C0.out _ (HE.out.ext HX.out)).mono ?_;rintro e wv⟨rfl,hx1⟩;replace HN:=qh (HN.out.on hx1);replace HX:=HX.qt hx1;clear hx1;obtain⟨p0,p1,p2,p3,p4,p5,p6⟩:=aj HN.out.bx (Ext.refl _);obtain⟨a0,a1,a2,a3,a4,a5,a6⟩:=aj HN.out.ba (Ext.refl _);obtain⟨b0,b1,b2,b3,b4,b5,b6⟩:=aj HN.out.bb (Ext.refl _);have fa:=fun k=>HN.out.ba.frozen k
  have fb:=fun k=>HN.out.bb.frozen k
  go_wp2_with fail;refine bodyPost_ret (eK rfl _ _ (g+1) (g+2) (aQ) (aQ) (.int .i64 2) rfl rfl rfl (Blk.sets_far (dt HN.out.ba (aQ)) (by omega) (lotCells (aQ)) 0) (dt (Blk.sets_far HN.out.bb (by omega) (lotCells (aQ)) 0) (aQ))) rfl ?_;exact⟨rfl,ext_sets (lotCells (aQ)) 0 _ () (ext_sets (lotCells (aQ)) 0 _ () HX.out (by have:=HN.out.le;omega)) (by have:=HN.out.le;omega)⟩
 have g2:decide (cmpI (valI q) 0<=0)=false:=by rw[decide_eq_false_iff_not];have:=dq (x:=valI q) (y:=0);omega
 by_cases h4:valI x.q<=valI q
 ·have he:gL x q=(aQ,aQ,2):=by unfold gL;rw[if_neg (by omega),if_pos (.inr h4)]
  rw[he];have g3:decide (0<=cmpI (valI q) (valI x.q))=true:=by rw[decide_eq_true_iff];have:=cZ (x:=valI q) (y:=valI x.q);omega
  clear he h1 h2 h3 h4 s3 s4 hs hq;generalize cmpI (valI q) 0=k1 at *;generalize cmpI (valI q) (valI x.q)=k2 at *;go_enter Tryz.func156,Tryz.ntmps156;go_upto_region 0 with fail;go_cut [2,4,5] (fun p2 p4 p5 wx=>kT w x p2 p4 p5 wx)
  case first =>
   go_wp2_with fail;go_meet
   exact⟨_,rfl,rfl,rfl,HN.out⟩
  obtain⟨g,rfl,rfl,rfl,hcu⟩:=hcut;replace HN:=qh hcu;replace HX:=qh hcu.ext;clear hcu;obtain⟨p0,p1,p2,p3,p4,p5,p6⟩:=aj HN.out.bx (Ext.refl _);go_wp2_with fail;refine(KL.out _ (HE.out.ext HX.out)).mono ?_;rintro e wv⟨rfl,hx1⟩;replace HN:=qh (HN.out.on hx1);replace HX:=HX.qt hx1;clear hx1;obtain⟨p0,p1,p2,p3,p4,p5,p6⟩:=aj HN.out.bx (Ext.refl _);go_wp2_with fail;refine(KQ.out _ (HE.out.ext HX.out)).mono ?_;rintro e wv⟨rfl,hx1⟩;replace HN:=qh (HN.out.on hx1);replace HX:=HX.qt hx1;clear hx1;obtain⟨p0,p1,p2,p3,p4,p5,p6⟩:=aj HN.out.bx (Ext.refl _);go_wp2_with fail;refine(C0.out _ (HE.out.ext HX.out)).mono ?_;rintro e wv⟨rfl,hx1⟩;replace HN:=qh (HN.out.on hx1);replace HX:=HX.qt hx1;clear hx1;obtain⟨p0,p1,p2,p3,p4,p5,p6⟩:=aj HN.out.bx (Ext.refl _);go_wp2_with fail;refine(C1.out _ (HE.out.ext HX.out)).mono ?_;rintro e wv⟨rfl,hx1⟩;replace HN:=qh (HN.out.on hx1);replace HX:=HX.qt hx1;clear hx1;obtain⟨p0,p1,p2,p3,p4,p5,p6⟩:=aj HN.out.bx (Ext.refl _);obtain⟨a0,a1,a2,a3,a4,a5,a6⟩:=aj HN.out.ba (Ext.refl _);obtain⟨b0,b1,b2,b3,b4,b5,b6⟩:=aj HN.out.bb (Ext.refl _);have fa:=fun k=>HN.out.ba.frozen k
  have fb:=fun k=>HN.out.bb.frozen k
  go_wp2_with fail;refine bodyPost_ret (eK rfl _ _ (g+1) (g+2) (aQ) (aQ) (.int .i64 2) rfl rfl rfl (Blk.sets_far (dt HN.out.ba (aQ)) (by omega) (lotCells (aQ)) 0) (dt (Blk.sets_far HN.out.bb (by omega) (lotCells (aQ)) 0) (aQ))) rfl ?_;exact⟨rfl,ext_sets (lotCells (aQ)) 0 _ () (ext_sets (lotCells (aQ)) 0 _ () HX.out (by have:=HN.out.le;omega)) (by have:=HN.out.le;omega)⟩
 have g3:decide (0<=cmpI (valI q) (valI x.q))=false:=by rw[decide_eq_false_iff_not];have:=cZ (x:=valI q) (y:=valI x.q);omega
 have he:gL x q=(cV x q,cH x q,0):=by unfold gL;rw[if_neg (by omega),if_neg (by omega)]
 rw[he];obtain⟨o1,o2,o3,o4,o5⟩:=bh h1;have SH:=qh (yZ x.c q x.q (by omega) (by omega) (by omega) o2 h2 o1 o3 (by omega) (by omega));have hA:cV x q={ x with q:=q,c:=ofI (dv (valI x.c) (valI q) (valI x.q)),u:=if x.u=[] then [] else q }:=rfl;have hB:cH x q={ x with q:=ofI (valI x.q-valI q),c:=ofI (valI x.c-dv (valI x.c) (valI q) (valI x.q)),u:=if x.u=[] then [] else ofI (valI x.q-valI q) }:=rfl;rw[hA,hB];have HU1:Hid (x.u=[]->[]=(if x.u=[] then [] else q)∧[]=(if x.u=[] then [] else ofI (valI x.q-valI q))):=qh (fun h=>by rw[if_pos h,if_pos h];exact⟨rfl,rfl⟩);have HU2:Hid (x.u≠[]->q=(if x.u=[] then [] else q)∧ofI (valI x.q-valI q)=(if x.u=[] then [] else ofI (valI x.q-valI q))):=qh (fun h=>by rw[if_neg h,if_neg h];exact⟨rfl,rfl⟩);generalize (if x.u=[] then [] else q)=ua at *;generalize (if x.u=[] then [] else ofI (valI x.q-valI q))=ub at *;clear hA hB he h1 h2 h3 h4 s3 s4 hs hq o1 o2 o3 o4 o5;generalize ofI (valI x.c-dv (valI x.c) (valI q) (valI x.q))=cb at *;generalize ofI (dv (valI x.c) (valI q) (valI x.q))=ca at *;generalize ofI (valI x.q-valI q)=qb at *;generalize cmpI (valI q) 0=k1 at *;generalize cmpI (valI q) (valI x.q)=k2 at *;go_enter Tryz.func156,Tryz.ntmps156;go_upto_region 0 with fail;go_cut [2,4,5] (fun p2 p4 p5 wx=>kT w x p2 p4 p5 wx)
 case first =>
  go_wp2_with fail;go_meet
  exact⟨_,rfl,rfl,rfl,HN.out⟩
 obtain⟨g,rfl,rfl,rfl,hcu⟩:=hcut;replace HN:=qh hcu;replace HX:=qh hcu.ext;clear hcu;obtain⟨p0,p1,p2,p3,p4,p5,p6⟩:=aj HN.out.bx (Ext.refl _);go_wp2_with fail;refine(KL.out _ (HE.out.ext HX.out)).mono ?_;rintro e wv⟨rfl,hx1⟩;replace HN:=qh (HN.out.on hx1);replace HX:=HX.qt hx1;clear hx1;obtain⟨p0,p1,p2,p3,p4,p5,p6⟩:=aj HN.out.bx (Ext.refl _);go_wp2_with fail;refine(KQ.out _ (HE.out.ext HX.out)).mono ?_;rintro e wv⟨rfl,hx1⟩;replace HN:=qh (HN.out.on hx1);replace HX:=HX.qt hx1;clear hx1;obtain⟨p0,p1,p2,p3,p4,p5,p6⟩:=aj HN.out.bx (Ext.refl _);go_wp2_with fail;refine(C0.out _ (HE.out.ext HX.out)).mono ?_;rintro e wv⟨rfl,hx1⟩;replace HN:=qh (HN.out.on hx1);replace HX:=HX.qt hx1;clear hx1;obtain⟨p0,p1,p2,p3,p4,p5,p6⟩:=aj HN.out.bx (Ext.refl _);go_wp2_with fail;refine(C1.out _ (HE.out.ext HX.out)).mono ?_;rintro e wv⟨rfl,hx1⟩;replace HN:=qh (HN.out.on hx1);replace HX:=HX.qt hx1;clear hx1;obtain⟨p0,p1,p2,p3,p4,p5,p6⟩:=aj HN.out.bx (Ext.refl _);go_upto_region 5 with fail;go_cut [7,8] (fun p7 p8 wx=>EW wv x p7 p8 wx)
 case first =>
  go_region_held3 (fun w'=>w'.cell? ⟨g,0,none⟩=some (.string (bs x.id))∧w'.cell? ⟨g,1,none⟩=some (.string (bs x.ins))∧w'.cell? ⟨g,2,none⟩=some (.int .i64 x.acq)∧w'.cell? ⟨g,3,none⟩=some (.int .i64 x.opn)∧w'.cell? ⟨g,4,none⟩=some (.string (bs x.q))∧w'.cell? ⟨g,5,none⟩=some (.string (bs x.c))∧w'.cell? ⟨g,6,none⟩=some (.string (bs x.u)))
   (go_keep)
   (fail)
  all_goals
   go_wp2_with fail;go_meet
   first
    |exact⟨wv.heap.size,wv.heap.size+1,rfl,rfl,by omega,by omega,by omega,((Blk.new _ _ _).alloc _).drew,(blk_at _ _ _ _ (by simp)).drew,(((Ext.new _ _).alloc _).drew)⟩
    |exact⟨wv.heap.size+1,wv.heap.size,rfl,rfl,by omega,by omega,by omega,(blk_at _ _ _ _ (by simp)).drew,((Blk.new _ _ _).alloc _).drew,(((Ext.new _ _).alloc _).drew)⟩
 case rest =>
  obtain⟨P,R,rfl,rfl,hPR,hwP,hwR,hbp,hbr,hxw⟩:=hcut;have hbl:=HN.out.bb.lt;have HV:Hid (HalvesAt w wc g P R x x x):=qh ⟨HN.out.on hxw,hPR,by omega,by omega,hbp,hbr⟩;replace HX:=HX.qt hxw;clear hbp hbr hxw hwP hwR HN hbl p0 p1 p2 p3 p4 p5 p6;have hPg:P≠g:=by have:=HV.out.lp;omega
  have hRg:R≠g:=by have:=HV.out.lr;omega
  have hgP:g≠P:=Ne.symm hPg;have hgR:g≠R:=Ne.symm hRg;have hRP:R≠P:=Ne.symm hPR;obtain⟨xi,xn,xa,xo,xq,xc,xu⟩:=x;simp only at *;obtain⟨p0,p1,p2,p3,p4,p5,p6⟩:=aj HV.out.cut.bx (Ext.refl _);obtain⟨a0,a1,a2,a3,a4,a5,a6⟩:=aj HV.out.bp (Ext.refl _);obtain⟨b0,b1,b2,b3,b4,b5,b6⟩:=aj HV.out.br (Ext.refl _);have fa:=fun k=>HV.out.bp.frozen k
  have fb:=fun k=>HV.out.br.frozen k
  go_wp2_with fail;refine(S1.out _ (HE.out.ext HX.out)).mono ?_;rintro e w1⟨rfl,hx1⟩;replace HV:=qh (HV.out.on hx1);clear hx1 a0 a1 a2 a3 a4 a5 a6 b0 b1 b2 b3 b4 b5 b6 fa fb p0 p1 p2 p3 p4 p5 p6;have HV2:Hid (HalvesAt w ((w1.setCell ⟨P,4,none⟩ (.string (bs q))).setCell ⟨R,4,none⟩ (.string (bs qb))) g P R ⟨xi,xn,xa,xo,xq,xc,xu⟩ ⟨xi,xn,xa,xo,q,xc,xu⟩ ⟨xi,xn,xa,xo,qb,xc,xu⟩):=qh (HV.out.store 4 _ _ rfl rfl);obtain⟨p0,p1,p2,p3,p4,p5,p6⟩:=aj HV.out.cut.bx (Ext.refl _);obtain⟨a0,a1,a2,a3,a4,a5,a6⟩:=aj HV.out.bp (Ext.refl _);obtain⟨b0,b1,b2,b3,b4,b5,b6⟩:=aj HV.out.br (Ext.refl _);have fa:=fun k=>HV.out.bp.frozen k
  have fb:=fun k=>HV.out.br.frozen k
  go_wp2_with fail;refine(SH.out _ (HE.out.ext HV2.out.cut.ext)).mono ?_;rintro e w2⟨rfl,hx1⟩;clear HV;have HV:=qh (HV2.out.on hx1);clear hx1 a0 a1 a2 a3 a4 a5 a6 b0 b1 b2 b3 b4 b5 b6 fa fb p0 p1 p2 p3 p4 p5 p6 HV2;have HV2:Hid (HalvesAt w ((w2.setCell ⟨P,5,none⟩ (.string (bs ca))).setCell ⟨R,5,none⟩ (.string (bs cb))) g P R ⟨xi,xn,xa,xo,xq,xc,xu⟩ ⟨xi,xn,xa,xo,q,ca,xu⟩ ⟨xi,xn,xa,xo,qb,cb,xu⟩):=qh (HV.out.store 5 _ _ rfl rfl);obtain⟨p0,p1,p2,p3,p4,p5,p6⟩:=aj HV.out.cut.bx (Ext.refl _);obtain⟨a0,a1,a2,a3,a4,a5,a6⟩:=aj HV.out.bp (Ext.refl _);obtain⟨b0,b1,b2,b3,b4,b5,b6⟩:=aj HV.out.br (Ext.refl _);have fa:=fun k=>HV.out.bp.frozen k
  have fb:=fun k=>HV.out.br.frozen k
  by_cases hu:xu=[]
  ·have g9:(!xu.isEmpty)=false:=by rw[hu];rfl
   obtain⟨e1,e2⟩:=HU1.out hu;clear HU1 HU2;subst e1 e2 hu;go_wp2_with fail;replace HV:=HV2;clear HV2 a0 a1 a2 a3 a4 a5 a6 b0 b1 b2 b3 b4 b5 b6 fa fb p0 p1 p2 p3 p4 p5 p6;generalize (w2.setCell ⟨P,5,none⟩ (.string (bs ca))).setCell ⟨R,5,none⟩ (.string (bs cb))=W4 at *;obtain⟨p0,p1,p2,p3,p4,p5,p6⟩:=aj HV.out.cut.bx (Ext.refl _);obtain⟨a0,a1,a2,a3,a4,a5,a6⟩:=aj HV.out.bp (Ext.refl _);obtain⟨b0,b1,b2,b3,b4,b5,b6⟩:=aj HV.out.br (Ext.refl _);have fa:=fun k=>HV.out.bp.frozen k
   have fb:=fun k=>HV.out.br.frozen k
   obtain⟨c0,c1,c2,c3,c4,c5,c6⟩:=aj HV.out.cut.ba (Ext.refl _);obtain⟨d0,d1,d2,d3,d4,d5,d6⟩:=aj HV.out.cut.bb (Ext.refl _);have fc:=fun k=>HV.out.cut.ba.frozen k
   have fd:=fun k=>HV.out.cut.bb.frozen k
   have n1:R≠g+1:=by have:=HV.out.lr;omega
   have n2:P≠g+1:=by have:=HV.out.lp;omega
   have n3:R≠g+2:=by have:=HV.out.lr;omega
   have n4:P≠g+2:=by have:=HV.out.lp;omega
   have n5:=Ne.symm n1;have n6:=Ne.symm n2;have n7:=Ne.symm n3;have n8:=Ne.symm n4;go_region
   go_wp2_with fail;refine bodyPost_ret (eK rfl _ _ (g+1) (g+2) ((⟨xi,xn,xa,xo,q,ca,[]⟩:LotV)) ((⟨xi,xn,xa,xo,qb,cb,[]⟩:LotV)) (.int .i64 0) rfl rfl rfl (Blk.sets_far (dt HV.out.cut.ba ((⟨xi,xn,xa,xo,q,ca,[]⟩:LotV))) (by omega) (lotCells ((⟨xi,xn,xa,xo,qb,cb,[]⟩:LotV))) 0).drew (dt (Blk.sets_far HV.out.cut.bb (by omega) (lotCells ((⟨xi,xn,xa,xo,q,ca,[]⟩:LotV))) 0) ((⟨xi,xn,xa,xo,qb,cb,[]⟩:LotV))).drew) rfl ?_;exact⟨rfl,(ext_sets (lotCells ((⟨xi,xn,xa,xo,qb,cb,[]⟩:LotV))) 0 _ () (ext_sets (lotCells ((⟨xi,xn,xa,xo,q,ca,[]⟩:LotV))) 0 _ () HV.out.cut.ext (by have:=HV.out.cut.le;omega)) (by have:=HV.out.cut.le;omega)).drew⟩
  ·have g9:(!xu.isEmpty)=true:=by simpa using hu
   obtain⟨e1,e2⟩:=HU2.out hu;clear HU1 HU2;subst e1 e2;go_wp2_with fail;replace HV:=HV2;clear HV2 a0 a1 a2 a3 a4 a5 a6 b0 b1 b2 b3 b4 b5 b6 fa fb p0 p1 p2 p3 p4 p5 p6;generalize (w2.setCell ⟨P,5,none⟩ (.string (bs ca))).setCell ⟨R,5,none⟩ (.string (bs cb))=W3 at *;obtain⟨p0,p1,p2,p3,p4,p5,p6⟩:=aj HV.out.cut.bx (Ext.refl _);obtain⟨a0,a1,a2,a3,a4,a5,a6⟩:=aj HV.out.bp (Ext.refl _);obtain⟨b0,b1,b2,b3,b4,b5,b6⟩:=aj HV.out.br (Ext.refl _);have fa:=fun k=>HV.out.bp.frozen k
   have fb:=fun k=>HV.out.br.frozen k
   have HV2:Hid (HalvesAt w ((W3.setCell ⟨P,6,none⟩ (.string (bs q))).setCell ⟨R,6,none⟩ (.string (bs qb))).drew g P R ⟨xi,xn,xa,xo,xq,xc,xu⟩ ⟨xi,xn,xa,xo,q,ca,q⟩ ⟨xi,xn,xa,xo,qb,cb,qb⟩):=qh (tY (HV.out.store 6 _ _ rfl rfl));go_region
   go_wp2_with fail;replace HV:=HV2;clear HV2 a0 a1 a2 a3 a4 a5 a6 b0 b1 b2 b3 b4 b5 b6 fa fb p0 p1 p2 p3 p4 p5 p6;generalize ((W3.setCell ⟨P,6,none⟩ (.string (bs q))).setCell ⟨R,6,none⟩ (.string (bs qb))).drew=W4 at *;obtain⟨p0,p1,p2,p3,p4,p5,p6⟩:=aj HV.out.cut.bx (Ext.refl _);obtain⟨a0,a1,a2,a3,a4,a5,a6⟩:=aj HV.out.bp (Ext.refl _);obtain⟨b0,b1,b2,b3,b4,b5,b6⟩:=aj HV.out.br (Ext.refl _);have fa:=fun k=>HV.out.bp.frozen k
   have fb:=fun k=>HV.out.br.frozen k
   obtain⟨c0,c1,c2,c3,c4,c5,c6⟩:=aj HV.out.cut.ba (Ext.refl _);obtain⟨d0,d1,d2,d3,d4,d5,d6⟩:=aj HV.out.cut.bb (Ext.refl _);have fc:=fun k=>HV.out.cut.ba.frozen k
   have fd:=fun k=>HV.out.cut.bb.frozen k
   have n1:R≠g+1:=by have:=HV.out.lr;omega
   have n2:P≠g+1:=by have:=HV.out.lp;omega
   have n3:R≠g+2:=by have:=HV.out.lr;omega
   have n4:P≠g+2:=by have:=HV.out.lp;omega
   have n5:=Ne.symm n1;have n6:=Ne.symm n2;have n7:=Ne.symm n3;have n8:=Ne.symm n4;go_region
   go_wp2_with fail;refine bodyPost_ret (eK rfl _ _ (g+1) (g+2) ((⟨xi,xn,xa,xo,q,ca,q⟩:LotV)) ((⟨xi,xn,xa,xo,qb,cb,qb⟩:LotV)) (.int .i64 0) rfl rfl rfl (Blk.sets_far (dt HV.out.cut.ba ((⟨xi,xn,xa,xo,q,ca,q⟩:LotV))) (by omega) (lotCells ((⟨xi,xn,xa,xo,qb,cb,qb⟩:LotV))) 0).drew (dt (Blk.sets_far HV.out.cut.bb (by omega) (lotCells ((⟨xi,xn,xa,xo,q,ca,q⟩:LotV))) 0) ((⟨xi,xn,xa,xo,qb,cb,qb⟩:LotV))).drew) rfl ?_;exact⟨rfl,(ext_sets (lotCells ((⟨xi,xn,xa,xo,qb,cb,qb⟩:LotV))) 0 _ () (ext_sets (lotCells ((⟨xi,xn,xa,xo,q,ca,q⟩:LotV))) 0 _ () HV.out.cut.ext (by have:=HV.out.cut.le;omega)) (by have:=HV.out.cut.le;omega)).drew⟩
end
section
open Go.RowKit
def jg(a b:LotV):Bool:=decide (valI a.c*valI b.q<valI b.c*valI a.q)
def jh(a b:LotV):Bool:=decide (a.acq<b.acq)
def jt(m:Int)(a b:LotV):Bool :=
 if m=3 then jg b a || (!jg a b && jh a b) else if m=4 then jg a b || (!jg b a && jh a b) else jh a b
def bv(m:Int)(ls:List LotV):List LotV:=if m=2 then(eX (jt m) ls).reverse else eX (jt m) ls
def kF(x:LotV):Prop:=0<valI x.q
theorem uL{a b:LotV}(h:jg a b=true):jg b a=false:=by
 unfold jg at *;simp only[decide_eq_true_eq,decide_eq_false_iff_not]at *;omega
theorem uM{a b c:LotV}(ha:kF a)(hb:kF b)(hc:kF c)(h1:jg a b=false)(h2:jg b c=false):jg a c=false:=by
 unfold jg kF at *;simp only[decide_eq_false_iff_not,Int.not_lt]at *;have e1:=Int.mul_le_mul_of_nonneg_right h1 (Int.le_of_lt hc);have e2:=Int.mul_le_mul_of_nonneg_right h2 (Int.le_of_lt ha)
 have e3:valI c.c*valI a.q*valI b.q<=valI a.c*valI c.q*valI b.q:=by
  have i1:valI c.c*valI a.q*valI b.q=valI c.c*valI b.q*valI a.q:=Int.mul_right_comm ..;have i2:valI a.c*valI c.q*valI b.q=valI a.c*valI b.q*valI c.q:=Int.mul_right_comm ..;have i3:valI b.c*valI c.q*valI a.q=valI b.c*valI a.q*valI c.q:=Int.mul_right_comm ..;omega
 exact Int.le_of_mul_le_mul_right e3 hb
theorem xE{u:LotV->LotV->Bool}(h1:∀a b,u a b=true->u b a=false)(h2:∀a b c,kF a->kF b->kF c->u a b=false->u b c=false->u a c=false):WkOn (fun a b=>u a b || (!u b a && jh a b)) kF:=by
 constructor
 ·intro a b ha hb h;have t1:=h1 a b;have t2:=h1 b a;have t3:jh a b=true->jh b a=false:=by unfold jh;simp only[decide_eq_true_eq,decide_eq_false_iff_not];omega
  cases e1:u a b <;> cases e2:u b a <;> simp_all
 ·intro a b c ha hb hc h3 h4;have t1:=h2 a b c ha hb hc;have t2:=h2 c b a hc hb ha;have t3:=h2 b c a hb hc ha;have t4:=h2 c a b hc ha hb;have t5:=h2 b a c hb ha hc;have t6:=h2 a c b ha hc hb;have a3:jh a b=false->jh b c=false->jh a c=false:=by unfold jh;simp only[decide_eq_false_iff_not];omega
  have n1:=h1 a b;have n2:=h1 b c;have n3:=h1 a c;have n4:=h1 b a;have n5:=h1 c b;have n6:=h1 c a
  cases e1:u a b <;> cases e2:u b a <;> cases e3:u b c <;> cases e4:u c b <;> cases e5:u a c <;> cases e6:u c a <;> simp_all
theorem Ix(m:Int):WkOn (jt m) kF:=by
 by_cases h3:m=3
 ·have:=xE (u:=fun a b=>jg b a) (fun a b h=>uL h) (fun a b c ha hb hc e1 e2=>uM hc hb ha e2 e1);have e:jt m=fun a b=>jg b a || (!jg a b && jh a b):=by funext a b;unfold jt;rw[if_pos h3]
  rw[e];exact this
 ·by_cases h4:m=4
  ·have:=xE (u:=jg) (fun a b h=>uL h) (fun a b c ha hb hc e1 e2=>uM ha hb hc e1 e2);have e:jt m=fun a b=>jg a b || (!jg b a && jh a b):=by funext a b;unfold jt;rw[if_neg h3,if_pos h4]
   rw[e];exact this
  ·have e:jt m=jh:=by funext a b;unfold jt;rw[if_neg h3,if_neg h4]
   rw[e];constructor
   ·intro a b _ _;unfold jh;simp only[decide_eq_true_eq,decide_eq_false_iff_not];omega
   ·intro a b c _ _ _;unfold jh;simp only[decide_eq_false_iff_not];omega
theorem gn(m:Int)(ls:List LotV):ls.Perm (bv m ls):=by
 unfold bv;split
 ·exact(lQ ls).trans (List.reverse_perm _).symm
 ·exact lQ ls
def aF(a b:Bs):Bs:=if valI a<valI b then a else b
theorem oZ(a b:Bs):valI (aF a b)=min (valI a) (valI b):=by unfold aF;split <;> omega
structure Cho where
 out:List Fr
 rem:Bs
def Cho.left(s:Cho)(id xq:Bs):Bs:=match s.out.findIdx? (fun p=>p.num == id) with
 |some i=>ofI (valI xq-valI ((s.out[i]?.map (·.den)).getD []))
 |none=>xq
def Cho.put(s:Cho)(id n:Bs):List Fr:=match s.out.findIdx? (fun p=>p.num == id) with
 |some i=>s.out.set i ⟨id,ofI (valI ((s.out[i]?.map (·.den)).getD [])+valI n)⟩
 |none=>s.out++[⟨id,ofI (0+valI n)⟩]
def Cho.n(s:Cho)(id xq most:Bs):Bs:=aF (aF most (s.left id xq)) s.rem
def Cho.take(s:Cho)(id xq most:Bs):Cho:=if valI (s.n id xq most)<=0 then s else⟨s.put id (s.n id xq most),ofI (valI s.rem-valI (s.n id xq most))⟩
def Cho.named(own:List LotV)(s:Cho)(p:Fr):Cho:=match own.find? (fun x=>decide (x.id=p.num)) with
 |some x=>s.take x.id x.q p.den
 |none=>s
def Cho.all(s:Cho)(l:List LotV):Cho:=l.foldl (fun s x=>s.take x.id x.q x.q) s
def choose(ls:List LotV)(ins q:Bs)(m:Int)(ps:List Fr):Cho :=
 (if m=5 then ps.foldl (Cho.named (ofL ls ins)) ⟨[],q⟩ else⟨[],q⟩).all (bv m (ofL ls ins))
def gW(p:Fr):Bool:=!(checkI p.den == 0) || !decide (0<valI p.den)
def ax:List LotV->List Fr->List LotV × List LotV
 |ls,[]=>(ls,[])
 |ls,p :: ps=>match findL ls p.num with
  |none=>(ls,[])
  |some k=>match ls[k]? with
   |none=>(ls,[])
   |some x=>if x.q=p.den then((ax (ls.eraseIdx k) ps).1,x :: (ax (ls.eraseIdx k) ps).2)
    else((ax (ls.set k (cH x p.den)) ps).1,cV x p.den :: (ax (ls.set k (cH x p.den)) ps).2)
def aZ(o:List Fr)(id:Bs):Option Nat:=o.findIdx? (fun p=>p.num == id)
def eh(o:List Fr)(id:Bs):Int:=match aZ o id with
 |some i=>valI ((o[i]?.map (·.den)).getD [])
 |none=>0
def iT(o:List Fr):Int:=(o.map (fun p=>valI p.den)).sum
theorem ej(h:aZ o id=some i):∃hi:i<o.length,(o[i]'hi).num=id:=by
 unfold aZ at h;rw[List.findIdx?_eq_some_iff_getElem]at h;obtain⟨hi,hp,_⟩:=h;exact⟨hi,by simpa using hp⟩
theorem xF:aZ o id=none↔∀p ∈ o,p.num≠id:=by
 unfold aZ;rw[List.findIdx?_eq_none_iff];simp
theorem sF(o:List Fr)(id:Bs):aZ o id=(o.map (·.num)).findIdx? (· == id):=by
 unfold aZ;rw[List.findIdx?_map];rfl
theorem sG(h:aZ o id=some i):(o.set i ⟨id,d⟩).map (·.num)=o.map (·.num):=by
 obtain⟨hi,hn⟩:=ej h;rw[List.map_set];apply List.ext_getElem (by simp);intro m h1 h2;rw[List.getElem_set];split
 ·rename_i e;subst e;simp[hn]
 ·rfl
theorem CI(h:aZ o id=some i)(k:Bs):eh (o.set i ⟨id,d⟩) k=if k=id then valI d else eh o k:=by
 obtain⟨hi,hn⟩:=ej h;have e:aZ (o.set i ⟨id,d⟩) k=aZ o k:=by rw[sF,sF,sG h]
 unfold eh;rw[e];by_cases hk:k=id
 ·subst hk;rw[h,if_pos rfl];simp[hi]
 ·rw[if_neg hk]
  cases hj:aZ o k with
  |none=>rfl
  |some j =>
   obtain⟨hj1,hj2⟩:=ej hj;have hne:i≠j:=by rintro rfl;exact hk (hj2.symm.trans hn)
   simp only;rw[List.getElem?_set_ne hne]
theorem zJ(h:aZ o id=none)(k:Bs):eh (o++[⟨id,d⟩]) k=if k=id then valI d else eh o k:=by
 have e:aZ (o++[⟨id,d⟩]) k=(aZ o k).or (if id == k then some o.length else none):=by
  unfold aZ;rw[List.findIdx?_append,List.findIdx?_cons];congr 1
  by_cases hk:id == k <;> simp[hk]
 unfold eh;rw[e]
 cases hj:aZ o k with
 |some j =>
  obtain⟨hj1,hj2⟩:=ej hj;have hk:k≠id:=by rintro rfl;rw[h]at hj;cases hj
  rw[if_neg hk];simp only[Option.some_or];rw[List.getElem?_append_left hj1]
 |none =>
  by_cases hk:k=id
  ·subst hk;simp
  ·have h2:(id == k)=false:=by simpa using fun e=>hk e.symm
   rw[if_neg hk,h2];rfl
theorem uN:∀(l:List Int) (i:Nat) (v:Int) (h:i<l.length),(l.set i v).sum=l.sum-l[i]+v
 |[],_,_,h=>absurd h (by simp)
 |a :: r,0,v,_=>by simp;omega
 |a :: r,i+1,v,h=>by
  have:=uN r i v (by simpa using h);simp only[List.set_cons_succ,List.sum_cons,List.getElem_cons_succ];omega
structure PutP (s:Cho) (id n:Bs):Prop where
 gt:∀k,eh (s.put id n) k=eh s.out k+if k=id then valI n else 0
 sum:iT (s.put id n)=iT s.out+valI n
 nums:(s.put id n).map (·.num)=s.out.map (·.num)∨((s.put id n).map (·.num)=s.out.map (·.num)++[id]∧∀p ∈ s.out,p.num≠id)
 den:∀p ∈ s.put id n,p ∈ s.out∨(p.num=id∧p.den=ofI (eh s.out id+valI n))
theorem putP(s:Cho)(id n:Bs):PutP s id n:=by
 cases h:aZ s.out id with
 |some i =>
  have hp:s.put id n=s.out.set i ⟨id,ofI (valI ((s.out[i]?.map (·.den)).getD [])+valI n)⟩:=by
   unfold Cho.put;unfold aZ at h;rw[h]
  obtain⟨hi,hn⟩:=ej h;have hg:eh s.out id=valI (s.out[i]'hi).den:=by unfold eh;rw[h];simp[hi]
  have he:valI ((s.out[i]?.map (·.den)).getD [])=valI (s.out[i]'hi).den:=by simp[hi]
  rw[he]at hp;refine⟨fun k=>?_,?_,.inl ?_,fun p hp2=>?_⟩
  ·rw[hp,CI h,valI_ofI];split
   ·rename_i e;rw[e,hg]
   ·omega
  ·unfold iT;rw[hp,List.map_set,uN _ _ _ (by simpa using hi),valI_ofI];simp only[List.getElem_map];omega
  ·rw[hp];exact sG h
  ·rw[hp]at hp2;rcases List.mem_or_eq_of_mem_set hp2 with h2|h2
   ·exact .inl h2
   ·refine .inr ?_;rw[h2,hg];exact⟨rfl,rfl⟩
 |none =>
  have hp:s.put id n=s.out++[⟨id,ofI (0+valI n)⟩]:=by
   unfold Cho.put;unfold aZ at h;rw[h]
  have hg:eh s.out id=0:=by unfold eh;rw[h]
  refine⟨fun k=>?_,?_,.inr ⟨?_,xF.1 h⟩,fun p hp2=>?_⟩
  ·rw[hp,zJ h,valI_ofI];split
   ·rename_i e;rw[e,hg]
   ·omega
  ·unfold iT;rw[hp];simp[valI_ofI]
  ·rw[hp];simp
  ·rw[hp]at hp2;rcases List.mem_append.1 hp2 with h2|h2
   ·exact .inl h2
   ·simp at h2;exact .inr ⟨by rw[h2],by rw[h2,hg,Int.zero_add]⟩
def free(o:List Fr)(x:LotV):Int:=valI x.q-eh o x.id
structure ChoOK (own:List LotV) (q:Int) (s:Cho):Prop where
 c:checkI s.rem=0
 nn:0<=valI s.rem
 sum:iT s.out+valI s.rem=q
 nod:(s.out.map (·.num)).Nodup
 den:∀p ∈ s.out,checkI p.den=0∧0<valI p.den
 mem:∀p ∈ s.out,∃x ∈ own,x.id=p.num
 le:∀x ∈ own,eh s.out x.id<=valI x.q
 pot:valI s.rem<=(own.map (free s.out)).sum
theorem pS(h:aZ o id=some i):∃hi:i<o.length,eh o id=valI (o[i]'hi).den:=by
 obtain⟨hi,_⟩:=ej h;refine⟨hi,?_⟩;unfold eh;rw[h];simp[hi]
theorem o8(h:∀p ∈ o,checkI p.den=0∧0<valI p.den)(id:Bs):0<=eh o id:=by
 cases hp:aZ o id with
 |none=>unfold eh;rw[hp];exact Int.le_refl 0
 |some i =>
  obtain⟨hi,e⟩:=pS hp;rw[e];exact Int.le_of_lt (h _ (List.getElem_mem hi)).2
theorem zK(s:Cho)(x:LotV):valI (s.left x.id x.q)=free s.out x:=by
 unfold Cho.left free eh aZ;split <;> rename_i h <;> (try rw[h])
 ·rw[valI_ofI]
 ·simp
theorem Bz(s:Cho)(x:LotV)(most:Bs):valI (s.n x.id x.q most)=min (min (valI most) (free s.out x)) (valI s.rem):=by
 unfold Cho.n;rw[oZ,oZ,zK]
theorem uO{n:Int}{own:List LotV}{f:LotV->Int}{x:LotV}(hnd:(own.map (·.id)).Nodup)(hx:x ∈ own):(own.map (fun y=>f y-if y.id=x.id then n else 0)).sum=(own.map f).sum-n:=by
 induction own with
 |nil=>simp at hx
 |cons y r ih =>
  simp only[List.map_cons,List.nodup_cons]at hnd;simp only[List.map_cons,List.sum_cons];rcases List.mem_cons.1 hx with rfl|hx
  ·have h0:r.map (fun z=>f z-if z.id=x.id then n else 0)=r.map f:=by
    apply List.map_congr_left;intro z hz;rw[if_neg (fun e=>hnd.1 (by rw[←e];exact List.mem_map_of_mem hz))];omega
   rw[h0,if_pos rfl];omega
  ·rw[ih hnd.2 hx,if_neg (fun e=>hnd.1 (by rw[e];exact List.mem_map_of_mem hx))];omega
theorem eM(z:Int):checkI (ofI z)=0:=di.2 (by rw[valI_ofI])
theorem pT{own:List LotV}{q:Int}{s:Cho}(h:ChoOK own q s)(hnd:(own.map (·.id)).Nodup){x:LotV}(hx:x ∈ own)(most:Bs):ChoOK own q (s.take x.id x.q most):=by
 unfold Cho.take;split
 ·exact h
 ·rename_i hn
  have hv:=Bz s x most;have hle:valI (s.n x.id x.q most)<=free s.out x:=by omega
  have hr:valI (s.n x.id x.q most)<=valI s.rem:=by omega
  generalize s.n x.id x.q most=n at *;have P:=putP s x.id n;have hg:=o8 h.den x.id;unfold free at hle;refine⟨eM _,by rw[valI_ofI];omega,by rw[P.sum,valI_ofI];have:=h.sum;omega,?_,fun p hp=>?_,fun p hp=>?_,fun y hy=>?_,?_⟩
  ·rcases P.nums with e | ⟨e,h1⟩
   ·rw[e];exact h.nod
   ·rw[e,List.nodup_append];refine⟨h.nod,by simp,?_⟩;intro a ha b hb;simp at hb;obtain⟨p,hp,rfl⟩:=List.mem_map.1 ha;rw[hb];exact h1 p hp
  ·rcases P.den p hp with h1 | ⟨_,h1⟩
   ·exact h.den p h1
   ·rw[h1,valI_ofI];exact⟨eM _,by omega⟩
  ·rcases P.den p hp with h1 | ⟨h1,_⟩
   ·exact h.mem p h1
   ·exact⟨x,hx,h1.symm⟩
  ·rw[P.gt];have hy2:=h.le y hy;split
   ·rename_i e
    have hyx:y=x:=by
     have key:∀l:List LotV,(l.map (·.id)).Nodup->x ∈ l->y ∈ l->y=x:=by
      intro l;induction l with
      |nil=>intro _ h;simp at h
      |cons z r ih =>
       intro hn h1 h2;simp only[List.map_cons,List.nodup_cons]at hn;rcases List.mem_cons.1 h1 with m1|m1 <;> rcases List.mem_cons.1 h2 with m2|m2
       ·rw[m1,m2]
       ·exact absurd (by rw[←m1,←e];exact List.mem_map_of_mem m2) hn.1
       ·exact absurd (by rw[←m2,e];exact List.mem_map_of_mem m1) hn.1
       ·exact ih hn.2 m1 m2
     exact key own hnd hx hy
    subst hyx;omega
   ·omega
  ·have e:own.map (free (s.put x.id n))=own.map (fun y=>free s.out y-if y.id=x.id then valI n else 0):=by
    apply List.map_congr_left;intro y _;unfold free;rw[P.gt];omega
   rw[e,uO hnd hx,valI_ofI];have:=h.pot;omega
theorem nU{own:List LotV}{q:Int}(hnd:(own.map (·.id)).Nodup):∀(ps:List Fr) {s:Cho},ChoOK own q s->ChoOK own q (ps.foldl (Cho.named own) s)
 |[],_,h=>h
 |p :: ps,s,h=>by
  rw[List.foldl_cons];apply nU hnd ps;unfold Cho.named;split
  ·rename_i x hx;exact pT h hnd (List.mem_of_find?_eq_some hx) _
  ·exact h
theorem sH{l:List LotV}{f:LotV->Int}(h:∀x ∈ l,0<=f x):0<=(l.map f).sum:=by
 induction l with
 |nil=>simp
 |cons x r ih=>simp only[List.map_cons,List.sum_cons];have:=h x (by simp);have:=ih (fun y hy=>h y (by simp[hy]));omega
theorem xG{own:List LotV}{q:Int}(hnd:(own.map (·.id)).Nodup):∀(l:List LotV) {s:Cho},ChoOK own q s->(∀x ∈ l,x ∈ own)->(l.map (·.id)).Nodup->valI s.rem<=(l.map (free s.out)).sum->ChoOK own q (s.all l)∧valI (s.all l).rem=0
 |[],s,h,_,_,hp=>⟨h,by have:=h.nn;simp at hp;show valI s.rem=0;omega⟩
 |x :: r,s,h,hl,hn,hp=>by
  have hx:=hl x (by simp);have k:=pT h hnd hx x.q;simp only[List.map_cons,List.nodup_cons,List.sum_cons]at hn hp;refine xG hnd r k (fun y hy=>hl y (by simp[hy])) hn.2 ?_;have hf:∀y ∈ r,0<=free s.out y:=fun y hy=>by unfold free;have:=h.le y (hl y (by simp[hy]));omega
  have hfx:free s.out x<=valI x.q:=by unfold free;have:=o8 h.den x.id;omega
  have h0:=sH hf;have hv:=Bz s x x.q;have hfx0:0<=free s.out x:=by unfold free;have:=h.le x hx;omega
  have hnn:=h.nn;show valI (s.take x.id x.q x.q).rem<=(r.map (free (s.take x.id x.q x.q).out)).sum;unfold Cho.take;split
  ·omega
  ·generalize s.n x.id x.q x.q=n at *
   have e:r.map (free (s.put x.id n))=r.map (free s.out):=by
    apply List.map_congr_left;intro y hy;unfold free;rw[(putP s x.id n).gt,if_neg (fun e=>hn.1 (by rw[←e];exact List.mem_map_of_mem hy))];omega
   show valI (ofI _)<=_;rw[e,valI_ofI];omega
theorem vU{l m:List LotV}(h:l.Perm m)(f:LotV->Int):(l.map f).sum=(m.map f).sum:=by
 induction h with
 |nil=>rfl
 |cons x _ ih=>simp only[List.map_cons,List.sum_cons,ih]
 |swap x y l=>simp only[List.map_cons,List.sum_cons];omega
 |trans _ _ h1 h2=>exact h1.trans h2
theorem kk(h:(ls.map (·.id)).Nodup)(ins:Bs):((ofL ls ins).map (·.id)).Nodup:=by
 unfold ofL;exact List.Nodup.sublist (List.Sublist.map _ List.filter_sublist) h
theorem zL{q:Bs}{m:Int}(hnd:(ls.map (·.id)).Nodup)(hq:checkI q=0)(hq0:0<valI q)(hh:valI q<=totQ ls ins)(hle:∀x ∈ ls,0<=valI x.q) :
  ChoOK (ofL ls ins) (valI q) (choose ls ins q m ps)∧valI (choose ls ins q m ps).rem=0:=by
 have hno:=kk hnd ins
 have hf0:(ofL ls ins).map (free [])=(ofL ls ins).map (fun x=>valI x.q):=by
  apply List.map_congr_left;intro x _;unfold free eh aZ;simp
 have h0:ChoOK (ofL ls ins) (valI q) ⟨[],q⟩:=by
  refine⟨hq,by show 0<=valI q;omega,by simp[iT],by simp,by simp,by simp,fun x hx=>?_,?_⟩
  ·have:eh [] x.id=0:=by unfold eh aZ;simp
   show eh [] x.id<=_;rw[this];exact hle x (List.mem_filter.1 hx).1
  ·show valI q<=((ofL ls ins).map (free [])).sum;rw[hf0];exact hh
 have h1:ChoOK (ofL ls ins) (valI q) (if m=5 then ps.foldl (Cho.named (ofL ls ins)) ⟨[],q⟩ else⟨[],q⟩):=by
  split
  ·exact nU hno ps h0
  ·exact h0
 have hp:=gn m (ofL ls ins);unfold choose;refine xG hno _ h1 (fun x hx=>hp.mem_iff.2 hx) ((hp.map _).nodup_iff.1 hno) ?_;rw[←vU hp];exact h1.pot
end
section
open Go.RowKit
attribute [local go_sem] size_bs toList_bs
theorem zM(hs hs':List LotV)(A A':Option Addr)(c c':Nat)(w:World)(hA:aG w A hs)(hA':aG w A' hs')(hn:hs.length<=4611686018427387904)(hn':hs'.length<=4611686018427387904) :
  Calls Tryz.prog 20 #[.slice A hs.length c,.slice A' hs'.length c'] w (EU (hs=hs') w):=by
 have HA:=qh hA;have HA':=qh hA';clear hA hA';by_cases hl:hs.length=hs'.length
 ·have HLL:=qh hl;have hbl:((hs.length:Int) != (hs'.length:Int))=false:=by rw[bne_eq_false_iff_eq];omega
  clear hl;go_enter Tryz.func20,Tryz.ntmps20;go_wp2_with fail;go_loopw [5] (fun i wr=>∃k:Nat,k<=hs.length∧i = .int .i64 k∧(∀(j:Nat) (h1:j<hs.length) (h2:j<hs'.length),j<k->hs[j]=hs'[j])∧Ext w wr) (fun i _=>hs.length-(intOf i).toNat)
  case atStart=>exact⟨0,by omega,rfl,fun j _ _ hj=>absurd hj (by omega),Ext.refl _⟩
  case round =>
   obtain⟨k,hk,rfl,hz,hx⟩:=hrel;have HZ:=qh hz;have HX:=qh hx;clear hz hx;by_cases hlt:k<hs.length
   ·have hlt':k<hs'.length:=by have:=HLL.out;omega
    obtain⟨b,o,rfl,hb,hc1,hc2,hc3,hc4,hc5,hc6,hc7⟩:=(HA.out.ext HX.out).at_ hlt;obtain⟨b',o',rfl,hb',hd1,hd2,hd3,hd4,hd5,hd6,hd7⟩:=(HA'.out.ext HX.out).at_ hlt';by_cases he:hs[k]=hs'[k]
    ·have HST:=qh (CG HZ.out hlt hlt' he);rw[←he]at hd1 hd2 hd3 hd4 hd5 hd6 hd7;generalize (hs[k]'hlt)=h at *;clear he;go_wp2_with fail;go_quiet (fail);go_wp2_with fail;go_roundw
     case rel=>exact⟨k+1,by omega,by go_num,HST.out,HX.out.drewN _⟩
     case measure=>simp[intOf];omega
    ·have HNE:Hid (¬ hs=hs'):=qh (fun e=>he (by subst e;rfl));have HNC:Hid (¬ ((hs[k]'hlt).id=(hs'[k]'hlt').id∧(hs[k]'hlt).ins=(hs'[k]'hlt').ins∧(hs[k]'hlt).acq=(hs'[k]'hlt').acq∧(hs[k]'hlt).opn=(hs'[k]'hlt').opn∧(hs[k]'hlt).q=(hs'[k]'hlt').q∧(hs[k]'hlt).c=(hs'[k]'hlt').c∧(hs[k]'hlt).u=(hs'[k]'hlt').u)):=qh (fun hh=>he (by obtain⟨a0,a1,a2,a3,a4,a5,a6⟩:=hh;exact EV a0 a1 a2 a3 a4 a5 a6));generalize (hs[k]'hlt)=h at *;generalize (hs'[k]'hlt')=h' at *;clear he;by_cases e0:h.id=h'.id;rotate_left
     focus have q:=oY e0;clear e0
     rotate_left
     focus
      rw[←e0]at hd1;by_cases e1:h.ins=h'.ins;rotate_left
      ·have q:=oY e1;clear e1;go_wp2_with fail;go_quiet (fail);go_wp2_with fail;go_ret;exact⟨HX.out.drewN _,.inr ⟨HNE.out,rfl⟩⟩
      rw[←e1]at hd2;by_cases e2:h.acq=h'.acq;rotate_left
      ·have q:=xC e2;clear e2;go_wp2_with fail;go_quiet (fail);go_wp2_with fail;go_ret;exact⟨HX.out.drewN _,.inr ⟨HNE.out,rfl⟩⟩
      rw[←e2]at hd3;by_cases e3:h.opn=h'.opn;rotate_left
      ·have q:=xC e3;clear e3;go_wp2_with fail;go_quiet (fail);go_wp2_with fail;go_ret;exact⟨HX.out.drewN _,.inr ⟨HNE.out,rfl⟩⟩
      rw[←e3]at hd4;by_cases e4:h.q=h'.q;rotate_left
      ·have q:=oY e4;clear e4;go_wp2_with fail;go_quiet (fail);go_wp2_with fail;go_ret;exact⟨HX.out.drewN _,.inr ⟨HNE.out,rfl⟩⟩
      rw[←e4]at hd5;by_cases e5:h.c=h'.c;rotate_left
      ·have q:=oY e5;clear e5;go_wp2_with fail;go_quiet (fail);go_wp2_with fail;go_ret;exact⟨HX.out.drewN _,.inr ⟨HNE.out,rfl⟩⟩
      rw[←e5]at hd6;have e6:¬ h.u=h'.u:=fun e=>HNC.out ⟨e0,e1,e2,e3,e4,e5,e⟩
      have q:=oY e6;clear HNC e0 e1 e2 e3 e4 e5 e6
     all_goals
      go_wp2_with fail;go_quiet (fail);go_wp2_with fail;go_ret;exact⟨HX.out.drewN _,.inr ⟨HNE.out,rfl⟩⟩
   ·have HEQ:Hid (hs=hs'):=qh (CE HLL.out (fun j h1 h2=>HZ.out j h1 h2 (by omega)));go_wp2_with fail;go_ret;exact⟨HX.out,.inl ⟨HEQ.out,rfl⟩⟩
 ·have HNE:Hid (¬ hs=hs'):=qh (fun e=>hl (by rw[e]));have hbl:((hs.length:Int) != (hs'.length:Int))=true:=by rw[bne_iff_ne];omega
  clear hl;go_enter Tryz.func20,Tryz.ntmps20;go_wp2_with fail;go_ret;exact⟨Ext.refl _,.inr ⟨HNE.out,rfl⟩⟩
theorem pU(hs hs':List LotV)(A A':Option Addr)(c c':Nat)(w:World)(hA:aG w A hs)(hA':aG w A' hs')(hn:hs.length<=4611686018427387904)(hn':hs'.length<=4611686018427387904) :
  Calls Tryz.prog 20 #[.slice A hs.length c,.slice A' hs'.length c'] w fun e w'=>e = .returned (.bool (decide (hs=hs')))∧Ext w w':=by
 refine(zM hs hs' A A' c c' w hA hA' hn hn').mono ?_;rintro e w'⟨hx,⟨h,rfl⟩ | ⟨h,rfl⟩⟩
 ·exact⟨by simp[h],hx⟩
 ·exact⟨by simp[h],hx⟩
def i8(a:Bs):Bool:=decide (13<(a.length:Int))
def fj(x:LotV):Bool:=i8 x.q || i8 x.c || i8 x.u || decide (40<(x.id.length:Int)) || decide (40<(x.ins.length:Int))
theorem tZ(x:LotV)(w:World):Calls Tryz.prog 121 #[lv x] w fun e w'=>e = .returned (.bool (fj x))∧Ext w w':=by
 have HX:Hid (Ext w (w.alloc (.cells (lc x) 62))):=qh (Ext.new _ _);have hb:=Blk.new w 62 (lc x);obtain⟨c0,c1,c2,c3,c4,c5,c6⟩:=aj hb (Ext.refl _);have H1:=qh (pR x.q (w.alloc (.cells (lc x) 62)));have H2:=qh (pR x.c (w.alloc (.cells (lc x) 62)));have H3:=qh (pR x.u (w.alloc (.cells (lc x) 62)));rw[show decide (13<(x.q.length:Int))=i8 x.q from rfl]at H1;rw[show decide (13<(x.c.length:Int))=i8 x.c from rfl]at H2;rw[show decide (13<(x.u.length:Int))=i8 x.u from rfl]at H3;clear hb;unfold fj
 cases e1:i8 x.q;rotate_left
 ·rw[e1]at H1;clear e1;go_enter Tryz.func121,Tryz.ntmps121;go_wp2_with fail;refine(Hid.out H1).mono ?_;rintro e w1⟨h1,h2⟩;subst h1;subst h2;go_wp2_with fail;go_ret;exact⟨rfl,HX.out⟩
 rw[e1]at H1;clear e1
 cases e2:i8 x.c;rotate_left
 ·rw[e2]at H2;clear e2;go_enter Tryz.func121,Tryz.ntmps121;go_wp2_with fail;refine(Hid.out H1).mono ?_;rintro e w1⟨h1,h2⟩;subst h1;subst h2;go_wp2_with fail;refine(Hid.out H2).mono ?_;rintro e w1⟨h1,h2⟩;subst h1;subst h2;go_wp2_with fail;go_ret;exact⟨rfl,HX.out⟩
 rw[e2]at H2;clear e2
 cases e3:i8 x.u;rotate_left
 focus rw[e3]at H3;clear e3
 rotate_left
 focus
  rw[e3]at H3;clear e3
  cases e4:decide (40<(x.id.length:Int));rotate_left
  ·go_enter Tryz.func121,Tryz.ntmps121;go_wp2_with fail;refine(Hid.out H1).mono ?_;rintro e w1⟨h1,h2⟩;subst h1;subst h2;go_wp2_with fail;refine(Hid.out H2).mono ?_;rintro e w1⟨h1,h2⟩;subst h1;subst h2;go_wp2_with fail;refine(Hid.out H3).mono ?_;rintro e w1⟨h1,h2⟩;subst h1;subst h2;go_wp2_with fail;go_ret;exact⟨rfl,HX.out⟩
  cases e5:decide (40<(x.ins.length:Int));rotate_left
  ·go_enter Tryz.func121,Tryz.ntmps121;go_wp2_with fail;refine(Hid.out H1).mono ?_;rintro e w1⟨h1,h2⟩;subst h1;subst h2;go_wp2_with fail;refine(Hid.out H2).mono ?_;rintro e w1⟨h1,h2⟩;subst h1;subst h2;go_wp2_with fail;refine(Hid.out H3).mono ?_;rintro e w1⟨h1,h2⟩;subst h1;subst h2;go_wp2_with fail;go_ret;exact⟨rfl,HX.out⟩
 all_goals
  go_enter Tryz.func121,Tryz.ntmps121;go_wp2_with fail;refine(Hid.out H1).mono ?_;rintro e w1⟨h1,h2⟩;subst h1;subst h2;go_wp2_with fail;refine(Hid.out H2).mono ?_;rintro e w1⟨h1,h2⟩;subst h1;subst h2;go_wp2_with fail;refine(Hid.out H3).mono ?_;rintro e w1⟨h1,h2⟩;subst h1;subst h2;go_wp2_with fail;go_ret;exact⟨rfl,HX.out⟩
end
end Go.Proofs.YtaegjkllenlfpaaGreatDoor
