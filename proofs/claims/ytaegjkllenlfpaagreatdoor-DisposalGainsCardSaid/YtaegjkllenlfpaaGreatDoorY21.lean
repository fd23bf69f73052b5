/- The seat's texts, part Y21. -/
import Derived.Test.YtaegjkllenlfpaaGreatDoorY20
set_option maxRecDepth 100000
set_option maxHeartbeats 8000000
namespace Go.Proofs.YtaegjkllenlfpaaGreatDoor
open Tryz
variable {w:World}{a' b':LotV}{o ps:List Fr}{id d ins:Bs}{i:Nat}{l:List LotV}
section
open Go.RowKit
attribute [local go_sem] size_bs toList_bs
def fP(ls:List LotV)(ins:Bs):List Bs:=(ofL ls ins).map (·.q)
def eI(ls:List LotV)(ins:Bs):List Bs:=(bZ (totC ls ins) ((fP ls ins).map valI)).map ofI
def cH(ls:List LotV)(ins:Bs):List LotV:=if(ofL ls ins).length=0 then ls else gv (fun n x=>{ x with c:=(eI ls ins).getD n [] }) ins 0 ls
theorem jn(ls:List LotV)(ins:Bs):(fP ls ins).length=(ofL ls ins).length:=by simp[fP]
theorem rP(ls:List LotV)(ins:Bs):(eI ls ins).length=(ofL ls ins).length:=by simp[eI,mv,jn]
theorem nC(ls:List LotV)(ins:Bs):(cH ls ins).length=ls.length:=by
 unfold cH;split
 ·rfl
 ·exact oh _ _
theorem LH{a b:LotV}(h0:a.id=b.id)(h1:a.ins=b.ins)(h2:a.acq=b.acq)(h3:a.opn=b.opn)(h4:a.q=b.q)(h5:a.c=b.c)(h6:a.u=b.u):a=b:=by cases a;cases b;simp_all
instance:DecidableEq LotV:=fun a b=>by
 by_cases h:(a.id=b.id∧a.ins=b.ins∧a.acq=b.acq∧a.opn=b.opn∧a.q=b.q∧a.c=b.c∧a.u=b.u)
 ·exact isTrue (by obtain⟨h0,h1,h2,h3,h4,h5,h6⟩:=h;exact LH h0 h1 h2 h3 h4 h5 h6)
 ·exact isFalse (by rintro rfl;exact h ⟨rfl,rfl,rfl,rfl,rfl,rfl,rfl⟩)
theorem Cq(seen:List Bs)(ls:List LotV)(h:goAll seen ls=0):∀x ∈ ls,checkL x=0:=by
 induction ls generalizing seen with
 |nil=>intro x hx;cases hx
 |cons y r ih =>
  unfold goAll at h;split at h
  ·rename_i hc;exact absurd h hc
  ·rename_i hc
   split at h
   ·cases h
   ·intro x hx;rcases MS.1 hx with rfl|hx
    ·exact Rp.1 hc
    ·exact ih _ h x hx
theorem av{ls:List LotV}(h:checkAllL ls=0):ls.length<=1000∧∀x ∈ ls,checkL x=0:=by
 unfold checkAllL at h;split at h
 ·cases h
 ·exact⟨by omega,Cq _ _ h⟩
theorem bg{x:LotV}(h:checkL x=0):checkI x.q=0∧checkI x.c=0∧0<valI x.q∧0<=valI x.c∧(x.u=[]∨x.u=x.q):=by
 unfold checkL at h;split at h
 ·cases h
 split at h
 ·cases h
 split at h
 ·cases h
 split at h
 ·cases h
 split at h
 ·cases h
 rename_i h4 h5
 simp only[not_or,Rp]at h4 h5;refine⟨h4.1,h4.2.1,by omega,by omega,?_⟩;by_cases hu:x.u=[]
 ·exact .inl hu
 ·exact .inr (Rp.1 (fun hq=>h5.2.2 ⟨hu,hq⟩))
theorem wR(l:List Int)(h:∀x ∈ l,0<x)(hl:0<l.length):0<l.sum:=by
 cases l with
 |nil=>simp at hl
 |cons a r =>
  rw[Nz];have:=h a (by simp);have:=eU r (fun x hx=>Oj (h x (by simp[hx])));omega
theorem KM{ls:List LotV}(ins:Bs)(hs:∀x ∈ ls,SmallL x)(h:checkAllL ls=0)(hl:0<(ofL ls ins).length):WtOK (fP ls ins):=by
 obtain⟨h1,h2⟩:=av h
 have hm:∀x ∈ fP ls ins,∃y ∈ ls,y.q=x:=by
  intro x hx;obtain⟨y,hy,rfl⟩:=MH.1 hx;exact⟨y,(Og.1 hy).1,rfl⟩
 have hle:(ofL ls ins).length<=ls.length:=M8 _ _;refine⟨by rw[jn];exact hl,by rw[jn];omega,?_,?_,?_,?_⟩
 ·intro x hx;obtain⟨y,hy,rfl⟩:=hm x hx;have:=(hs y hy).2.2.1;omega
 ·intro x hx;obtain⟨y,hy,rfl⟩:=hm x hx;exact(bg (h2 y hy)).1
 ·intro x hx;obtain⟨y,hy,rfl⟩:=hm x hx;exact Oj (bg (h2 y hy)).2.2.1
 ·refine wR _ ?_ (by rw[Nb,jn];exact hl);intro v hv;obtain⟨x,hx,rfl⟩:=MH.1 hv;obtain⟨y,hy,rfl⟩:=hm x hx;exact(bg (h2 y hy)).2.2.1
theorem ix(a:Bs)(w:World):Calls prog 110 #[.string (bs a)] w fun e w'=>e = .returned (.bool (decide (13<(a.length:Int))))∧w'=w:=by
 go_enter func110,ntmps110;go_wp2_with fail;go_ret;exact⟨rfl,rfl⟩
end
section
open Go.RowKit Go.Shelf
attribute [local go_sem] size_bs toList_bs
def aP:LotV:=⟨[],[],0,0,[],[],[]⟩
def eF(x:LotV)(q:Bs):LotV:={ x with q:=q,c:=ofI (dt (valI x.c) (valI q) (valI x.q)),u:=if x.u=[] then [] else q }
def cR(x:LotV)(q:Bs):LotV:={ x with q:=ofI (valI x.q-valI q),c:=ofI (valI x.c-dt (valI x.c) (valI q) (valI x.q)),u:=if x.u=[] then [] else ofI (valI x.q-valI q) }
def ib(x:LotV)(q:Bs):LotV × LotV × Int :=
 if checkL x≠0∨checkI q≠0 then(aP,aP,1) else if valI q<=0∨valI x.q<=valI q then(aP,aP,2) else(eF x q,cR x q,0)
theorem ph(vs cs:List Value)(h:cs.length=vs.length):lsplice cs 0 vs=vs:=by
 unfold lsplice;rw[PJ,ML,Nt (by omega),N0]
theorem dm{g:Nat}{x:LotV}(h:Blk w g 62 (lc x))(y:LotV):Blk (w.setCells g 0 (lotCells y)) g 62 (lc y):=by
 have:=Blk.sets (lotCells y) 0 w (lotCells x) h (by rw[aM,aM];omega);rw[ph _ _ (by rw[aM,aM])]at this
 exact this
theorem eP{fn:Func}{a b c:Tmp}(h:fn.results=#[.cell a 62,.cell b 62,.tmp c])(tmps:Array Value)(w:World)(g k:Nat)(x y:LotV)(z:Value)(ha:tmps.getD a undef = .pointer (some ⟨g,0,none⟩))(hb:tmps.getD b undef = .pointer (some ⟨k,0,none⟩))(hz:tmps.getD c undef=z)(hx:Blk w g 62 (lc x))(hy:Blk w k 62 (lc y)) :
  (results fn tmps).run prog w = .ok (.tuple #[lv x,lv y,z]) w:=by
 obtain⟨p0,p1,p2,p3,p4,p5,p6⟩:=ap hx (iD _);obtain⟨q0,q1,q2,q3,q4,q5,q6⟩:=ap hy (iD _);unfold results;rw[h];simp only[Ob,OG,OO,ha,hb,hz];go_simp
structure CutAt (W0 W:World) (g:Nat) (x:LotV):Prop where
 bx:Blk W g 62 (lc x)
 ba:Blk W (g+1) 62 (lc aP)
 bb:Blk W (g+2) 62 (lc aP)
 le:W0.heap.size<=g
 ext:Ext W0 W
theorem CutAt.on{W0 W W':World}{g:Nat}{x:LotV}(h:CutAt W0 W g x)(hx:Ext W W'):CutAt W0 W' g x:=⟨h.bx.ext hx,h.ba.ext hx,h.bb.ext hx,h.le,h.ext.trans hx⟩
theorem zL(w:World)(x:LotV):CutAt w (((w.alloc (.cells (lc x) 62)).alloc (.cells (lc aP) 62)).alloc (.cells (lc aP) 62)) w.heap.size x:=by
 have e1:(w.alloc (.cells (lc x) 62)).heap.size=w.heap.size+1:=SA ..;have e2:((w.alloc (.cells (lc x) 62)).alloc (.cells (lc aP) 62)).heap.size=w.heap.size+2:=(SA ..).trans (M6 (·+1) e1);refine⟨((ID _ _ _).ext (Id _ _)).ext (Id _ _),?_,?_,Mn _,((Id _ _).trans (Id _ _)).trans (Id _ _)⟩
 ·have:=(ID (w.alloc (.cells (lc x) 62)) 62 (lc aP)).ext (Id _ (.cells (lc aP) 62));rwa[e1]at this
 ·have:=ID ((w.alloc (.cells (lc x) 62)).alloc (.cells (lc aP) 62)) 62 (lc aP);rwa[e2]at this
def me(w:World)(x:LotV)(p2 p4 p5:Value)(wx:World):Prop:=∃g,p2 = .pointer (some ⟨g,0,none⟩)∧p4 = .pointer (some ⟨g+1,0,none⟩)∧p5 = .pointer (some ⟨g+2,0,none⟩)∧CutAt w wx g x
def Il(W:World)(x:LotV)(p7 p8:Value)(wx:World):Prop:=∃P R,p7 = .pointer (some ⟨P,0,none⟩)∧p8 = .pointer (some ⟨R,0,none⟩)∧P≠R∧W.heap.size<=P∧W.heap.size<=R∧Blk wx P 62 (lc x)∧Blk wx R 62 (lc x)∧Ext W wx
structure HalvesAt (W0 W:World) (g P R:Nat) (x a b:LotV):Prop where
 cut:CutAt W0 W g x
 ne:P≠R
 lp:g+3<=P
 lr:g+3<=R
 bp:Blk W P 62 (lc a)
 br:Blk W R 62 (lc b)
section
variable {W0 W W':World} {g P R:Nat} {x a b:LotV}
theorem HalvesAt.on(h:HalvesAt W0 W g P R x a b)(hx:Ext W W'):HalvesAt W0 W' g P R x a b:=⟨h.cut.on hx,h.ne,h.lp,h.lr,h.bp.ext hx,h.br.ext hx⟩
theorem HalvesAt.store(h:HalvesAt W0 W g P R x a b)(n:Nat)(u v:Value)(ha:(lc a).setIfInBounds n u=lc a')(hb:(lc b).setIfInBounds n v=lc b'):HalvesAt W0 ((W.setCell ⟨P,n,none⟩ u).setCell ⟨R,n,none⟩ v) g P R x a' b':=by
 have h1:=h.lp;have h2:=h.lr;have h3:=h.ne;have h4:=h.cut.le;refine⟨⟨(h.cut.bx.far (p:=⟨P,n,none⟩) (by show g≠P;omega) u).far (p:=⟨R,n,none⟩) (by show g≠R;omega) v,(h.cut.ba.far (p:=⟨P,n,none⟩) (by show g+1≠P;omega) u).far (p:=⟨R,n,none⟩) (by show g+1≠R;omega) v,(h.cut.bb.far (p:=⟨P,n,none⟩) (by show g+2≠P;omega) u).far (p:=⟨R,n,none⟩) (by show g+2≠R;omega) v,h.cut.le,(h.cut.ext.setCell (p:=⟨P,n,none⟩) (by show W0.heap.size<=P;omega) u).setCell (p:=⟨R,n,none⟩) (by show W0.heap.size<=R;omega) v⟩,h3,h1,h2,?_,?_⟩
 ·have:=(h.bp.set_ n u).far (p:=⟨R,n,none⟩) h3 v;rwa[ha]at this
 ·have:=(h.br.far (p:=⟨P,n,none⟩) (Ol h3) u).set_ n v;rwa[hb]at this
theorem vT(h:HalvesAt W0 W g P R x a b):HalvesAt W0 W.drew g P R x a b:=h.on (iD _).drew
end
theorem Im(x:LotV)(q:Bs)(hs:SmallL x)(hq:q.length<=5000):bJ 156 #[lv x,.string (bs q)] (.tuple #[lv (ib x q).1,lv (ib x q).2.1,.int .i64 (ib x q).2.2]):=by
 intro w hE;have s3:=hs.2.2.1;have s4:=hs.2.2.2.1;have HE:=qh hE;have HN:=qh (zL w x);have HX:Hid (Ext w w):=qh (iD w);have KL:=qh (tK x hs);have KQ:=qh (dq q (by omega));have C0:=qh (gK q (by omega));have C1:=qh (cmpP q x.q (by omega) (by omega));have S1:=qh (lC x.q q (by omega) (by omega));by_cases h1:checkL x=0;rotate_left
 ·have he:ib x q=(aP,aP,1):=by unfold ib;rw[Mq (.inl h1)]
  rw[he];have g1:(checkL x != 0)=true:=by rw[Nc];exact h1
  generalize checkL x=ck at *;go_enter func156,ntmps156;go_upto_region 0 with fail;go_cut [2,4,5] (fun p2 p4 p5 wx=>me w x p2 p4 p5 wx)
  case first =>
   go_wp2_with fail;go_meet
   exact⟨_,rfl,rfl,rfl,HN.out⟩
  obtain⟨g,rfl,rfl,rfl,hcu⟩:=hcut;replace HN:=qh hcu;replace HX:=qh hcu.ext;clear hcu;obtain⟨p0,p1,p2,p3,p4,p5,p6⟩:=ap HN.out.bx (iD _);go_wp2_with fail;refine(KL.out _ (HE.out.ext HX.out)).mono ?_;rintro e wv⟨rfl,hx1⟩;replace HN:=qh (HN.out.on hx1);replace HX:=HX.qt hx1;clear hx1;obtain⟨p0,p1,p2,p3,p4,p5,p6⟩:=ap HN.out.bx (iD _);obtain⟨a0,a1,a2,a3,a4,a5,a6⟩:=ap HN.out.ba (iD _);obtain⟨b0,b1,b2,b3,b4,b5,b6⟩:=ap HN.out.bb (iD _);have fa:=fun k=>HN.out.ba.frozen k
  have fb:=fun k=>HN.out.bb.frozen k
  go_wp2_with fail;refine MI (eP rfl _ _ (g+1) (g+2) (aP) (aP) (.int .i64 1) rfl rfl rfl (Mg (dm HN.out.ba (aP)) (by omega) (lotCells (aP)) 0) (dm (Mg HN.out.bb (by omega) (lotCells (aP)) 0) (aP))) rfl ?_;exact⟨rfl,ext_sets (lotCells (aP)) 0 _ () (ext_sets (lotCells (aP)) 0 _ () HX.out (by have:=HN.out.le;omega)) (by have:=HN.out.le;omega)⟩
 rw[h1]at KL;by_cases h2:checkI q=0;rotate_left
 ·have he:ib x q=(aP,aP,1):=by unfold ib;rw[Mq (.inr h2)]
  rw[he];have g1:(checkI q != 0)=true:=by rw[Nc];exact h2
  generalize checkI q=ck at *;go_enter func156,ntmps156;go_upto_region 0 with fail;go_cut [2,4,5] (fun p2 p4 p5 wx=>me w x p2 p4 p5 wx)
  case first =>
   go_wp2_with fail;go_meet
   exact⟨_,rfl,rfl,rfl,HN.out⟩
  obtain⟨g,rfl,rfl,rfl,hcu⟩:=hcut;replace HN:=qh hcu;replace HX:=qh hcu.ext;clear hcu;obtain⟨p0,p1,p2,p3,p4,p5,p6⟩:=ap HN.out.bx (iD _);go_wp2_with fail;refine(KL.out _ (HE.out.ext HX.out)).mono ?_;rintro e wv⟨rfl,hx1⟩;replace HN:=qh (HN.out.on hx1);replace HX:=HX.qt hx1;clear hx1;obtain⟨p0,p1,p2,p3,p4,p5,p6⟩:=ap HN.out.bx (iD _);go_wp2_with fail;refine(KQ.out _ (HE.out.ext HX.out)).mono ?_;rintro e wv⟨rfl,hx1⟩;replace HN:=qh (HN.out.on hx1);replace HX:=HX.qt hx1;clear hx1;obtain⟨p0,p1,p2,p3,p4,p5,p6⟩:=ap HN.out.bx (iD _);obtain⟨a0,a1,a2,a3,a4,a5,a6⟩:=ap HN.out.ba (iD _);obtain⟨b0,b1,b2,b3,b4,b5,b6⟩:=ap HN.out.bb (iD _);have fa:=fun k=>HN.out.ba.frozen k
  have fb:=fun k=>HN.out.bb.frozen k
  go_wp2_with fail;refine MI (eP rfl _ _ (g+1) (g+2) (aP) (aP) (.int .i64 1) rfl rfl rfl (Mg (dm HN.out.ba (aP)) (by omega) (lotCells (aP)) 0) (dm (Mg HN.out.bb (by omega) (lotCells (aP)) 0) (aP))) rfl ?_;exact⟨rfl,ext_sets (lotCells (aP)) 0 _ () (ext_sets (lotCells (aP)) 0 _ () HX.out (by have:=HN.out.le;omega)) (by have:=HN.out.le;omega)⟩
 rw[h2]at KQ;by_cases h3:valI q<=0
 ·have he:ib x q=(aP,aP,2):=by unfold ib;rw[Mj (by omega),Mq (.inl h3)]
  rw[he];have g2:decide (cmpI (valI q) 0<=0)=true:=by rw[MA];have:=bA (x:=valI q) (y:=0);omega
  clear he h1 h2 h3 s3 s4 hs hq;generalize cmpI (valI q) 0=k1 at *;go_enter func156,ntmps156;go_upto_region 0 with fail;go_cut [2,4,5] (fun p2 p4 p5 wx=>me w x p2 p4 p5 wx)
  case first =>
   go_wp2_with fail;go_meet
   exact⟨_,rfl,rfl,rfl,HN.out⟩
  obtain⟨g,rfl,rfl,rfl,hcu⟩:=hcut;replace HN:=qh hcu;replace HX:=qh hcu.ext;clear hcu;obtain⟨p0,p1,p2,p3,p4,p5,p6⟩:=ap HN.out.bx (iD _);go_wp2_with fail;refine(KL.out _ (HE.out.ext HX.out)).mono ?_;rintro e wv⟨rfl,hx1⟩;replace HN:=qh (HN.out.on hx1);replace HX:=HX.qt hx1;clear hx1;obtain⟨p0,p1,p2,p3,p4,p5,p6⟩:=ap HN.out.bx (iD _);go_wp2_with fail;refine(KQ.out _ (HE.out.ext HX.out)).mono ?_;rintro e wv⟨rfl,hx1⟩;replace HN:=qh (HN.out.on hx1);replace HX:=HX.qt hx1;clear hx1;obtain⟨p0,p1,p2,p3,p4,p5,p6⟩:=ap HN.out.bx (iD _);go_wp2_with fail;refine(C0.out _ (HE.out.ext HX.out)).mono ?_;rintro e wv⟨rfl,hx1⟩;replace HN:=qh (HN.out.on hx1);replace HX:=HX.qt hx1;clear hx1;obtain⟨p0,p1,p2,p3,p4,p5,p6⟩:=ap HN.out.bx (iD _);obtain⟨a0,a1,a2,a3,a4,a5,a6⟩:=ap HN.out.ba (iD _);obtain⟨b0,b1,b2,b3,b4,b5,b6⟩:=ap HN.out.bb (iD _);have fa:=fun k=>HN.out.ba.frozen k
  have fb:=fun k=>HN.out.bb.frozen k
  go_wp2_with fail;refine MI (eP rfl _ _ (g+1) (g+2) (aP) (aP) (.int .i64 2) rfl rfl rfl (Mg (dm HN.out.ba (aP)) (by omega) (lotCells (aP)) 0) (dm (Mg HN.out.bb (by omega) (lotCells (aP)) 0) (aP))) rfl ?_;exact⟨rfl,ext_sets (lotCells (aP)) 0 _ () (ext_sets (lotCells (aP)) 0 _ () HX.out (by have:=HN.out.le;omega)) (by have:=HN.out.le;omega)⟩
 have g2:decide (cmpI (valI q) 0<=0)=false:=by rw[Mi];have:=bA (x:=valI q) (y:=0);omega
 by_cases h4:valI x.q<=valI q
 ·have he:ib x q=(aP,aP,2):=by unfold ib;rw[Mj (by omega),Mq (.inr h4)]
  rw[he];have g3:decide (0<=cmpI (valI q) (valI x.q))=true:=by rw[MA];have:=cX (x:=valI q) (y:=valI x.q);omega
  clear he h1 h2 h3 h4 s3 s4 hs hq;generalize cmpI (valI q) 0=k1 at *;generalize cmpI (valI q) (valI x.q)=k2 at *;go_enter func156,ntmps156;go_upto_region 0 with fail;go_cut [2,4,5] (fun p2 p4 p5 wx=>me w x p2 p4 p5 wx)
  case first =>
   go_wp2_with fail;go_meet
   exact⟨_,rfl,rfl,rfl,HN.out⟩
  obtain⟨g,rfl,rfl,rfl,hcu⟩:=hcut;replace HN:=qh hcu;replace HX:=qh hcu.ext;clear hcu;obtain⟨p0,p1,p2,p3,p4,p5,p6⟩:=ap HN.out.bx (iD _);go_wp2_with fail;refine(KL.out _ (HE.out.ext HX.out)).mono ?_;rintro e wv⟨rfl,hx1⟩;replace HN:=qh (HN.out.on hx1);replace HX:=HX.qt hx1;clear hx1;obtain⟨p0,p1,p2,p3,p4,p5,p6⟩:=ap HN.out.bx (iD _);go_wp2_with fail;refine(KQ.out _ (HE.out.ext HX.out)).mono ?_;rintro e wv⟨rfl,hx1⟩;replace HN:=qh (HN.out.on hx1);replace HX:=HX.qt hx1;clear hx1;obtain⟨p0,p1,p2,p3,p4,p5,p6⟩:=ap HN.out.bx (iD _);go_wp2_with fail;refine(C0.out _ (HE.out.ext HX.out)).mono ?_;rintro e wv⟨rfl,hx1⟩;replace HN:=qh (HN.out.on hx1);replace HX:=HX.qt hx1;clear hx1;obtain⟨p0,p1,p2,p3,p4,p5,p6⟩:=ap HN.out.bx (iD _);go_wp2_with fail;refine(C1.out _ (HE.out.ext HX.out)).mono ?_;rintro e wv⟨rfl,hx1⟩;replace HN:=qh (HN.out.on hx1);replace HX:=HX.qt hx1;clear hx1;obtain⟨p0,p1,p2,p3,p4,p5,p6⟩:=ap HN.out.bx (iD _);obtain⟨a0,a1,a2,a3,a4,a5,a6⟩:=ap HN.out.ba (iD _);obtain⟨b0,b1,b2,b3,b4,b5,b6⟩:=ap HN.out.bb (iD _);have fa:=fun k=>HN.out.ba.frozen k
  have fb:=fun k=>HN.out.bb.frozen k
  go_wp2_with fail;refine MI (eP rfl _ _ (g+1) (g+2) (aP) (aP) (.int .i64 2) rfl rfl rfl (Mg (dm HN.out.ba (aP)) (by omega) (lotCells (aP)) 0) (dm (Mg HN.out.bb (by omega) (lotCells (aP)) 0) (aP))) rfl ?_;exact⟨rfl,ext_sets (lotCells (aP)) 0 _ () (ext_sets (lotCells (aP)) 0 _ () HX.out (by have:=HN.out.le;omega)) (by have:=HN.out.le;omega)⟩
 have g3:decide (0<=cmpI (valI q) (valI x.q))=false:=by rw[Mi];have:=cX (x:=valI q) (y:=valI x.q);omega
 have he:ib x q=(eF x q,cR x q,0):=by unfold ib;rw[Mj (by omega),Mj (by omega)]
 rw[he];obtain⟨o1,o2,o3,o4,o5⟩:=bg h1;have SH:=qh (BQ x.c q x.q (by omega) (by omega) (by omega) o2 h2 o1 o3 (by omega) (by omega));have hA:eF x q={ x with q:=q,c:=ofI (dt (valI x.c) (valI q) (valI x.q)),u:=if x.u=[] then [] else q }:=rfl;have hB:cR x q={ x with q:=ofI (valI x.q-valI q),c:=ofI (valI x.c-dt (valI x.c) (valI q) (valI x.q)),u:=if x.u=[] then [] else ofI (valI x.q-valI q) }:=rfl;rw[hA,hB];have HU1:Hid (x.u=[]->[]=(if x.u=[] then [] else q)∧[]=(if x.u=[] then [] else ofI (valI x.q-valI q))):=qh (fun h=>by rw[Mq h,Mq h];exact⟨rfl,rfl⟩);have HU2:Hid (x.u≠[]->q=(if x.u=[] then [] else q)∧ofI (valI x.q-valI q)=(if x.u=[] then [] else ofI (valI x.q-valI q))):=qh (fun h=>by rw[Mj h,Mj h];exact⟨rfl,rfl⟩);generalize (if x.u=[] then [] else q)=ua at *;generalize (if x.u=[] then [] else ofI (valI x.q-valI q))=ub at *;clear hA hB he h1 h2 h3 h4 s3 s4 hs hq o1 o2 o3 o4 o5;generalize ofI (valI x.c-dt (valI x.c) (valI q) (valI x.q))=cb at *;generalize ofI (dt (valI x.c) (valI q) (valI x.q))=ca at *;generalize ofI (valI x.q-valI q)=qb at *;generalize cmpI (valI q) 0=k1 at *;generalize cmpI (valI q) (valI x.q)=k2 at *;go_enter func156,ntmps156;go_upto_region 0 with fail;go_cut [2,4,5] (fun p2 p4 p5 wx=>me w x p2 p4 p5 wx)
 case first =>
  go_wp2_with fail;go_meet
  exact⟨_,rfl,rfl,rfl,HN.out⟩
 obtain⟨g,rfl,rfl,rfl,hcu⟩:=hcut;replace HN:=qh hcu;replace HX:=qh hcu.ext;clear hcu;obtain⟨p0,p1,p2,p3,p4,p5,p6⟩:=ap HN.out.bx (iD _);go_wp2_with fail;refine(KL.out _ (HE.out.ext HX.out)).mono ?_;rintro e wv⟨rfl,hx1⟩;replace HN:=qh (HN.out.on hx1);replace HX:=HX.qt hx1;clear hx1;obtain⟨p0,p1,p2,p3,p4,p5,p6⟩:=ap HN.out.bx (iD _);go_wp2_with fail;refine(KQ.out _ (HE.out.ext HX.out)).mono ?_;rintro e wv⟨rfl,hx1⟩;replace HN:=qh (HN.out.on hx1);replace HX:=HX.qt hx1;clear hx1;obtain⟨p0,p1,p2,p3,p4,p5,p6⟩:=ap HN.out.bx (iD _);go_wp2_with fail;refine(C0.out _ (HE.out.ext HX.out)).mono ?_;rintro e wv⟨rfl,hx1⟩;replace HN:=qh (HN.out.on hx1);replace HX:=HX.qt hx1;clear hx1;obtain⟨p0,p1,p2,p3,p4,p5,p6⟩:=ap HN.out.bx (iD _);go_wp2_with fail;refine(C1.out _ (HE.out.ext HX.out)).mono ?_;rintro e wv⟨rfl,hx1⟩;replace HN:=qh (HN.out.on hx1);replace HX:=HX.qt hx1;clear hx1;obtain⟨p0,p1,p2,p3,p4,p5,p6⟩:=ap HN.out.bx (iD _);go_upto_region 5 with fail;go_cut [7,8] (fun p7 p8 wx=>Il wv x p7 p8 wx)
 case first =>
  go_region_held3 (fun w'=>w'.cell? ⟨g,0,none⟩=some (.string (bs x.id))∧w'.cell? ⟨g,1,none⟩=some (.string (bs x.ins))∧w'.cell? ⟨g,2,none⟩=some (.int .i64 x.acq)∧w'.cell? ⟨g,3,none⟩=some (.int .i64 x.opn)∧w'.cell? ⟨g,4,none⟩=some (.string (bs x.q))∧w'.cell? ⟨g,5,none⟩=some (.string (bs x.c))∧w'.cell? ⟨g,6,none⟩=some (.string (bs x.u)))
   (go_keep)
   (fail)
  all_goals
   go_wp2_with fail;go_meet
   first
    |exact⟨wv.heap.size,wv.heap.size+1,rfl,rfl,by omega,by omega,by omega,((ID _ _ _).alloc _).drew,(blk_at _ _ _ _ (by simp)).drew,(((Id _ _).alloc _).drew)⟩
    |exact⟨wv.heap.size+1,wv.heap.size,rfl,rfl,by omega,by omega,by omega,(blk_at _ _ _ _ (by simp)).drew,((ID _ _ _).alloc _).drew,(((Id _ _).alloc _).drew)⟩
 case rest =>
  obtain⟨P,R,rfl,rfl,hPR,hwP,hwR,hbp,hbr,hxw⟩:=hcut;have hbl:=HN.out.bb.lt;have HV:Hid (HalvesAt w wc g P R x x x):=qh ⟨HN.out.on hxw,hPR,by omega,by omega,hbp,hbr⟩;replace HX:=HX.qt hxw;clear hbp hbr hxw hwP hwR HN hbl p0 p1 p2 p3 p4 p5 p6;have hPg:P≠g:=by have:=HV.out.lp;omega
  have hRg:R≠g:=by have:=HV.out.lr;omega
  have hgP:g≠P:=Ol hPg;have hgR:g≠R:=Ol hRg;have hRP:R≠P:=Ol hPR;obtain⟨xi,xn,xa,xo,xq,xc,xu⟩:=x;simp only at *;obtain⟨p0,p1,p2,p3,p4,p5,p6⟩:=ap HV.out.cut.bx (iD _);obtain⟨a0,a1,a2,a3,a4,a5,a6⟩:=ap HV.out.bp (iD _);obtain⟨b0,b1,b2,b3,b4,b5,b6⟩:=ap HV.out.br (iD _);have fa:=fun k=>HV.out.bp.frozen k
  have fb:=fun k=>HV.out.br.frozen k
  go_wp2_with fail;refine(S1.out _ (HE.out.ext HX.out)).mono ?_;rintro e w1⟨rfl,hx1⟩;replace HV:=qh (HV.out.on hx1);clear hx1 a0 a1 a2 a3 a4 a5 a6 b0 b1 b2 b3 b4 b5 b6 fa fb p0 p1 p2 p3 p4 p5 p6;have HV2:Hid (HalvesAt w ((w1.setCell ⟨P,4,none⟩ (.string (bs q))).setCell ⟨R,4,none⟩ (.string (bs qb))) g P R ⟨xi,xn,xa,xo,xq,xc,xu⟩ ⟨xi,xn,xa,xo,q,xc,xu⟩ ⟨xi,xn,xa,xo,qb,xc,xu⟩):=qh (HV.out.store 4 _ _ rfl rfl);obtain⟨p0,p1,p2,p3,p4,p5,p6⟩:=ap HV.out.cut.bx (iD _);obtain⟨a0,a1,a2,a3,a4,a5,a6⟩:=ap HV.out.bp (iD _);obtain⟨b0,b1,b2,b3,b4,b5,b6⟩:=ap HV.out.br (iD _);have fa:=fun k=>HV.out.bp.frozen k
  have fb:=fun k=>HV.out.br.frozen k
  go_wp2_with fail;refine(SH.out _ (HE.out.ext HV2.out.cut.ext)).mono ?_;rintro e w2⟨rfl,hx1⟩;clear HV;have HV:=qh (HV2.out.on hx1);clear hx1 a0 a1 a2 a3 a4 a5 a6 b0 b1 b2 b3 b4 b5 b6 fa fb p0 p1 p2 p3 p4 p5 p6 HV2;have HV2:Hid (HalvesAt w ((w2.setCell ⟨P,5,none⟩ (.string (bs ca))).setCell ⟨R,5,none⟩ (.string (bs cb))) g P R ⟨xi,xn,xa,xo,xq,xc,xu⟩ ⟨xi,xn,xa,xo,q,ca,xu⟩ ⟨xi,xn,xa,xo,qb,cb,xu⟩):=qh (HV.out.store 5 _ _ rfl rfl);obtain⟨p0,p1,p2,p3,p4,p5,p6⟩:=ap HV.out.cut.bx (iD _);obtain⟨a0,a1,a2,a3,a4,a5,a6⟩:=ap HV.out.bp (iD _);obtain⟨b0,b1,b2,b3,b4,b5,b6⟩:=ap HV.out.br (iD _);have fa:=fun k=>HV.out.bp.frozen k
  have fb:=fun k=>HV.out.br.frozen k
  by_cases hu:xu=[]
  ·have g9:(!xu.isEmpty)=false:=by rw[hu];rfl
   obtain⟨e1,e2⟩:=HU1.out hu;clear HU1 HU2;subst e1 e2 hu;go_wp2_with fail;replace HV:=HV2;clear HV2 a0 a1 a2 a3 a4 a5 a6 b0 b1 b2 b3 b4 b5 b6 fa fb p0 p1 p2 p3 p4 p5 p6;generalize (w2.setCell ⟨P,5,none⟩ (.string (bs ca))).setCell ⟨R,5,none⟩ (.string (bs cb))=W4 at *;obtain⟨p0,p1,p2,p3,p4,p5,p6⟩:=ap HV.out.cut.bx (iD _);obtain⟨a0,a1,a2,a3,a4,a5,a6⟩:=ap HV.out.bp (iD _);obtain⟨b0,b1,b2,b3,b4,b5,b6⟩:=ap HV.out.br (iD _);have fa:=fun k=>HV.out.bp.frozen k
   have fb:=fun k=>HV.out.br.frozen k
   obtain⟨c0,c1,c2,c3,c4,c5,c6⟩:=ap HV.out.cut.ba (iD _);obtain⟨d0,d1,d2,d3,d4,d5,d6⟩:=ap HV.out.cut.bb (iD _);have fc:=fun k=>HV.out.cut.ba.frozen k
   have fd:=fun k=>HV.out.cut.bb.frozen k
   have n1:R≠g+1:=by have:=HV.out.lr;omega
   have n2:P≠g+1:=by have:=HV.out.lp;omega
   have n3:R≠g+2:=by have:=HV.out.lr;omega
   have n4:P≠g+2:=by have:=HV.out.lp;omega
   have n5:=Ol n1;have n6:=Ol n2;have n7:=Ol n3;have n8:=Ol n4;go_region
   go_wp2_with fail;refine MI (eP rfl _ _ (g+1) (g+2) ((⟨xi,xn,xa,xo,q,ca,[]⟩:LotV)) ((⟨xi,xn,xa,xo,qb,cb,[]⟩:LotV)) (.int .i64 0) rfl rfl rfl (Mg (dm HV.out.cut.ba ((⟨xi,xn,xa,xo,q,ca,[]⟩:LotV))) (by omega) (lotCells ((⟨xi,xn,xa,xo,qb,cb,[]⟩:LotV))) 0).drew (dm (Mg HV.out.cut.bb (by omega) (lotCells ((⟨xi,xn,xa,xo,q,ca,[]⟩:LotV))) 0) ((⟨xi,xn,xa,xo,qb,cb,[]⟩:LotV))).drew) rfl ?_;exact⟨rfl,(ext_sets (lotCells ((⟨xi,xn,xa,xo,qb,cb,[]⟩:LotV))) 0 _ () (ext_sets (lotCells ((⟨xi,xn,xa,xo,q,ca,[]⟩:LotV))) 0 _ () HV.out.cut.ext (by have:=HV.out.cut.le;omega)) (by have:=HV.out.cut.le;omega)).drew⟩
  ·have g9:(!xu.isEmpty)=true:=by simpa using hu
   obtain⟨e1,e2⟩:=HU2.out hu;clear HU1 HU2;subst e1 e2;go_wp2_with fail;replace HV:=HV2;clear HV2 a0 a1 a2 a3 a4 a5 a6 b0 b1 b2 b3 b4 b5 b6 fa fb p0 p1 p2 p3 p4 p5 p6;generalize (w2.setCell ⟨P,5,none⟩ (.string (bs ca))).setCell ⟨R,5,none⟩ (.string (bs cb))=W3 at *;obtain⟨p0,p1,p2,p3,p4,p5,p6⟩:=ap HV.out.cut.bx (iD _);obtain⟨a0,a1,a2,a3,a4,a5,a6⟩:=ap HV.out.bp (iD _);obtain⟨b0,b1,b2,b3,b4,b5,b6⟩:=ap HV.out.br (iD _);have fa:=fun k=>HV.out.bp.frozen k
   have fb:=fun k=>HV.out.br.frozen k
   have HV2:Hid (HalvesAt w ((W3.setCell ⟨P,6,none⟩ (.string (bs q))).setCell ⟨R,6,none⟩ (.string (bs qb))).drew g P R ⟨xi,xn,xa,xo,xq,xc,xu⟩ ⟨xi,xn,xa,xo,q,ca,q⟩ ⟨xi,xn,xa,xo,qb,cb,qb⟩):=qh (vT (HV.out.store 6 _ _ rfl rfl));go_region
   go_wp2_with fail;replace HV:=HV2;clear HV2 a0 a1 a2 a3 a4 a5 a6 b0 b1 b2 b3 b4 b5 b6 fa fb p0 p1 p2 p3 p4 p5 p6;generalize ((W3.setCell ⟨P,6,none⟩ (.string (bs q))).setCell ⟨R,6,none⟩ (.string (bs qb))).drew=W4 at *;obtain⟨p0,p1,p2,p3,p4,p5,p6⟩:=ap HV.out.cut.bx (iD _);obtain⟨a0,a1,a2,a3,a4,a5,a6⟩:=ap HV.out.bp (iD _);obtain⟨b0,b1,b2,b3,b4,b5,b6⟩:=ap HV.out.br (iD _);have fa:=fun k=>HV.out.bp.frozen k
   have fb:=fun k=>HV.out.br.frozen k
   obtain⟨c0,c1,c2,c3,c4,c5,c6⟩:=ap HV.out.cut.ba (iD _);obtain⟨d0,d1,d2,d3,d4,d5,d6⟩:=ap HV.out.cut.bb (iD _);have fc:=fun k=>HV.out.cut.ba.frozen k
   have fd:=fun k=>HV.out.cut.bb.frozen k
   have n1:R≠g+1:=by have:=HV.out.lr;omega
   have n2:P≠g+1:=by have:=HV.out.lp;omega
   have n3:R≠g+2:=by have:=HV.out.lr;omega
   have n4:P≠g+2:=by have:=HV.out.lp;omega
   have n5:=Ol n1;have n6:=Ol n2;have n7:=Ol n3;have n8:=Ol n4;go_region
   go_wp2_with fail;refine MI (eP rfl _ _ (g+1) (g+2) ((⟨xi,xn,xa,xo,q,ca,q⟩:LotV)) ((⟨xi,xn,xa,xo,qb,cb,qb⟩:LotV)) (.int .i64 0) rfl rfl rfl (Mg (dm HV.out.cut.ba ((⟨xi,xn,xa,xo,q,ca,q⟩:LotV))) (by omega) (lotCells ((⟨xi,xn,xa,xo,qb,cb,qb⟩:LotV))) 0).drew (dm (Mg HV.out.cut.bb (by omega) (lotCells ((⟨xi,xn,xa,xo,q,ca,q⟩:LotV))) 0) ((⟨xi,xn,xa,xo,qb,cb,qb⟩:LotV))).drew) rfl ?_;exact⟨rfl,(ext_sets (lotCells ((⟨xi,xn,xa,xo,qb,cb,qb⟩:LotV))) 0 _ () (ext_sets (lotCells ((⟨xi,xn,xa,xo,q,ca,q⟩:LotV))) 0 _ () HV.out.cut.ext (by have:=HV.out.cut.le;omega)) (by have:=HV.out.cut.le;omega)).drew⟩
end
section
open Go.RowKit
def jH(a b:LotV):Bool:=decide (valI a.c*valI b.q<valI b.c*valI a.q)
def jI(a b:LotV):Bool:=decide (a.acq<b.acq)
def jW(m:Int)(a b:LotV):Bool :=
 if m=3 then jH b a || (!jH a b && jI a b) else if m=4 then jH a b || (!jH b a && jI a b) else jI a b
def bv(m:Int)(ls:List LotV):List LotV:=if m=2 then(fm (jW m) ls).reverse else fm (jW m) ls
def lL(x:LotV):Prop:=0<valI x.q
theorem wS{a b:LotV}(h:jH a b=true):jH b a=false:=by
 unfold jH at *;simp only[MW,Mi]at *;omega
theorem wT{a b c:LotV}(ha:lL a)(hb:lL b)(hc:lL c)(h1:jH a b=false)(h2:jH b c=false):jH a c=false:=by
 unfold jH lL at *;simp only[Mi,Int.not_lt]at *;have e1:=Qv h1 (Oj hc);have e2:=Qv h2 (Oj ha)
 have e3:valI c.c*valI a.q*valI b.q<=valI a.c*valI c.q*valI b.q:=by
  have i1:valI c.c*valI a.q*valI b.q=valI c.c*valI b.q*valI a.q:=R8 ..;have i2:valI a.c*valI c.q*valI b.q=valI a.c*valI b.q*valI c.q:=R8 ..;have i3:valI b.c*valI c.q*valI a.q=valI b.c*valI a.q*valI c.q:=R8 ..;omega
 exact Int.le_of_mul_le_mul_right e3 hb
theorem zM{u:LotV->LotV->Bool}(h1:∀a b,u a b=true->u b a=false)(h2:∀a b c,lL a->lL b->lL c->u a b=false->u b c=false->u a c=false):WkOn (fun a b=>u a b || (!u b a && jI a b)) lL:=by
 constructor
 ·intro a b ha hb h;have t1:=h1 a b;have t2:=h1 b a;have t3:jI a b=true->jI b a=false:=by unfold jI;simp only[MW,Mi];omega
  cases e1:u a b <;> cases e2:u b a <;> simp_all
 ·intro a b c ha hb hc h3 h4;have t1:=h2 a b c ha hb hc;have t2:=h2 c b a hc hb ha;have t3:=h2 b c a hb hc ha;have t4:=h2 c a b hc ha hb;have t5:=h2 b a c hb ha hc;have t6:=h2 a c b ha hc hb;have a3:jI a b=false->jI b c=false->jI a c=false:=by unfold jI;simp only[Mi];omega
  have n1:=h1 a b;have n2:=h1 b c;have n3:=h1 a c;have n4:=h1 b a;have n5:=h1 c b;have n6:=h1 c a
  cases e1:u a b <;> cases e2:u b a <;> cases e3:u b c <;> cases e4:u c b <;> cases e5:u a c <;> cases e6:u c a <;> simp_all
theorem Li(m:Int):WkOn (jW m) lL:=by
 by_cases h3:m=3
 ·have:=zM (u:=fun a b=>jH b a) (fun a b h=>wS h) (fun a b c ha hb hc e1 e2=>wT hc hb ha e2 e1);have e:jW m=fun a b=>jH b a || (!jH a b && jI a b):=by funext a b;unfold jW;rw[Mq h3]
  rw[e];exact this
 ·by_cases h4:m=4
  ·have:=zM (u:=jH) (fun a b h=>wS h) (fun a b c ha hb hc e1 e2=>wT ha hb hc e1 e2);have e:jW m=fun a b=>jH a b || (!jH b a && jI a b):=by funext a b;unfold jW;rw[Mj h3,Mq h4]
   rw[e];exact this
  ·have e:jW m=jI:=by funext a b;unfold jW;rw[Mj h3,Mj h4]
   rw[e];constructor
   ·intro a b _ _;unfold jI;simp only[MW,Mi];omega
   ·intro a b c _ _ _;unfold jI;simp only[Mi];omega
theorem gG(m:Int)(ls:List LotV):ls.Perm (bv m ls):=by
 unfold bv;split
 ·exact(mL ls).trans (List.reverse_perm _).symm
 ·exact mL ls
def aD(a b:Bs):Bs:=if valI a<valI b then a else b
theorem qG(a b:Bs):valI (aD a b)=min (valI a) (valI b):=by unfold aD;split <;> omega
structure Cho where
 out:List Fr
 rem:Bs
def Cho.left(s:Cho)(id xq:Bs):Bs:=match s.out.findIdx? (fun p=>p.num == id) with
 |some i=>ofI (valI xq-valI ((s.out[i]?.map (·.den)).getD []))
 |none=>xq
def Cho.put(s:Cho)(id n:Bs):List Fr:=match s.out.findIdx? (fun p=>p.num == id) with
 |some i=>s.out.set i ⟨id,ofI (valI ((s.out[i]?.map (·.den)).getD [])+valI n)⟩
 |none=>s.out++[⟨id,ofI (0+valI n)⟩]
def Cho.n(s:Cho)(id xq most:Bs):Bs:=aD (aD most (s.left id xq)) s.rem
def Cho.take(s:Cho)(id xq most:Bs):Cho:=if valI (s.n id xq most)<=0 then s else⟨s.put id (s.n id xq most),ofI (valI s.rem-valI (s.n id xq most))⟩
def Cho.named(own:List LotV)(s:Cho)(p:Fr):Cho:=match own.find? (fun x=>decide (x.id=p.num)) with
 |some x=>s.take x.id x.q p.den
 |none=>s
def Cho.all(s:Cho)(l:List LotV):Cho:=l.foldl (fun s x=>s.take x.id x.q x.q) s
def choose(ls:List LotV)(ins q:Bs)(m:Int)(ps:List Fr):Cho :=
 (if m=5 then ps.foldl (Cho.named (ofL ls ins)) ⟨[],q⟩ else⟨[],q⟩).all (bv m (ofL ls ins))
def iy(p:Fr):Bool:=!(checkI p.den == 0) || !decide (0<valI p.den)
def aI:List LotV->List Fr->List LotV × List LotV
 |ls,[]=>(ls,[])
 |ls,p :: ps=>match findL ls p.num with
  |none=>(ls,[])
  |some k=>match ls[k]? with
   |none=>(ls,[])
   |some x=>if x.q=p.den then((aI (ls.eraseIdx k) ps).1,x :: (aI (ls.eraseIdx k) ps).2)
    else((aI (ls.set k (cR x p.den)) ps).1,eF x p.den :: (aI (ls.set k (cR x p.den)) ps).2)
def aW(o:List Fr)(id:Bs):Option Nat:=o.findIdx? (fun p=>p.num == id)
def ez(o:List Fr)(id:Bs):Int:=match aW o id with
 |some i=>valI ((o[i]?.map (·.den)).getD [])
 |none=>0
def jS(o:List Fr):Int:=(o.map (fun p=>valI p.den)).sum
theorem eA(h:aW o id=some i):∃hi:i<o.length,(o[i]'hi).num=id:=by
 unfold aW at h;rw[Pt]at h;obtain⟨hi,hp,_⟩:=h;exact⟨hi,by simpa using hp⟩
theorem zN:aW o id=none↔∀p ∈ o,p.num≠id:=by
 unfold aW;rw[QZ];simp
theorem ur(o:List Fr)(id:Bs):aW o id=(o.map (·.num)).findIdx? (· == id):=by
 unfold aW;rw[List.findIdx?_map];rfl
theorem us(h:aW o id=some i):(o.set i ⟨id,d⟩).map (·.num)=o.map (·.num):=by
 obtain⟨hi,hn⟩:=eA h;rw[Qd];apply Oi (by simp);intro m h1 h2;rw[QO];split
 ·rename_i e;subst e;simp[hn]
 ·rfl
theorem Fg(h:aW o id=some i)(k:Bs):ez (o.set i ⟨id,d⟩) k=if k=id then valI d else ez o k:=by
 obtain⟨hi,hn⟩:=eA h;have e:aW (o.set i ⟨id,d⟩) k=aW o k:=by rw[ur,ur,us h]
 unfold ez;rw[e];by_cases hk:k=id
 ·subst hk;rw[h,Mq rfl];simp[hi]
 ·rw[Mj hk]
  cases hj:aW o k with
  |none=>rfl
  |some j =>
   obtain⟨hj1,hj2⟩:=eA hj;have hne:i≠j:=by rintro rfl;exact hk (hj2.symm.trans hn)
   simp only;rw[List.getElem?_set_ne hne]
theorem Cr(h:aW o id=none)(k:Bs):ez (o++[⟨id,d⟩]) k=if k=id then valI d else ez o k:=by
 have e:aW (o++[⟨id,d⟩]) k=(aW o k).or (if id == k then some o.length else none):=by
  unfold aW;rw[List.findIdx?_append,List.findIdx?_cons];congr 1
  by_cases hk:id == k <;> simp[hk]
 unfold ez;rw[e]
 cases hj:aW o k with
 |some j =>
  obtain⟨hj1,hj2⟩:=eA hj;have hk:k≠id:=by rintro rfl;rw[h]at hj;cases hj
  rw[Mj hk];simp only[Option.some_or];rw[OY hj1]
 |none =>
  by_cases hk:k=id
  ·subst hk;simp
  ·have h2:(id == k)=false:=by simpa using fun e=>hk e.symm
   rw[Mj hk,h2];rfl
theorem wU:∀(l:List Int) (i:Nat) (v:Int) (h:i<l.length),(l.set i v).sum=l.sum-l[i]+v
 |[],_,_,h=>absurd h (by simp)
 |a :: r,0,v,_=>by simp;omega
 |a :: r,i+1,v,h=>by
  have:=wU r i v (by simpa using h);simp only[PN,Nz,Qz];omega
structure PutP (s:Cho) (id n:Bs):Prop where
 gt:∀k,ez (s.put id n) k=ez s.out k+if k=id then valI n else 0
 sum:jS (s.put id n)=jS s.out+valI n
 nums:(s.put id n).map (·.num)=s.out.map (·.num)∨((s.put id n).map (·.num)=s.out.map (·.num)++[id]∧∀p ∈ s.out,p.num≠id)
 den:∀p ∈ s.put id n,p ∈ s.out∨(p.num=id∧p.den=ofI (ez s.out id+valI n))
theorem putP(s:Cho)(id n:Bs):PutP s id n:=by
 cases h:aW s.out id with
 |some i =>
  have hp:s.put id n=s.out.set i ⟨id,ofI (valI ((s.out[i]?.map (·.den)).getD [])+valI n)⟩:=by
   unfold Cho.put;unfold aW at h;rw[h]
  obtain⟨hi,hn⟩:=eA h;have hg:ez s.out id=valI (s.out[i]'hi).den:=by unfold ez;rw[h];simp[hi]
  have he:valI ((s.out[i]?.map (·.den)).getD [])=valI (s.out[i]'hi).den:=by simp[hi]
  rw[he]at hp;refine⟨fun k=>?_,?_,.inl ?_,fun p hp2=>?_⟩
  ·rw[hp,Fg h,valI_ofI];split
   ·rename_i e;rw[e,hg]
   ·omega
  ·unfold jS;rw[hp,Qd,wU _ _ _ (by simpa using hi),valI_ofI];simp only[Ry];omega
  ·rw[hp];exact us h
  ·rw[hp]at hp2;rcases QW hp2 with h2|h2
   ·exact .inl h2
   ·refine .inr ?_;rw[h2,hg];exact⟨rfl,rfl⟩
 |none =>
  have hp:s.put id n=s.out++[⟨id,ofI (0+valI n)⟩]:=by
   unfold Cho.put;unfold aW at h;rw[h]
  have hg:ez s.out id=0:=by unfold ez;rw[h]
  refine⟨fun k=>?_,?_,.inr ⟨?_,zN.1 h⟩,fun p hp2=>?_⟩
  ·rw[hp,Cr h,valI_ofI];split
   ·rename_i e;rw[e,hg]
   ·omega
  ·unfold jS;rw[hp];simp[valI_ofI]
  ·rw[hp];simp
  ·rw[hp]at hp2;rcases MN.1 hp2 with h2|h2
   ·exact .inl h2
   ·simp at h2;exact .inr ⟨by rw[h2],by rw[h2,hg,Int.zero_add]⟩
def free(o:List Fr)(x:LotV):Int:=valI x.q-ez o x.id
structure ChoOK (own:List LotV) (q:Int) (s:Cho):Prop where
 c:checkI s.rem=0
 nn:0<=valI s.rem
 sum:jS s.out+valI s.rem=q
 nod:(s.out.map (·.num)).Nodup
 den:∀p ∈ s.out,checkI p.den=0∧0<valI p.den
 mem:∀p ∈ s.out,∃x ∈ own,x.id=p.num
 le:∀x ∈ own,ez s.out x.id<=valI x.q
 pot:valI s.rem<=(own.map (free s.out)).sum
theorem rQ(h:aW o id=some i):∃hi:i<o.length,ez o id=valI (o[i]'hi).den:=by
 obtain⟨hi,_⟩:=eA h;refine⟨hi,?_⟩;unfold ez;rw[h];simp[hi]
theorem qH(h:∀p ∈ o,checkI p.den=0∧0<valI p.den)(id:Bs):0<=ez o id:=by
 cases hp:aW o id with
 |none=>unfold ez;rw[hp];exact Ru 0
 |some i =>
  obtain⟨hi,e⟩:=rQ hp;rw[e];exact Oj (h _ (Ml hi)).2
theorem Cs(s:Cho)(x:LotV):valI (s.left x.id x.q)=free s.out x:=by
 unfold Cho.left free ez aW;split <;> rename_i h <;> (try rw[h])
 ·rw[valI_ofI]
 ·simp
theorem Ew(s:Cho)(x:LotV)(most:Bs):valI (s.n x.id x.q most)=min (min (valI most) (free s.out x)) (valI s.rem):=by
 unfold Cho.n;rw[qG,qG,Cs]
theorem Fh{own:List LotV}{f:LotV->Int}{x:LotV}{n:Int}(hnd:(own.map (·.id)).Nodup)(hx:x ∈ own):(own.map (fun y=>f y-if y.id=x.id then n else 0)).sum=(own.map f).sum-n:=by
 induction own with
 |nil=>simp at hx
 |cons y r ih =>
  simp only[MQ,Oe]at hnd;simp only[MQ,Nz];rcases MS.1 hx with rfl|hx
  ·have h0:r.map (fun z=>f z-if z.id=x.id then n else 0)=r.map f:=by
    apply OC;intro z hz;rw[Mj (fun e=>hnd.1 (by rw[←e];exact N5 hz))];omega
   rw[h0,Mq rfl];omega
  ·rw[ih hnd.2 hx,Mj (fun e=>hnd.1 (by rw[e];exact N5 hx))];omega
theorem eS(z:Int):checkI (ofI z)=0:=dC.2 (by rw[valI_ofI])
theorem rR{own:List LotV}{q:Int}{s:Cho}(h:ChoOK own q s)(hnd:(own.map (·.id)).Nodup){x:LotV}(hx:x ∈ own)(most:Bs):ChoOK own q (s.take x.id x.q most):=by
 unfold Cho.take;split
 ·exact h
 ·rename_i hn
  have hv:=Ew s x most;have hle:valI (s.n x.id x.q most)<=free s.out x:=by omega
  have hr:valI (s.n x.id x.q most)<=valI s.rem:=by omega
  generalize s.n x.id x.q most=n at *;have P:=putP s x.id n;have hg:=qH h.den x.id;unfold free at hle;refine⟨eS _,by rw[valI_ofI];omega,by rw[P.sum,valI_ofI];have:=h.sum;omega,?_,fun p hp=>?_,fun p hp=>?_,fun y hy=>?_,?_⟩
  ·rcases P.nums with e | ⟨e,h1⟩
   ·rw[e];exact h.nod
   ·rw[e,List.nodup_append];refine⟨h.nod,by simp,?_⟩;intro a ha b hb;simp at hb;obtain⟨p,hp,rfl⟩:=MH.1 ha;rw[hb];exact h1 p hp
  ·rcases P.den p hp with h1 | ⟨_,h1⟩
   ·exact h.den p h1
   ·rw[h1,valI_ofI];exact⟨eS _,by omega⟩
  ·rcases P.den p hp with h1 | ⟨h1,_⟩
   ·exact h.mem p h1
   ·exact⟨x,hx,h1.symm⟩
  ·rw[P.gt];have hy2:=h.le y hy;split
   ·rename_i e
    have hyx:y=x:=by
     have key:∀l:List LotV,(l.map (·.id)).Nodup->x ∈ l->y ∈ l->y=x:=by
      intro l;induction l with
      |nil=>intro _ h;simp at h
      |cons z r ih =>
       intro hn h1 h2;simp only[MQ,Oe]at hn;rcases MS.1 h1 with m1|m1 <;> rcases MS.1 h2 with m2|m2
       ·rw[m1,m2]
       ·exact absurd (by rw[←m1,←e];exact N5 m2) hn.1
       ·exact absurd (by rw[←m2,e];exact N5 m1) hn.1
       ·exact ih hn.2 m1 m2
     exact key own hnd hx hy
    subst hyx;omega
   ·omega
  ·have e:own.map (free (s.put x.id n))=own.map (fun y=>free s.out y-if y.id=x.id then valI n else 0):=by
    apply OC;intro y _;unfold free;rw[P.gt];omega
   rw[e,Fh hnd hx,valI_ofI];have:=h.pot;omega
theorem pF{own:List LotV}{q:Int}(hnd:(own.map (·.id)).Nodup):∀(ps:List Fr) {s:Cho},ChoOK own q s->ChoOK own q (ps.foldl (Cho.named own) s)
 |[],_,h=>h
 |p :: ps,s,h=>by
  rw[QY];apply pF hnd ps;unfold Cho.named;split
  ·rename_i x hx;exact rR h hnd (Q4 hx) _
  ·exact h
theorem ut{f:LotV->Int}(h:∀x ∈ l,0<=f x):0<=(l.map f).sum:=by
 induction l with
 |nil=>simp
 |cons x r ih=>simp only[MQ,Nz];have:=h x (by simp);have:=ih (fun y hy=>h y (by simp[hy]));omega
theorem zO{own:List LotV}{q:Int}(hnd:(own.map (·.id)).Nodup):∀(l:List LotV) {s:Cho},ChoOK own q s->(∀x ∈ l,x ∈ own)->(l.map (·.id)).Nodup->valI s.rem<=(l.map (free s.out)).sum->ChoOK own q (s.all l)∧valI (s.all l).rem=0
 |[],s,h,_,_,hp=>⟨h,by have:=h.nn;simp at hp;show valI s.rem=0;omega⟩
 |x :: r,s,h,hl,hn,hp=>by
  have hx:=hl x (by simp);have k:=rR h hnd hx x.q;simp only[MQ,Oe,Nz]at hn hp;refine zO hnd r k (fun y hy=>hl y (by simp[hy])) hn.2 ?_;have hf:∀y ∈ r,0<=free s.out y:=fun y hy=>by unfold free;have:=h.le y (hl y (by simp[hy]));omega
  have hfx:free s.out x<=valI x.q:=by unfold free;have:=qH h.den x.id;omega
  have h0:=ut hf;have hv:=Ew s x x.q;have hfx0:0<=free s.out x:=by unfold free;have:=h.le x hx;omega
  have hnn:=h.nn;show valI (s.take x.id x.q x.q).rem<=(r.map (free (s.take x.id x.q x.q).out)).sum;unfold Cho.take;split
  ·omega
  ·generalize s.n x.id x.q x.q=n at *
   have e:r.map (free (s.put x.id n))=r.map (free s.out):=by
    apply OC;intro y hy;unfold free;rw[(putP s x.id n).gt,Mj (fun e=>hn.1 (by rw[←e];exact N5 hy))];omega
   show valI (ofI _)<=_;rw[e,valI_ofI];omega
theorem ye{m:List LotV}(h:l.Perm m)(f:LotV->Int):(l.map f).sum=(m.map f).sum:=by
 induction h with
 |nil=>rfl
 |cons x _ ih=>simp only[MQ,Nz,ih]
 |swap x y l=>simp only[MQ,Nz];omega
 |trans _ _ h1 h2=>exact h1.trans h2
theorem jJ{ls:List LotV}(h:(ls.map (·.id)).Nodup)(ins:Bs):((ofL ls ins).map (·.id)).Nodup:=by
 unfold ofL;exact List.Nodup.sublist (List.Sublist.map _ List.filter_sublist) h
theorem Ct{ls:List LotV}{q:Bs}{m:Int}(hnd:(ls.map (·.id)).Nodup)(hq:checkI q=0)(hq0:0<valI q)(hh:valI q<=totQ ls ins)(hle:∀x ∈ ls,0<=valI x.q) :
  ChoOK (ofL ls ins) (valI q) (choose ls ins q m ps)∧valI (choose ls ins q m ps).rem=0:=by
 have hno:=jJ hnd ins
 have hf0:(ofL ls ins).map (free [])=(ofL ls ins).map (fun x=>valI x.q):=by
  apply OC;intro x _;unfold free ez aW;simp
 have h0:ChoOK (ofL ls ins) (valI q) ⟨[],q⟩:=by
  refine⟨hq,by show 0<=valI q;omega,by simp[jS],by simp,by simp,by simp,fun x hx=>?_,?_⟩
  ·have:ez [] x.id=0:=by unfold ez aW;simp
   show ez [] x.id<=_;rw[this];exact hle x (Og.1 hx).1
  ·show valI q<=((ofL ls ins).map (free [])).sum;rw[hf0];exact hh
 have h1:ChoOK (ofL ls ins) (valI q) (if m=5 then ps.foldl (Cho.named (ofL ls ins)) ⟨[],q⟩ else⟨[],q⟩):=by
  split
  ·exact pF hno ps h0
  ·exact h0
 have hp:=gG m (ofL ls ins);unfold choose;refine zO hno _ h1 (fun x hx=>hp.mem_iff.2 hx) ((hp.map _).nodup_iff.1 hno) ?_;rw[←ye hp];exact h1.pot
end
section
open Go.RowKit
attribute [local go_sem] size_bs toList_bs extract_bs get_bs append_bs lit_append append_lit
end
section
open Go.RowKit
attribute [local go_sem] size_bs toList_bs
def jy(a:Bs):Bool:=decide (13<(a.length:Int))
def fA(x:LotV):Bool:=jy x.q || jy x.c || jy x.u || decide (40<(x.id.length:Int)) || decide (40<(x.ins.length:Int))
end
end Go.Proofs.YtaegjkllenlfpaaGreatDoor
