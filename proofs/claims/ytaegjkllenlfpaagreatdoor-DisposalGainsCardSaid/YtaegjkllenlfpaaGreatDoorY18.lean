/- The seat's texts, part Y18. -/
import Derived.Test.YtaegjkllenlfpaaGreatDoorY17
set_option maxRecDepth 100000
set_option maxHeartbeats 8000000
namespace Go.Proofs.YtaegjkllenlfpaaGreatDoor
open Tryz
variable {b d:Nat}
section
open Go.RowKit
open Go.Maps (Keyed)
attribute [local go_sem] size_bs toList_bs
section
variable {c:KC} {sk:Nat->KK} {tab:List (Nat × Nat × Nat)} {ops:Array Oper} {f:Nat} {ls:Array Bool} {bm bm':Option Nat} {a:Act} {w w':World} {i:Nat} {o:Oper} {Q:Exit->Act->World->Prop} {T T':Tm} {k:KK} {v:Value}
theorem mJ.on(h:mJ c (f+1) ops ls bm T w k v)(hblk:∀g t cs,Blk w g t cs->Blk w' g t cs)(hmap:k.own=true->∀b n D,gN v=some b->bG w b n D->bG w' b n D)
  (hT:∀d,aN ops ls d->T' d=T d) (hni:∀es,k = .nm es->∀e ∈ es,e.1≠i) (hb1:∀b,b<w.heap.size->some b≠bm->some b≠bm') (hb2:∀b,bm=some b->bm'=some b) :
  mJ c f ops (ls.setIfInBounds i true) bm' T' w' k v:=by
 cases k with
 |lv p q=>exact dw.on h hblk
 |mk=>exact h
 |am=>exact h
 |wc=>exact h
 |mm=>obtain⟨b,e,hb⟩:=h;exact⟨b,e,hb2 b hb⟩
 |tm=>exact h
 |no=>trivial
 |nm es =>
  obtain⟨b,rfl,h1,h2,h3,n,D,h4,h5,h6,h7⟩:=h;refine⟨b,rfl,h1,hb1 b h4.lt h2,h3,n,D,hmap rfl b n D rfl h4,by omega,h6,fun e he hl=>(h7 e he ?_).on hblk⟩;rcases cF hl with e' | e'
  ·exact absurd e' (hni es rfl e he)
  ·exact e'
 |tn s es =>
  obtain⟨h1,h2,h3⟩:=h;exact⟨by rw[hT s h2];exact h1,ey h2,fun e he=>ir (h3 e he)⟩
 |kd word cl bits src code =>
  obtain⟨h1,h2⟩:=h;refine⟨?_,fun s hs=>ey (h2 s hs)⟩
  cases src with
  |none=>exact h1
  |some s =>
   have:T' s=T s:=hT s (h2 s rfl);rw[h1];unfold pE;dsimp only;rw[this]
 |ka word =>
  obtain⟨b,rfl,h1,h2,h3,h4⟩:=h;exact⟨b,rfl,h1,hb1 b h4.lt h2,h3,h4.on hblk (fun n D=>hmap rfl b n D (by rfl))⟩
 |sl ms =>
  obtain⟨g,e,hg⟩:=h;exact⟨g,e,hblk _ _ _ hg⟩
theorem qD.on(h:qD c tab (f+1) ops ls T b w)(hm:∀n D,bG w b n D->bG w' b n D)(hT:∀d,aN ops ls d->T' d=T d)(hne:∀e ∈ tab,e.1≠i):qD c tab f ops (ls.setIfInBounds i true) T' b w':=by
 obtain⟨h1,h2,n,D,h3,h4,h5,h6⟩:=h;refine⟨h1,h2,n,D,hm n D h3,by omega,h5,fun e he hl=>?_⟩;rcases cF hl with e' | e'
 ·exact absurd e' (hne e he)
 ·obtain⟨g1,g2,g3⟩:=h6 e he e';exact⟨ey g1,g2,fun z=>by rw[hT _ g1];exact g3 z⟩
theorem KInv.keep(u:Uniq ops)(_h:KInv c sk tab ops (f+1) ls bm a w)(hi:i ∈ Region.ready .any ops ls)(ho:ops[i]? = some o)(v:Value):∀d,aN ops ls d->bV (a.put o.dst v) d=bV a d :=
 fun _ hf=>ul fun _ hd' e=>u.fresh hi ho hd' (e ▸ hf)
theorem KInv.fst_keep(h:KInv c sk tab ops (f+1) ls bm a w)(hn:(ls.setIfInBounds i true).getD 0 false=false):bm=none:=h.fst (by
 cases hl:ls.getD 0 false
 ·rfl
 ·rw[ir hl]at hn;cases hn)
theorem KInv.grow(u:Uniq ops)(h:KInv c sk tab ops (f+1) ls bm a w)(hi:i ∈ Region.ready .any ops ls)(ho:ops[i]? = some o)(hni:∀d es,sk d = .nm es->∀e ∈ es,e.1≠i)(hnt:∀e ∈ tab,e.1≠i)(v:Value)(w':World)(hx:Ext w w')
  (hnew:∀d,o.dst=some d->mJ c f ops (ls.setIfInBounds i true) bm (bV (a.put o.dst v)) w' (sk d) v∧((sk d).own=true->∃b,gN v=some b∧w.heap.size<=b)) :
  cY c sk tab ops f (ls.setIfInBounds i true) (a.put o.dst v) w' :=
 h.step u hi ho v w' bm (fun d hf=>(h.fits d hf).on (fun _ _ _ hb=>hb.ext hx) (fun _ _ _ _ _ hm=>hm.ext hx) (h.keep u hi ho v) (hni d) (fun _ _ e=>e) (fun _ e=>e))
  hnew (h.ext.trans hx) (fun _ _ _ hb=>hb.ext hx) (h.tr.ext hx) (fun b e=>(h.main b e).on (fun _ _ hm=>hm.ext hx) (h.keep u hi ho v) hnt) h.fst_keep
theorem KInv.bm_lt(h:KInv c sk tab ops f ls bm a w)(hb:w.heap.size<=b):some b≠bm:=fun e=>by
 obtain⟨_,_,n,D,hm,_⟩:=h.main b e.symm;have:=hm.lt;omega
theorem KInv.bt_lt(h:KInv c sk tab ops f ls bm a w)(hb:w.heap.size<=b):b≠c.Bt:=fun e=>by
 have:=h.tr.lt;omega
abbrev NI(sk:Nat->KK)(i:Nat):Prop:=∀d es,sk d = .nm es->∀e ∈ es,e.1≠i
abbrev jG(tab:List (Nat × Nat × Nat))(i:Nat):Prop:=∀e ∈ tab,e.1≠i
theorem dJ{w1:World}(hd:o.dst=some d)(h1:mJ c f ops ls bm T w1 (sk d) v)(h2:(sk d).own=false):∀d,o.dst=some d->mJ c f ops ls bm T w1 (sk d) v∧((sk d).own=true->∃b,gN v=some b∧w.heap.size<=b):=fun d' e=>by
 rw[hd]at e
 cases e;exact⟨h1,fun ho=>by rw[h2]at ho;cases ho⟩
theorem di(u:Uniq ops)(h:KInv c sk tab ops (f+1) ls bm a w)(hi:i ∈ Region.ready .any ops ls)(ho:ops[i]? = some o)(hg:o.guard=none)(hni:NI sk i)(hnt:jG tab i)(m d:Nat)(hop:o.op = .move (.tmp m)∨o.op = .assign (.tmp m))(hd:o.dst=some d)(hf:aN ops ls m)(hk:sk d=sk m)(hw:(sk m).own=false) :
  wpOp prog ops Q i (cY c sk tab ops f (ls.setIfInBounds i true)) a w:=by
 refine cL ho hg ?_
 have key:cY c sk tab ops f (ls.setIfInBounds i true) (a.put o.dst (a.eval (.tmp m))) w :=
  h.grow u hi ho hni hnt _ w (iD _) (dJ hd (by
   rw[hk];exact(h.fits m hf).on (fun _ _ _ hb=>hb) (fun _ _ _ _ _ hm=>hm) (h.keep u hi ho _) (hni m) (fun _ _ e=>e) (fun _ e=>e)) (by rw[hk];exact hw))
 unfold Oper.wp;rcases hop with hop|hop
 ·simp only[execOp,hop];exact key
 ·simp only[execOp,hop];exact key
theorem dP(u:Uniq ops)(h:KInv c sk tab ops (f+1) ls bm a w)(hi:i ∈ Region.ready .any ops ls)(ho:ops[i]? = some o)(hg:o.guard=none)(hni:NI sk i)(hnt:jG tab i)(m d:Nat)(es:List (Nat × Nat × Bool × Bool))(hop:o.op = .move (.tmp m))(hd:o.dst=some d)(hf:aN ops ls m)(hk:sk d = .tn m es)
  (hes:(es.all fun e=>o.after.toList.any fun x=>x.on == e.1 && Region.binds .any x)=true) :
  wpOp prog ops Q i (cY c sk tab ops f (ls.setIfInBounds i true)) a w:=by
 refine cL ho hg ?_
 have key:cY c sk tab ops f (ls.setIfInBounds i true) (a.put o.dst (a.eval (.tmp m))) w :=
  h.grow u hi ho hni hnt _ w (iD _) (dJ hd (by
   rw[hk];rw[Nm]at hes;exact⟨(h.keep u hi ho _ m hf).symm,ey hf,fun e he=>ir (eX hi ho (hes e he))⟩) (by rw[hk];rfl))
 unfold Oper.wp;simp only[execOp,hop];exact key
theorem fh(u:Uniq ops)(h:KInv c sk tab ops (f+1) ls bm a w)(hi:i ∈ Region.ready .any ops ls)(ho:ops[i]? = some o)(hg:o.guard=none)(hni:NI sk i)(hnt:jG tab i)(d:Nat)(hop:o.op = .load 163 (.tmp 1))(hd:o.dst=some d)(hk:sk d = .lv true false) :
  wpOp prog ops Q i (cY c sk tab ops f (ls.setIfInBounds i true)) a w:=by
 refine cL ho hg ?_;unfold Oper.wp;have hr:=Cc h.b1;have h1:a.tmps.getD 1 undef=_:=h.t1;simp[execOp,hop,fM,h1,hr,Result.andThen];exact h.grow u hi ho hni hnt _ w (iD _) (dJ hd (by rw[hk];exact h.lp) (by rw[hk];rfl))
theorem cZ(u:Uniq ops)(h:KInv c sk tab ops (f+1) ls bm a w)(hi:i ∈ Region.ready .any ops ls)(ho:ops[i]? = some o)(hg:o.guard=none)(hni:NI sk i)(hnt:jG tab i)(d:Nat)(hop:o.op = .load 166 (.tmp 3))(hd:o.dst=some d)(hk:sk d = .mk) :
  wpOp prog ops Q i (cY c sk tab ops f (ls.setIfInBounds i true)) a w:=by
 refine cL ho hg ?_;unfold Oper.wp;have hr:=Cd h.b3;have h3:a.tmps.getD 3 undef=_:=h.t3;simp[execOp,hop,fM,h3,hr,Result.andThen];exact h.grow u hi ho hni hnt _ w (iD _) (dJ hd (by rw[hk];rfl) (by rw[hk];rfl))
theorem fi(u:Uniq ops)(h:KInv c sk tab ops (f+1) ls bm a w)(hi:i ∈ Region.ready .any ops ls)(ho:ops[i]? = some o)(hg:o.guard=none)(hni:NI sk i)(hnt:jG tab i)(hf200:f<=190)(t d:Nat)(es:List (Nat × Nat × Bool × Bool))(hop:o.op = .makeMap t none)(hd:o.dst=some d)(hk:sk d = .nm es)
  (hes:(es.all fun e=>match ops[e.1]? with|some oe=>oe.after.toList.any fun x=>x.on == i && Region.binds .any x|none=>false)=true) :
  wpOp prog ops Q i (cY c sk tab ops f (ls.setIfInBounds i true)) a w:=by
 refine cL ho hg ?_;unfold Oper.wp;have hr:=@RW prog t w;simp[execOp,hop,hr,Result.andThen];refine h.grow u hi ho hni hnt _ _ (Id _ _) ?_;intro d' e;rw[hd]at e
 cases e;rw[hk];refine⟨⟨_,rfl,h.ext.size,h.bm_lt (Mn _),h.bt_lt (Mn _),0,.map [],Rd _ _ _ _,by omega,j6 ld (by simp),fun e he hl=>?_⟩,fun _=>⟨_,rfl,Mn _⟩⟩;exfalso
 have hl':ls.getD e.1 false=true:=by
  rcases cF hl with e' | e'
  ·exact absurd e' (hni d es hk e he)
  ·exact e'
 rw[Nm]at hes;have h1:=hes e he
 cases hoe:ops[e.1]? with
 |none=>rw[hoe]at h1;cases h1
 |some oe =>
  rw[hoe]at h1;have h2:=h.cl e.1 oe i hoe hl' h1;have hr:=dE hi;rw[Mw]at hr h2
  cases e':ls[i]? with
  |none=>rw[e']at hr;cases hr
  |some x=>rw[e']at hr h2;exact absurd (hr.symm.trans h2) (by simp)
theorem Cg(u:Uniq ops)(h:KInv c sk tab ops (f+1) ls bm a w)(hi:0 ∈ Region.ready .any ops ls)(ho:ops[0]? = some o)(hg:o.guard=none)(hni:NI sk 0)(hnt:jG tab 0)(hf200:f<=190)(t d:Nat)(hop:o.op = .makeMap t none)(hd:o.dst=some d)(hk:sk d = .mm)
  (hes:(tab.all fun e=>match ops[e.1]? with|some oe=>oe.after.toList.any fun x=>x.on == 0 && Region.binds .any x|none=>false)=true) :
  wpOp prog ops Q 0 (cY c sk tab ops f (ls.setIfInBounds 0 true)) a w:=by
 refine cL ho hg ?_;unfold Oper.wp;have hr:=@RW prog t w;simp[execOp,hop,hr,Result.andThen];have hn0:ls.getD 0 true=false:=dE hi
 have hl0:ls.getD 0 false=false:=by
  rw[Mw]at hn0 ⊢
  cases e:ls[0]? with
  |none=>rfl
  |some x=>rw[e]at hn0;exact hn0
 have hnone:bm=none:=h.fst hl0;subst hnone;have hx:=Id w (.map #[] 0);refine h.step u hi ho _ _ (some w.heap.size) (fun d' hf=>(h.fits d' hf).on (fun _ _ _ hb=>hb.ext hx) (fun _ _ _ _ _ hm=>hm.ext hx) (h.keep u hi ho _) (hni d') (fun b hb _ e=>by cases e;omega) (fun _ e=>by cases e)) ?_ (h.ext.trans hx) (fun _ _ _ hb=>hb.ext hx) (h.tr.ext hx) ?_ ?_
 ·refine dJ hd (by rw[hk];exact⟨_,rfl,rfl⟩) (by rw[hk];rfl)
 ·intro b e
  cases e;refine⟨h.ext.size,h.bt_lt (Mn _),0,.map [],Rd _ _ _ _,by omega,j6 ld (by simp),fun e he hl=>?_⟩;exfalso
  have hl':ls.getD e.1 false=true:=by
   rcases cF hl with e' | e'
   ·exact absurd e' (hnt e he)
   ·exact e'
  rw[Nm]at hes;have h1:=hes e he
  cases hoe:ops[e.1]? with
  |none=>rw[hoe]at h1;cases h1
  |some oe =>
   rw[hoe]at h1;have h2:=h.cl e.1 oe 0 hoe hl' h1;rw[hl0]at h2
   cases h2
 ·intro hn
  have:(ls.setIfInBounds 0 true).getD 0 false=true:=by
   have hlt:=bP hi;rw[←h.size]at hlt;rw[Mw,OQ hlt];rfl
  rw[this]at hn
  cases hn
theorem dc(u:Uniq ops)(h:KInv c sk tab ops (f+1) ls bm a w)(hi:i ∈ Region.ready .any ops ls)(ho:ops[i]? = some o)(hg:o.guard=none)(m s k:Nat)(x:Operand)(es:List (Nat × Nat × Bool × Bool))(p q:Bool)(hni:∀d es',d≠m->sk d = .nm es'->∀e ∈ es',e.1≠i)(hnt:jG tab i)
  (hop:o.op = .insert 101 (.tmp m) (.const (.int .i64 (k:Nat))) x) (hxs:∀a:Act,a.eval x=bV a s) (hd:o.dst=none) (hf:aN ops ls m) (hk:sk m = .nm es) (hfs:aN ops ls s) (hks:sk s = .lv p q) (hk13:k<13) (hin:(i,k,p,q) ∈ es) (hon:∀e ∈ es,e.1≠i->e.2.1≠k) (heq:∀e ∈ es,e.1=i->e=(i,k,p,q)) :
  wpOp prog ops Q i (cY c sk tab ops f (ls.setIfInBounds i true)) a w:=by
 refine cL ho hg ?_;unfold Oper.wp;have hm:=h.fits m hf;rw[hk]at hm;obtain⟨b,e,h1,h2,h2',n,D,h3,h4,h5,h6⟩:=hm;have e':a.tmps.getD m undef = .map (some b):=e;have hl:=h.fits s hfs;rw[hks]at hl;have hl:dw w (a.eval x) p q:=by rw[hxs];exact hl
 obtain⟨w',hrun,hM,hG⟩:=h3.update (t:=101) (e:=163) gF Pa (by unfold maxLen;omega) (mF (k:Nat) (by omega)) (val:=a.eval x) rfl;simp[execOp,hop,fM,eY,e',hrun,Result.andThen];have hG':Only b w w':=hG;have hblk:∀g t cs,Blk w g t cs->Blk w' g t cs:=fun g t cs hb=>ui hb h3 hG'
 have hk0:=h.keep u hi ho undef;have hmd:gN (bV a m)=some b:=by rw[e];rfl
 have key:=h.step u hi ho undef w' bm (fun d hf'=>?_) (fun d e=>by rw[hd]at e;cases e) (h.ext.only hG' h1) hblk (h.tr.on hblk (fun n D hm=>hm.only hG' (fun ee=>h2' ee.symm))) (fun b' eb=>(h.main b' eb).on (fun n D hm=>hm.only hG' (fun ee=>h2 (by rw[eb,ee]))) hk0 hnt) h.fst_keep
 ·exact key
 ·by_cases ed:d=m
  ·subst ed;rw[hk,e];refine⟨b,rfl,h1,h2,h2',n+1,_,hM,by omega,iw h5 k (MH.2 ⟨_,hin,rfl⟩) _,fun e2 he2 hl2=>?_⟩;by_cases ei:e2.1=i
   ·have:=heq e2 he2 ei;subst this
    exact(lZ h3.isMap k hl).on hblk
   ·refine(lh (h6 e2 he2 ?_) (hon e2 he2 ei) _).on hblk;rcases cF hl2 with e3|e3
    ·exact absurd e3 ei
    ·exact e3
  ·refine(h.fits d hf').on hblk (fun hown b' n' D' hb' hm'=>?_) hk0 (fun es' hs'=>hni d es' ed hs') (fun _ _ e=>e) (fun _ e=>e);have:=h.dist d m ed hf' hf hown (by rw[hk];rfl);rw[hb',hmd]at this
   exact hm'.only hG' (fun ee=>this (by rw[ee]))
theorem cw(u:Uniq ops)(h:KInv c sk tab ops (f+1) ls bm a w)(hi:i ∈ Region.ready .any ops ls)(ho:ops[i]? = some o)(hg:o.guard=none)(m s k:Nat)(x:Operand)(hni:NI sk i)
  (hop:o.op = .insert 105 (.tmp m) (.const (.int .i64 (k:Nat))) x) (hxs:∀a:Act,a.eval x=bV a s) (hd:o.dst=none) (hf:aN ops ls m) (hk:sk m = .mm) (hfs:aN ops ls s) (hk13:k<100) (hin:(i,k,s) ∈ tab) (hon:∀e ∈ tab,e.1≠i->e.2.1≠k) (heq:∀e ∈ tab,e.1=i->e=(i,k,s)) :
  wpOp prog ops Q i (cY c sk tab ops f (ls.setIfInBounds i true)) a w:=by
 refine cL ho hg ?_;unfold Oper.wp;have hm:=h.fits m hf;rw[hk]at hm;obtain⟨b,e,eb⟩:=hm;have e':a.tmps.getD m undef = .map (some b):=e;obtain⟨h1,h2,n,D,h3,h4,h5,h6⟩:=h.main b eb;obtain⟨w',hrun,hM,hG⟩:=h3.update (t:=105) (e:=103) gF underlying105 (by unfold maxLen;omega) (mF (k:Nat) (by omega)) (val:=a.eval x) rfl;simp[execOp,hop,fM,eY,e',hrun,Result.andThen];have hG':Only b w w':=hG;have hblk:∀g t cs,Blk w g t cs->Blk w' g t cs:=fun g t cs hb=>ui hb h3 hG'
 have hk0:=h.keep u hi ho undef;have key:=h.step u hi ho undef w' bm (fun d hf'=>?_) (fun d e=>by rw[hd]at e;cases e) (h.ext.only hG' h1) hblk (h.tr.on hblk (fun n D hm=>hm.only hG' (fun ee=>h2 ee.symm))) (fun b' eb'=>?_) h.fst_keep
 ·exact key
 ·have hF:=h.fits d hf';refine hF.on hblk (fun hown b' n' D' hb' hm'=>hm'.only hG' (fun ee=>?_)) hk0 (fun es' hs'=>hni d es' hs') (fun _ _ e=>e) (fun _ e=>e);subst ee;generalize sk d=kd at *;generalize bV a d=vd at *
  cases kd with
  |nm es =>
   obtain⟨b2,rfl,_,g2,_⟩:=hF;have:b2=b':=by simpa[gN] using hb'
   exact g2 (by rw[this,eb])
  |ka word =>
   obtain⟨b2,rfl,_,g2,_⟩:=hF;have:b2=b':=by simpa[gN,uk,aH,ew] using hb'
   exact g2 (by rw[this,eb])
  |_=>cases hown
 ·rw[eb]at eb'
  cases eb';refine⟨h1,h2,n+1,_,hM,by omega,iw h5 k (MH.2 ⟨_,hin,rfl⟩) _,fun e2 he2 hl2=>?_⟩;by_cases ei:e2.1=i
  ·have:=heq e2 he2 ei;subst this
   exact⟨ey hfs,Maps.has_put_same h3.isMap (tw _) _,fun z=>by rw[hk0 _ hfs,←hxs];exact Maps.atKey_put_same h3.isMap (tw _) _ z⟩
  ·have hl3:ls.getD e2.1 false=true:=by
    rcases cF hl2 with e3|e3
    ·exact absurd e3 ei
    ·exact e3
   obtain⟨g1,g2,g3⟩:=h6 e2 he2 hl3;have hl:(Lit.int .i64 (e2.2.1:Nat))≠Lit.int .i64 (k:Nat):=fun h=>hon e2 he2 ei (by have:=(Lit.int.inj h).2;omega)
   exact⟨ey g1,(Q9 hl _).trans g2,fun z=>by rw[hk0 _ g1];exact(Maps.atKey_put_other hl _ z).trans (g3 z)⟩
end
section
variable {c:KC} {sk:Nat->KK} {tab:List (Nat × Nat × Nat)} {ops:Array Oper} {f:Nat} {ls:Array Bool} {bm:Option Nat} {a:Act} {w:World} {i:Nat} {o:Oper} {Q:Exit->Act->World->Prop}
theorem l7(u:Uniq ops)(h:KInv c sk tab ops (f+1) ls bm a w)(hi:i ∈ Region.ready .any ops ls)(ho:ops[i]? = some o)(hg:o.guard=none)(hni:NI sk i)(hnt:jG tab i)(m0 d:Nat)(hop:o.op = .buildSlice 165 1 #[(0,.const (.int .i64 (m0:Nat)))])(hd:o.dst=some d)(hk:sk d = .sl [m0]) :
  wpOp prog ops Q i (cY c sk tab ops f (ls.setIfInBounds i true)) a w:=by
 refine cL ho hg ?_
 have key:cY c sk tab ops f (ls.setIfInBounds i true) (a.put o.dst (.slice (some ⟨w.heap.size,0,none⟩) 1 1)) (w.alloc (.cells #[.int .i64 (m0:Nat)] 3)) :=
  h.grow u hi ho hni hnt _ _ (Id _ _) (dJ hd (by rw[hk];exact⟨_,rfl,ID _ _ _⟩) (by rw[hk];rfl))
 rw[hd]at key;unfold Oper.wp;simp only[execOp,hop];go_simp;exact key
theorem l8(u:Uniq ops)(h:KInv c sk tab ops (f+1) ls bm a w)(hi:i ∈ Region.ready .any ops ls)(ho:ops[i]? = some o)(hg:o.guard=none)(hni:NI sk i)(hnt:jG tab i)(m0 m1 d:Nat)(hop:o.op = .buildSlice 165 2 #[(0,.const (.int .i64 (m0:Nat))),(1,.const (.int .i64 (m1:Nat)))])(hd:o.dst=some d)(hk:sk d = .sl [m0,m1]) :
  wpOp prog ops Q i (cY c sk tab ops f (ls.setIfInBounds i true)) a w:=by
 refine cL ho hg ?_
 have key:cY c sk tab ops f (ls.setIfInBounds i true) (a.put o.dst (.slice (some ⟨w.heap.size,0,none⟩) 2 2)) (w.alloc (.cells #[.int .i64 (m0:Nat),.int .i64 (m1:Nat)] 3)) :=
  h.grow u hi ho hni hnt _ _ (Id _ _) (dJ hd (by rw[hk];exact⟨_,rfl,ID _ _ _⟩) (by rw[hk];rfl))
 rw[hd]at key;unfold Oper.wp;simp only[execOp,hop];go_simp;exact key
theorem He(u:Uniq ops)(h:KInv c sk tab ops (f+1) ls bm a w)(hi:i ∈ Region.ready .any ops ls)(ho:ops[i]? = some o)(hg:o.guard=none)(hni:NI sk i)(hnt:jG tab i)(m0 m1 m2 d:Nat)(hop:o.op = .buildSlice 165 3 #[(0,.const (.int .i64 (m0:Nat))),(1,.const (.int .i64 (m1:Nat))),(2,.const (.int .i64 (m2:Nat)))])(hd:o.dst=some d)(hk:sk d = .sl [m0,m1,m2]) :
  wpOp prog ops Q i (cY c sk tab ops f (ls.setIfInBounds i true)) a w:=by
 refine cL ho hg ?_
 have key:cY c sk tab ops f (ls.setIfInBounds i true) (a.put o.dst (.slice (some ⟨w.heap.size,0,none⟩) 3 3)) (w.alloc (.cells #[.int .i64 (m0:Nat),.int .i64 (m1:Nat),.int .i64 (m2:Nat)] 3)) :=
  h.grow u hi ho hni hnt _ _ (Id _ _) (dJ hd (by rw[hk];exact⟨_,rfl,ID _ _ _⟩) (by rw[hk];rfl))
 rw[hd]at key;unfold Oper.wp;simp only[execOp,hop];go_simp;exact key
theorem Eu{x:ByteArray}{word:Bs}(h:x.data.toList=word):x=bs word:=by rw[←h];exact E8 x
theorem qE(u:Uniq ops)(h:KInv c sk tab ops (f+1) ls bm a w)(hi:i ∈ Region.ready .any ops ls)(ho:ops[i]? = some o)(hg:o.guard=none)(hni:NI sk i)(hnt:jG tab i)(s d:Nat)(x:ByteArray)(word:Bs)(tt:Array TypeId)(hop:o.op = .call { callee := .value (.tmp s),args:=#[.const (.string x)],argTypes:=tt })(hx:x.data.toList=word)(hd:o.dst=some d)(hk:sk d = .ka word)
  (hf:aN ops ls s) (hks:sk s = .am) :
  wpOp prog ops Q i (cY c sk tab ops f (ls.setIfInBounds i true)) a w:=by
 refine cL ho hg ?_;have hs:=h.fits s hf;rw[hks]at hs;have hs:a.eval (.tmp s)=c.amV:=hs;have HC:=E9 word c.G3 c.G1 c.lvP w h.lp h.b3 h.b1;rw[←Eu hx]at HC;unfold Oper.wp;rw[iu (fun _ _=>rfl) hop hs]
 have ea:(#[Operand.const (.string x)]:Array Operand).map a.eval++#[Value.pointer (some ⟨c.G3,0,none⟩),Value.pointer (some ⟨c.G1,0,none⟩)]=#[.string x,.pointer (some ⟨c.G3,0,none⟩),.pointer (some ⟨c.G1,0,none⟩)]:=by
  simp[eY]
 rw[ea];refine HC.mono ?_;rintro e w'⟨b,hb,hc,rfl,hx⟩;refine h.grow u hi ho hni hnt _ w' hx ?_;intro d' e;rw[hd]at e
 cases e;rw[hk];have:=h.ext.size;exact⟨⟨b,rfl,by omega,h.bm_lt hb,h.bt_lt hb,hc⟩,fun _=>⟨b,rfl,hb⟩⟩
theorem j8(u:Uniq ops)(h:KInv c sk tab ops (f+1) ls bm a w)(hi:i ∈ Region.ready .any ops ls)(ho:ops[i]? = some o)(hg:o.guard=none)(hni:NI sk i)(hnt:jG tab i)(s m l d m0:Nat)(x:ByteArray)(word:Bs)(cl:Int)(tt:Array TypeId)(es:List (Nat × Nat × Bool × Bool))(ms:List Nat)(bits:List Bool)
  (hop:o.op = .call { callee := .value (.tmp s),args:=#[.const (.string x),.const (.int .i64 cl),.tmp m,.tmp l],argTypes:=tt }) (hx:x.data.toList=word) (hd:o.dst=some d) (hk:sk d = .kd word cl bits (some m0) false)
  (hf:aN ops ls s) (hks:sk s = .mk) (hfm:aN ops ls m) (hkm:sk m = .tn m0 es) (hk0:sk m0 = .nm es) (hfl:aN ops ls l) (hkl:sk l = .sl ms)
  (hms:∀x ∈ ms,x<13) (hml:ms.length<=1000) (h13:∀k ∈ es.map (·.2.1),k<13) (hbits:aQ ms (iV (es.map (·.2.1)))=bits) :
  wpOp prog ops Q i (cY c sk tab ops f (ls.setIfInBounds i true)) a w:=by
 refine cL ho hg ?_;have hs:=h.fits s hf;rw[hks]at hs;have hs:a.eval (.tmp s)=fL:=hs;have hm:=h.fits m hfm;rw[hkm]at hm;obtain⟨em,hf0,hall⟩:=hm;have h0:=h.fits m0 hf0;rw[hk0]at h0;obtain⟨b,e0,_,_,_,n,D,h3,h4,h5,h6⟩:=h0;have em':a.tmps.getD m undef = .map (some b):=em.trans e0;have hl:=h.fits l hfl;rw[hkl]at hl;have hsl:rG w (a.tmps.getD l undef) ms:=hl;obtain⟨g,el,hr⟩:=hsl.rdi
 have hkb:fB D=iV (es.map (·.2.1)):=by
  have:=mI (w:=w) (D:=D) (es:=es.map (·.2)) (by rw[OH];exact h5) (fun e he=>by
   rw[MH]at he;obtain⟨e2,he2,rfl⟩:=he;exact h6 e2 he2 (hall e2 he2))
  rw[OH]at this
  exact this
 have HC:=nA word cl b n D ms _ ms.length w h3 (oZ h5 h13) hr hms hml;rw[←Eu hx,hkb,hbits]at HC;unfold Oper.wp;rw[iu (fun _ _=>rfl) hop hs]
 have ea:(#[Operand.const (.string x),.const (.int .i64 cl),.tmp m,.tmp l]:Array Operand).map a.eval++#[]=#[.string x,.int .i64 cl,.map (some b),.slice (some ⟨g,0,none⟩) ms.length ms.length]:=by
  simp[fM,eY,em',el]
 rw[ea];refine HC.mono ?_;rintro e w'⟨rfl,hx'⟩;refine h.grow u hi ho hni hnt _ w' hx' (dJ hd ?_ (by rw[hk];rfl));rw[hk];refine⟨?_,fun s hs=>by cases hs;exact ey hf0⟩;have:bV (a.put o.dst (kv word cl bits (.map (some b)) false)) m0 = .map (some b):=(h.keep u hi ho _ m0 hf0).trans e0;unfold pE;dsimp only;rw[this]
theorem zy(u:Uniq ops)(h:KInv c sk tab ops (f+1) ls bm a w)(hi:i ∈ Region.ready .any ops ls)(ho:ops[i]? = some o)(hg:o.guard=none)(hni:NI sk i)(hnt:jG tab i)(s m l d m0:Nat)(x:ByteArray)(word:Bs)(cl:Int)(tt:Array TypeId)(ms:List Nat)(bits:List Bool)
  (hop:o.op = .call { callee := .value (.tmp s),args:=#[.const (.string x),.const (.int .i64 cl),.tmp m,.tmp l],argTypes:=tt }) (hx:x.data.toList=word) (hd:o.dst=some d) (hk:sk d = .kd word cl bits (some m0) false)
  (hf:aN ops ls s) (hks:sk s = .mk) (hfm:aN ops ls m) (hkm:sk m = .tn m0 []) (hk0:sk m0 = .tm) (hfl:aN ops ls l) (hkl:sk l = .sl ms)
  (hms:∀x ∈ ms,x<13) (hml:ms.length<=1000) (hbits:aQ ms (iV [4,5,6])=bits) :
  wpOp prog ops Q i (cY c sk tab ops f (ls.setIfInBounds i true)) a w:=by
 refine cL ho hg ?_;have hs:=h.fits s hf;rw[hks]at hs;have hs:a.eval (.tmp s)=fL:=hs;have hm:=h.fits m hfm;rw[hkm]at hm;obtain⟨em,hf0,_⟩:=hm;have h0:=h.fits m0 hf0;rw[hk0]at h0;have e0:bV a m0 = .map (some c.Bt):=h0;have em':a.tmps.getD m undef = .map (some c.Bt):=em.trans e0;obtain⟨n,D,h3,_,h5,h6⟩:=h.tr;have hl:=h.fits l hfl;rw[hkl]at hl;have hsl:rG w (a.tmps.getD l undef) ms:=hl;obtain⟨g,el,hr⟩:=hsl.rdi;have hkb:fB D=iV [4,5,6]:=mI (w:=w) (D:=D) (es:=jQ) h5 h6;have HC:=nA word cl c.Bt n D ms _ ms.length w h3 (oZ h5 (by decide)) hr hms hml;rw[←Eu hx,hkb,hbits]at HC;unfold Oper.wp;rw[iu (fun _ _=>rfl) hop hs]
 have ea:(#[Operand.const (.string x),.const (.int .i64 cl),.tmp m,.tmp l]:Array Operand).map a.eval++#[]=#[.string x,.int .i64 cl,.map (some c.Bt),.slice (some ⟨g,0,none⟩) ms.length ms.length]:=by
  simp[fM,eY,em',el]
 rw[ea];refine HC.mono ?_;rintro e w'⟨rfl,hx'⟩;refine h.grow u hi ho hni hnt _ w' hx' (dJ hd ?_ (by rw[hk];rfl));rw[hk];refine⟨?_,fun s hs=>by cases hs;exact ey hf0⟩;have:bV (a.put o.dst (kv word cl bits (.map (some c.Bt)) false)) m0 = .map (some c.Bt):=(h.keep u hi ho _ m0 hf0).trans e0;unfold pE;dsimp only;rw[this]
theorem zz(u:Uniq ops)(h:KInv c sk tab ops (f+1) ls bm a w)(hi:i ∈ Region.ready .any ops ls)(ho:ops[i]? = some o)(hg:o.guard=none)(hni:NI sk i)(hnt:jG tab i)(s l d:Nat)(x:ByteArray)(word:Bs)(cl:Int)(tt:Array TypeId)(ms:List Nat)(bits:List Bool)
  (hop:o.op = .call { callee := .value (.tmp s),args:=#[.const (.string x),.const (.int .i64 cl),.const (.map none),.tmp l],argTypes:=tt }) (hx:x.data.toList=word) (hd:o.dst=some d) (hk:sk d = .kd word cl bits none false)
  (hf:aN ops ls s) (hks:sk s = .mk) (hfl:aN ops ls l) (hkl:sk l = .sl ms) (hms:∀x ∈ ms,x<13) (hml:ms.length<=1000) (hbits:aQ ms bh=bits) :
  wpOp prog ops Q i (cY c sk tab ops f (ls.setIfInBounds i true)) a w:=by
 refine cL ho hg ?_;have hs:=h.fits s hf;rw[hks]at hs;have hs:a.eval (.tmp s)=fL:=hs;have hl:=h.fits l hfl;rw[hkl]at hl;have hsl:rG w (a.tmps.getD l undef) ms:=hl;obtain⟨g,el,hr⟩:=hsl.rdi;have HC:=B7 word cl ms _ ms.length w hr hms hml;rw[←Eu hx,hbits]at HC;unfold Oper.wp;rw[iu (fun _ _=>rfl) hop hs]
 have ea:(#[Operand.const (.string x),.const (.int .i64 cl),.const (.map none),.tmp l]:Array Operand).map a.eval++#[]=#[.string x,.int .i64 cl,.map none,.slice (some ⟨g,0,none⟩) ms.length ms.length]:=by
  simp[fM,eY,el]
 rw[ea];refine HC.mono ?_;rintro e w'⟨rfl,hx'⟩;refine h.grow u hi ho hni hnt _ w' hx' (dJ hd ?_ (by rw[hk];rfl));rw[hk];exact⟨rfl,fun s hs=>by cases hs⟩
theorem Ev(u:Uniq ops)(h:KInv c sk tab ops (f+1) ls bm a w)(hi:i ∈ Region.ready .any ops ls)(ho:ops[i]? = some o)(hg:o.guard=none)(hni:NI sk i)(hnt:jG tab i)(s x d m0:Nat)(word:Bs)(cl:Int)(bits:List Bool)(es:List (Nat × Nat × Bool × Bool))(tt:Array TypeId)(hop:o.op = .call { callee := .value (.tmp s),args:=#[.tmp x],argTypes:=tt })(hd:o.dst=some d)(hk:sk d = .kd word cl bits (some m0) true)
  (hf:aN ops ls s) (hks:sk s = .wc) (hfx:aN ops ls x) (hkx:sk x = .kd word cl bits (some m0) false) (hk0:sk m0 = .nm es) (hb:bits.length=13) :
  wpOp prog ops Q i (cY c sk tab ops f (ls.setIfInBounds i true)) a w:=by
 refine cL ho hg ?_;have hs:=h.fits s hf;rw[hks]at hs;have hs:a.eval (.tmp s)=Lh:=hs;have hx:=h.fits x hfx;rw[hkx]at hx;obtain⟨ex,hsrc⟩:=hx;have hf0:=hsrc m0 rfl;have h0:=h.fits m0 hf0;rw[hk0]at h0;obtain⟨b,e0,_⟩:=h0;unfold pE at ex;dsimp only at ex;rw[e0]at ex;have ex':a.tmps.getD x undef=kv word cl bits (.map (some b)) false:=ex;have HC:=Fa word cl bits (.map (some b)) false w hb rfl;unfold Oper.wp;rw[iu (fun _ _=>rfl) hop hs]
 have ea:(#[Operand.tmp x]:Array Operand).map a.eval++#[]=#[kv word cl bits (.map (some b)) false]:=by
  simp[fM,ex']
 rw[ea];refine HC.mono ?_;rintro e w'⟨rfl,hx'⟩;refine h.grow u hi ho hni hnt _ w' hx' (dJ hd ?_ (by rw[hk];rfl));rw[hk];refine⟨?_,fun s hs=>by cases hs;exact ey hf0⟩;have:bV (a.put o.dst (kv word cl bits (.map (some b)) true)) m0 = .map (some b):=(h.keep u hi ho _ m0 hf0).trans e0;unfold pE;dsimp only;rw[this]
theorem Jc(u:Uniq ops)(h:KInv c sk tab ops (f+1) ls bm a w)(hi:i ∈ Region.ready .any ops ls)(ho:ops[i]? = some o)(hg:o.guard=none)(hni:NI sk i)(hnt:jG tab i)(d:Nat)(p q:Bool)(tt:Array TypeId)(hop:o.op = .call { callee := .value (.func 129),args:=#[.const (.bool p),.const (.bool q)],argTypes:=tt })(hd:o.dst=some d)(hk:sk d = .lv p q) :
  wpOp prog ops Q i (cY c sk tab ops f (ls.setIfInBounds i true)) a w:=by
 refine cL ho hg ?_;unfold Oper.wp;rw[iu (cb:=#[]) (fun _ _=>rfl) hop rfl]
 have ea:(#[Operand.const (.bool p),.const (.bool q)]:Array Operand).map a.eval++#[]=#[.bool p,.bool q]:=by
  simp[eY]
 rw[ea];refine(jE p q w).mono ?_;rintro e w'⟨rfl,h1,h2,hx⟩;exact h.grow u hi ho hni hnt _ w' hx (dJ hd (by rw[hk];exact⟨_,_,rfl,h1,h2⟩) (by rw[hk];rfl))
end
end
end Go.Proofs.YtaegjkllenlfpaaGreatDoor
