/- The seat's texts, part P24. -/
import Derived.Test.YthgpheopnhajaaaGreatDoorP18
import Derived.Test.YthgpheopnhajaaaGreatDoorP23
set_option maxRecDepth 100000
set_option maxHeartbeats 8000000
namespace Go.Proofs.YthgpheopnhajaaaGreatDoor
section
open Go.RowKit
open Go.Maps (Keyed)
attribute [local go_sem] size_bs toList_bs
section
variable {c:KC} {sk:Nat→KK} {tab:List (Nat × Nat × Nat)} {ops:Array Oper} {f:Nat} {ls:Array Bool} {bm bm':Option Nat} {a:Act} {w w':World} {i:Nat} {o:Oper} {Q:Exit→Act→World→Prop} {T T':Tm} {k:KK} {v:Value}
theorem mv.on(h:mv c (f+1) ops ls bm T w k v)(hblk:∀g t cs,Blk w g t cs→Blk w' g t cs)(hmap:k.own=true→∀b n D,gO v=some b→bW w b n D→bW w' b n D)
  (hT:∀d,aY ops ls d→T' d=T d) (hni:∀es,k = .nm es→∀e ∈ es,e.1≠i) (hb1:∀b,b<w.heap.size→some b≠bm→some b≠bm') (hb2:∀b,bm=some b→bm'=some b) :
  mv c f ops (ls.setIfInBounds i true) bm' T' w' k v:=by
 cases k with
 |lv p q=>exact dV.on h hblk
 |mk=>exact h
 |am=>exact h
 |wc=>exact h
 |mm=>obtain⟨b,e,hb⟩:=h;exact⟨b,e,hb2 b hb⟩
 |tm=>exact h
 |no=>trivial
 |nm es =>
  obtain⟨b,rfl,h1,h2,h3,n,D,h4,h5,h6,h7⟩:=h;refine⟨b,rfl,h1,hb1 b h4.lt h2,h3,n,D,hmap rfl b n D rfl h4,by omega,h6,fun e he hl=>(h7 e he ?_).on hblk⟩;rcases bG hl with e' | e'
  ·exact absurd e' (hni es rfl e he)
  ·exact e'
 |tn s es =>
  obtain⟨h1,h2,h3⟩:=h;exact⟨by rw[hT s h2];exact h1,eH h2,fun e he=>ij (h3 e he)⟩
 |kd word cl bits src code =>
  obtain⟨h1,h2⟩:=h;refine⟨?_,fun s hs=>eH (h2 s hs)⟩
  cases src with
  |none=>exact h1
  |some s =>
   have:T' s=T s:=hT s (h2 s rfl);rw[h1];unfold oN;dsimp only;rw[this]
 |ka word =>
  obtain⟨b,rfl,h1,h2,h3,h4⟩:=h;exact⟨b,rfl,h1,hb1 b h4.lt h2,h3,h4.on hblk (fun n D=>hmap rfl b n D (by rfl))⟩
 |sl ms =>
  obtain⟨g,e,hg⟩:=h;exact⟨g,e,hblk _ _ _ hg⟩
theorem pu.on{b:Nat}(h:pu c tab (f+1) ops ls T b w)(hm:∀n D,bW w b n D→bW w' b n D)(hT:∀d,aY ops ls d→T' d=T d)(hne:∀e ∈ tab,e.1≠i):pu c tab f ops (ls.setIfInBounds i true) T' b w':=by
 obtain⟨h1,h2,n,D,h3,h4,h5,h6⟩:=h;refine⟨h1,h2,n,D,hm n D h3,by omega,h5,fun e he hl=>?_⟩;rcases bG hl with e' | e'
 ·exact absurd e' (hne e he)
 ·obtain⟨g1,g2,g3⟩:=h6 e he e';exact⟨eH g1,g2,fun z=>by rw[hT _ g1];exact g3 z⟩
theorem KInv.keep(u:Uniq ops)(_h:KInv c sk tab ops (f+1) ls bm a w)(hi:i ∈ Region.ready .any ops ls)(ho:ops[i]? = some o)(v:Value):∀d,aY ops ls d→cK (a.put o.dst v) d=cK a d :=
 fun _ hf=>tj fun _ hd' e=>u.fresh hi ho hd' (e ▸ hf)
theorem KInv.fst_keep(h:KInv c sk tab ops (f+1) ls bm a w)(hn:(ls.setIfInBounds i true).getD 0 false=false):bm=none:=h.fst (by
 cases hl:ls.getD 0 false
 ·rfl
 ·rw[ij hl]at hn;cases hn)
theorem KInv.grow(u:Uniq ops)(h:KInv c sk tab ops (f+1) ls bm a w)(hi:i ∈ Region.ready .any ops ls)(ho:ops[i]? = some o)(hni:∀d es,sk d = .nm es→∀e ∈ es,e.1≠i)(hnt:∀e ∈ tab,e.1≠i)(v:Value)(w':World)(hx:Ext w w')
  (hnew:∀d,o.dst=some d→mv c f ops (ls.setIfInBounds i true) bm (cK (a.put o.dst v)) w' (sk d) v∧((sk d).own=true→∃b,gO v=some b∧w.heap.size≤b)) :
  dC c sk tab ops f (ls.setIfInBounds i true) (a.put o.dst v) w' :=
 h.step u hi ho v w' bm (fun d hf=>(h.fits d hf).on (fun _ _ _ hb=>hb.ext hx) (fun _ _ _ _ _ hm=>hm.ext hx) (h.keep u hi ho v) (hni d) (fun _ _ e=>e) (fun _ e=>e))
  hnew (h.ext.trans hx) (fun _ _ _ hb=>hb.ext hx) (h.tr.ext hx) (fun b e=>(h.main b e).on (fun _ _ hm=>hm.ext hx) (h.keep u hi ho v) hnt) h.fst_keep
theorem KInv.bm_lt(h:KInv c sk tab ops f ls bm a w){b:Nat}(hb:w.heap.size≤b):some b≠bm:=fun e=>by
 obtain⟨_,_,n,D,hm,_⟩:=h.main b e.symm;have:=hm.lt;omega
theorem KInv.bt_lt(h:KInv c sk tab ops f ls bm a w){b:Nat}(hb:w.heap.size≤b):b≠c.Bt:=fun e=>by
 have:=h.tr.lt;omega
abbrev NI(sk:Nat→KK)(i:Nat):Prop:=∀d es,sk d = .nm es→∀e ∈ es,e.1≠i
abbrev jy(tab:List (Nat × Nat × Nat))(i:Nat):Prop:=∀e ∈ tab,e.1≠i
theorem d9{d:Nat}{w1:World}(hd:o.dst=some d)(h1:mv c f ops ls bm T w1 (sk d) v)(h2:(sk d).own=false):∀d,o.dst=some d→mv c f ops ls bm T w1 (sk d) v∧((sk d).own=true→∃b,gO v=some b∧w.heap.size≤b):=fun d' e=>by
 rw[hd]at e
 cases e;exact⟨h1,fun ho=>by rw[h2]at ho;cases ho⟩
theorem dH(u:Uniq ops)(h:KInv c sk tab ops (f+1) ls bm a w)(hi:i ∈ Region.ready .any ops ls)(ho:ops[i]? = some o)(hg:o.guard=none)(hni:NI sk i)(hnt:jy tab i)(m d:Nat)(hop:o.op = .move (.tmp m)∨o.op = .assign (.tmp m))(hd:o.dst=some d)(hf:aY ops ls m)(hk:sk d=sk m)(hw:(sk m).own=false) :
  wpOp Tryz.prog ops Q i (dC c sk tab ops f (ls.setIfInBounds i true)) a w:=by
 refine cZ ho hg ?_
 have key:dC c sk tab ops f (ls.setIfInBounds i true) (a.put o.dst (a.eval (.tmp m))) w :=
  h.grow u hi ho hni hnt _ w (Ext.refl _) (d9 hd (by
   rw[hk];exact(h.fits m hf).on (fun _ _ _ hb=>hb) (fun _ _ _ _ _ hm=>hm) (h.keep u hi ho _) (hni m) (fun _ _ e=>e) (fun _ e=>e)) (by rw[hk];exact hw))
 unfold Oper.wp;rcases hop with hop|hop
 ·simp only[execOp,hop];exact key
 ·simp only[execOp,hop];exact key
theorem eu(u:Uniq ops)(h:KInv c sk tab ops (f+1) ls bm a w)(hi:i ∈ Region.ready .any ops ls)(ho:ops[i]? = some o)(hg:o.guard=none)(hni:NI sk i)(hnt:jy tab i)(m d:Nat)(es:List (Nat × Nat × Bool × Bool))(hop:o.op = .move (.tmp m))(hd:o.dst=some d)(hf:aY ops ls m)(hk:sk d = .tn m es)
  (hes:(es.all fun e=>o.after.toList.any fun x=>x.on == e.1 && Region.binds .any x)=true) :
  wpOp Tryz.prog ops Q i (dC c sk tab ops f (ls.setIfInBounds i true)) a w:=by
 refine cZ ho hg ?_
 have key:dC c sk tab ops f (ls.setIfInBounds i true) (a.put o.dst (a.eval (.tmp m))) w :=
  h.grow u hi ho hni hnt _ w (Ext.refl _) (d9 hd (by
   rw[hk];rw[List.all_eq_true]at hes;exact⟨(h.keep u hi ho _ m hf).symm,eH hf,fun e he=>ij (bq hi ho (hes e he))⟩) (by rw[hk];rfl))
 unfold Oper.wp;simp only[execOp,hop];exact key
theorem fk(u:Uniq ops)(h:KInv c sk tab ops (f+1) ls bm a w)(hi:i ∈ Region.ready .any ops ls)(ho:ops[i]? = some o)(hg:o.guard=none)(hni:NI sk i)(hnt:jy tab i)(d:Nat)(hop:o.op = .load 204 (.tmp 1))(hd:o.dst=some d)(hk:sk d = .lv true false) :
  wpOp Tryz.prog ops Q i (dC c sk tab ops f (ls.setIfInBounds i true)) a w:=by
 refine cZ ho hg ?_;unfold Oper.wp;have hr:=zL h.b1;have h1:a.tmps.getD 1 undef=_:=h.t1;simp[execOp,hop,fV,h1,hr,Result.andThen];exact h.grow u hi ho hni hnt _ w (Ext.refl _) (d9 hd (by rw[hk];exact h.lp) (by rw[hk];rfl))
theorem dD(u:Uniq ops)(h:KInv c sk tab ops (f+1) ls bm a w)(hi:i ∈ Region.ready .any ops ls)(ho:ops[i]? = some o)(hg:o.guard=none)(hni:NI sk i)(hnt:jy tab i)(d:Nat)(hop:o.op = .load 207 (.tmp 3))(hd:o.dst=some d)(hk:sk d = .mk) :
  wpOp Tryz.prog ops Q i (dC c sk tab ops f (ls.setIfInBounds i true)) a w:=by
 refine cZ ho hg ?_;unfold Oper.wp;have hr:=zM h.b3;have h3:a.tmps.getD 3 undef=_:=h.t3;simp[execOp,hop,fV,h3,hr,Result.andThen];exact h.grow u hi ho hni hnt _ w (Ext.refl _) (d9 hd (by rw[hk];rfl) (by rw[hk];rfl))
theorem fl(u:Uniq ops)(h:KInv c sk tab ops (f+1) ls bm a w)(hi:i ∈ Region.ready .any ops ls)(ho:ops[i]? = some o)(hg:o.guard=none)(hni:NI sk i)(hnt:jy tab i)(hf200:f≤190)(t d:Nat)(es:List (Nat × Nat × Bool × Bool))(hop:o.op = .makeMap t none)(hd:o.dst=some d)(hk:sk d = .nm es)
  (hes:(es.all fun e=>match ops[e.1]? with|some oe=>oe.after.toList.any fun x=>x.on == i && Region.binds .any x|none=>false)=true) :
  wpOp Tryz.prog ops Q i (dC c sk tab ops f (ls.setIfInBounds i true)) a w:=by
 refine cZ ho hg ?_;unfold Oper.wp;have hr:=@run_makeMap Tryz.prog t w;simp[execOp,hop,hr,Result.andThen];refine h.grow u hi ho hni hnt _ _ (Ext.new _ _) ?_;intro d' e;rw[hd]at e
 cases e;rw[hk];refine⟨⟨_,rfl,h.ext.size,h.bm_lt (Nat.le_refl _),h.bt_lt (Nat.le_refl _),0,.map [],World.ownsMap_made _ _ _ _,by omega,jZ kY (by simp),fun e he hl=>?_⟩,fun _=>⟨_,rfl,Nat.le_refl _⟩⟩;exfalso
 have hl':ls.getD e.1 false=true:=by
  rcases bG hl with e' | e'
  ·exact absurd e' (hni d es hk e he)
  ·exact e'
 rw[List.all_eq_true]at hes;have h1:=hes e he
 cases hoe:ops[e.1]? with
 |none=>rw[hoe]at h1;cases h1
 |some oe =>
  rw[hoe]at h1;have h2:=h.cl e.1 oe i hoe hl' h1;have hr:=cN hi;rw[Array.getD_eq_getD_getElem?]at hr h2
  cases e':ls[i]? with
  |none=>rw[e']at hr;cases hr
  |some x=>rw[e']at hr h2;exact absurd (hr.symm.trans h2) (by simp)
theorem Ad(u:Uniq ops)(h:KInv c sk tab ops (f+1) ls bm a w)(hi:0 ∈ Region.ready .any ops ls)(ho:ops[0]? = some o)(hg:o.guard=none)(hni:NI sk 0)(hnt:jy tab 0)(hf200:f≤190)(t d:Nat)(hop:o.op = .makeMap t none)(hd:o.dst=some d)(hk:sk d = .mm)
  (hes:(tab.all fun e=>match ops[e.1]? with|some oe=>oe.after.toList.any fun x=>x.on == 0 && Region.binds .any x|none=>false)=true) :
  wpOp Tryz.prog ops Q 0 (dC c sk tab ops f (ls.setIfInBounds 0 true)) a w:=by
 refine cZ ho hg ?_;unfold Oper.wp;have hr:=@run_makeMap Tryz.prog t w;simp[execOp,hop,hr,Result.andThen];have hn0:ls.getD 0 true=false:=cN hi
 have hl0:ls.getD 0 false=false:=by
  rw[Array.getD_eq_getD_getElem?]at hn0 ⊢
  cases e:ls[0]? with
  |none=>rfl
  |some x=>rw[e]at hn0;exact hn0
 have hnone:bm=none:=h.fst hl0;subst hnone;have hx:=Ext.new w (.map #[] 0);refine h.step u hi ho _ _ (some w.heap.size) (fun d' hf=>(h.fits d' hf).on (fun _ _ _ hb=>hb.ext hx) (fun _ _ _ _ _ hm=>hm.ext hx) (h.keep u hi ho _) (hni d') (fun b hb _ e=>by cases e;omega) (fun _ e=>by cases e)) ?_ (h.ext.trans hx) (fun _ _ _ hb=>hb.ext hx) (h.tr.ext hx) ?_ ?_
 ·refine d9 hd (by rw[hk];exact⟨_,rfl,rfl⟩) (by rw[hk];rfl)
 ·intro b e
  cases e;refine⟨h.ext.size,h.bt_lt (Nat.le_refl _),0,.map [],World.ownsMap_made _ _ _ _,by omega,jZ kY (by simp),fun e he hl=>?_⟩;exfalso
  have hl':ls.getD e.1 false=true:=by
   rcases bG hl with e' | e'
   ·exact absurd e' (hnt e he)
   ·exact e'
  rw[List.all_eq_true]at hes;have h1:=hes e he
  cases hoe:ops[e.1]? with
  |none=>rw[hoe]at h1;cases h1
  |some oe =>
   rw[hoe]at h1;have h2:=h.cl e.1 oe 0 hoe hl' h1;rw[hl0]at h2
   cases h2
 ·intro hn
  have:(ls.setIfInBounds 0 true).getD 0 false=true:=by
   have hlt:=cX hi;rw[←h.size]at hlt;rw[Array.getD_eq_getD_getElem?,Array.getElem?_setIfInBounds_self_of_lt hlt];rfl
  rw[this]at hn
  cases hn
theorem dE(u:Uniq ops)(h:KInv c sk tab ops (f+1) ls bm a w)(hi:i ∈ Region.ready .any ops ls)(ho:ops[i]? = some o)(hg:o.guard=none)(m s k:Nat)(x:Operand)(es:List (Nat × Nat × Bool × Bool))(p q:Bool)(hni:∀d es',d≠m→sk d = .nm es'→∀e ∈ es',e.1≠i)(hnt:jy tab i)
  (hop:o.op = .insert 142 (.tmp m) (.const (.int .i64 (k:Nat))) x) (hxs:∀a:Act,a.eval x=cK a s) (hd:o.dst=none) (hf:aY ops ls m) (hk:sk m = .nm es) (hfs:aY ops ls s) (hks:sk s = .lv p q) (hk13:k<13) (hin:(i,k,p,q) ∈ es) (hon:∀e ∈ es,e.1≠i→e.2.1≠k) (heq:∀e ∈ es,e.1=i→e=(i,k,p,q)) :
  wpOp Tryz.prog ops Q i (dC c sk tab ops f (ls.setIfInBounds i true)) a w:=by
 refine cZ ho hg ?_;unfold Oper.wp;have hm:=h.fits m hf;rw[hk]at hm;obtain⟨b,e,h1,h2,h2',n,D,h3,h4,h5,h6⟩:=hm;have e':a.tmps.getD m undef = .map (some b):=e;have hl:=h.fits s hfs;rw[hks]at hl;have hl:dV w (a.eval x) p q:=by rw[hxs];exact hl
 obtain⟨w',hrun,hM,hG⟩:=h3.update (t:=142) (e:=204) gI Tryz.underlying142 (by unfold maxLen;omega) (mp (k:Nat) (by omega)) (val:=a.eval x) rfl;simp[execOp,hop,fV,fh,e',hrun,Result.andThen];have hG':Only b w w':=hG;have hblk:∀g t cs,Blk w g t cs→Blk w' g t cs:=fun g t cs hb=>ta hb h3 hG'
 have hk0:=h.keep u hi ho undef;have hmd:gO (cK a m)=some b:=by rw[e];rfl
 have key:=h.step u hi ho undef w' bm (fun d hf'=>?_) (fun d e=>by rw[hd]at e;cases e) (h.ext.only hG' h1) hblk (h.tr.on hblk (fun n D hm=>hm.only hG' (fun ee=>h2' ee.symm))) (fun b' eb=>(h.main b' eb).on (fun n D hm=>hm.only hG' (fun ee=>h2 (by rw[eb,ee]))) hk0 hnt) h.fst_keep
 ·exact key
 ·by_cases ed:d=m
  ·subst ed;rw[hk,e];refine⟨b,rfl,h1,h2,h2',n+1,_,hM,by omega,im h5 k (List.mem_map.2 ⟨_,hin,rfl⟩) _,fun e2 he2 hl2=>?_⟩;by_cases ei:e2.1=i
   ·have:=heq e2 he2 ei;subst this
    exact(lQ h3.isMap k hl).on hblk
   ·refine(kZ (h6 e2 he2 ?_) (hon e2 he2 ei) _).on hblk;rcases bG hl2 with e3|e3
    ·exact absurd e3 ei
    ·exact e3
  ·refine(h.fits d hf').on hblk (fun hown b' n' D' hb' hm'=>?_) hk0 (fun es' hs'=>hni d es' ed hs') (fun _ _ e=>e) (fun _ e=>e);have:=h.dist d m ed hf' hf hown (by rw[hk];rfl);rw[hb',hmd]at this
   exact hm'.only hG' (fun ee=>this (by rw[ee]))
theorem cR(u:Uniq ops)(h:KInv c sk tab ops (f+1) ls bm a w)(hi:i ∈ Region.ready .any ops ls)(ho:ops[i]? = some o)(hg:o.guard=none)(m s k:Nat)(x:Operand)(hni:NI sk i)
  (hop:o.op = .insert 146 (.tmp m) (.const (.int .i64 (k:Nat))) x) (hxs:∀a:Act,a.eval x=cK a s) (hd:o.dst=none) (hf:aY ops ls m) (hk:sk m = .mm) (hfs:aY ops ls s) (hk13:k<100) (hin:(i,k,s) ∈ tab) (hon:∀e ∈ tab,e.1≠i→e.2.1≠k) (heq:∀e ∈ tab,e.1=i→e=(i,k,s)) :
  wpOp Tryz.prog ops Q i (dC c sk tab ops f (ls.setIfInBounds i true)) a w:=by
 refine cZ ho hg ?_;unfold Oper.wp;have hm:=h.fits m hf;rw[hk]at hm;obtain⟨b,e,eb⟩:=hm;have e':a.tmps.getD m undef = .map (some b):=e;obtain⟨h1,h2,n,D,h3,h4,h5,h6⟩:=h.main b eb;obtain⟨w',hrun,hM,hG⟩:=h3.update (t:=146) (e:=144) gI Tryz.underlying146 (by unfold maxLen;omega) (mp (k:Nat) (by omega)) (val:=a.eval x) rfl;simp[execOp,hop,fV,fh,e',hrun,Result.andThen];have hG':Only b w w':=hG;have hblk:∀g t cs,Blk w g t cs→Blk w' g t cs:=fun g t cs hb=>ta hb h3 hG'
 have hk0:=h.keep u hi ho undef;have key:=h.step u hi ho undef w' bm (fun d hf'=>?_) (fun d e=>by rw[hd]at e;cases e) (h.ext.only hG' h1) hblk (h.tr.on hblk (fun n D hm=>hm.only hG' (fun ee=>h2 ee.symm))) (fun b' eb'=>?_) h.fst_keep
 ·exact key
 ·have hF:=h.fits d hf';refine hF.on hblk (fun hown b' n' D' hb' hm'=>hm'.only hG' (fun ee=>?_)) hk0 (fun es' hs'=>hni d es' hs') (fun _ _ e=>e) (fun _ e=>e);subst ee;generalize sk d=kd at *;generalize cK a d=vd at *
  cases kd with
  |nm es =>
   obtain⟨b2,rfl,_,g2,_⟩:=hF;have:b2=b':=by simpa[gO] using hb'
   exact g2 (by rw[this,eb])
  |ka word =>
   obtain⟨b2,rfl,_,g2,_⟩:=hF;have:b2=b':=by simpa[gO,ti,aL,eG] using hb'
   exact g2 (by rw[this,eb])
  |_=>cases hown
 ·rw[eb]at eb'
  cases eb';refine⟨h1,h2,n+1,_,hM,by omega,im h5 k (List.mem_map.2 ⟨_,hin,rfl⟩) _,fun e2 he2 hl2=>?_⟩;by_cases ei:e2.1=i
  ·have:=heq e2 he2 ei;subst this
   exact⟨eH hfs,Maps.has_put_same h3.isMap (rP _) _,fun z=>by rw[hk0 _ hfs,←hxs];exact Maps.atKey_put_same h3.isMap (rP _) _ z⟩
  ·have hl3:ls.getD e2.1 false=true:=by
    rcases bG hl2 with e3|e3
    ·exact absurd e3 ei
    ·exact e3
   obtain⟨g1,g2,g3⟩:=h6 e2 he2 hl3;have hl:(Lit.int .i64 (e2.2.1:Nat))≠Lit.int .i64 (k:Nat):=fun h=>hon e2 he2 ei (by have:=(Lit.int.inj h).2;omega)
   exact⟨eH g1,(Maps.has_put_other hl _).trans g2,fun z=>by rw[hk0 _ g1];exact(Maps.atKey_put_other hl _ z).trans (g3 z)⟩
end
end
section
open Go.RowKit
open Go.Maps (Keyed)
attribute [local go_sem] size_bs toList_bs
section
variable {c:KC} {sk:Nat→KK} {tab:List (Nat × Nat × Nat)} {ops:Array Oper} {f:Nat} {ls:Array Bool} {bm:Option Nat} {a:Act} {w:World} {i:Nat} {o:Oper} {Q:Exit→Act→World→Prop}
theorem lR(u:Uniq ops)(h:KInv c sk tab ops (f+1) ls bm a w)(hi:i ∈ Region.ready .any ops ls)(ho:ops[i]? = some o)(hg:o.guard=none)(hni:NI sk i)(hnt:jy tab i)(m0 d:Nat)(hop:o.op = .buildSlice 206 1 #[(0,.const (.int .i64 (m0:Nat)))])(hd:o.dst=some d)(hk:sk d = .sl [m0]) :
  wpOp Tryz.prog ops Q i (dC c sk tab ops f (ls.setIfInBounds i true)) a w:=by
 refine cZ ho hg ?_
 have key:dC c sk tab ops f (ls.setIfInBounds i true) (a.put o.dst (.slice (some ⟨w.heap.size,0,none⟩) 1 1)) (w.alloc (.cells #[.int .i64 (m0:Nat)] 3)) :=
  h.grow u hi ho hni hnt _ _ (Ext.new _ _) (d9 hd (by rw[hk];exact⟨_,rfl,Blk.new _ _ _⟩) (by rw[hk];rfl))
 rw[hd]at key;unfold Oper.wp;simp only[execOp,hop];go_simp;exact key
theorem lS(u:Uniq ops)(h:KInv c sk tab ops (f+1) ls bm a w)(hi:i ∈ Region.ready .any ops ls)(ho:ops[i]? = some o)(hg:o.guard=none)(hni:NI sk i)(hnt:jy tab i)(m0 m1 d:Nat)(hop:o.op = .buildSlice 206 2 #[(0,.const (.int .i64 (m0:Nat))),(1,.const (.int .i64 (m1:Nat)))])(hd:o.dst=some d)(hk:sk d = .sl [m0,m1]) :
  wpOp Tryz.prog ops Q i (dC c sk tab ops f (ls.setIfInBounds i true)) a w:=by
 refine cZ ho hg ?_
 have key:dC c sk tab ops f (ls.setIfInBounds i true) (a.put o.dst (.slice (some ⟨w.heap.size,0,none⟩) 2 2)) (w.alloc (.cells #[.int .i64 (m0:Nat),.int .i64 (m1:Nat)] 3)) :=
  h.grow u hi ho hni hnt _ _ (Ext.new _ _) (d9 hd (by rw[hk];exact⟨_,rfl,Blk.new _ _ _⟩) (by rw[hk];rfl))
 rw[hd]at key;unfold Oper.wp;simp only[execOp,hop];go_simp;exact key
theorem D4(u:Uniq ops)(h:KInv c sk tab ops (f+1) ls bm a w)(hi:i ∈ Region.ready .any ops ls)(ho:ops[i]? = some o)(hg:o.guard=none)(hni:NI sk i)(hnt:jy tab i)(m0 m1 m2 d:Nat)(hop:o.op = .buildSlice 206 3 #[(0,.const (.int .i64 (m0:Nat))),(1,.const (.int .i64 (m1:Nat))),(2,.const (.int .i64 (m2:Nat)))])(hd:o.dst=some d)(hk:sk d = .sl [m0,m1,m2]) :
  wpOp Tryz.prog ops Q i (dC c sk tab ops f (ls.setIfInBounds i true)) a w:=by
 refine cZ ho hg ?_
 have key:dC c sk tab ops f (ls.setIfInBounds i true) (a.put o.dst (.slice (some ⟨w.heap.size,0,none⟩) 3 3)) (w.alloc (.cells #[.int .i64 (m0:Nat),.int .i64 (m1:Nat),.int .i64 (m2:Nat)] 3)) :=
  h.grow u hi ho hni hnt _ _ (Ext.new _ _) (d9 hd (by rw[hk];exact⟨_,rfl,Blk.new _ _ _⟩) (by rw[hk];rfl))
 rw[hd]at key;unfold Oper.wp;simp only[execOp,hop];go_simp;exact key
theorem Bz{x:ByteArray}{word:Bs}(h:x.data.toList=word):x=bs word:=by rw[←h];exact Cl x
theorem pw(u:Uniq ops)(h:KInv c sk tab ops (f+1) ls bm a w)(hi:i ∈ Region.ready .any ops ls)(ho:ops[i]? = some o)(hg:o.guard=none)(hni:NI sk i)(hnt:jy tab i)(s d:Nat)(x:ByteArray)(word:Bs)(tt:Array TypeId)(hop:o.op = .call { callee := .value (.tmp s),args:=#[.const (.string x)],argTypes:=tt })(hx:x.data.toList=word)(hd:o.dst=some d)(hk:sk d = .ka word)
  (hf:aY ops ls s) (hks:sk s = .am) :
  wpOp Tryz.prog ops Q i (dC c sk tab ops f (ls.setIfInBounds i true)) a w:=by
 refine cZ ho hg ?_;have hs:=h.fits s hf;rw[hks]at hs;have hs:a.eval (.tmp s)=c.amV:=hs;have HC:=Cm word c.G3 c.G1 c.lvP w h.lp h.b3 h.b1;rw[←Bz hx]at HC;unfold Oper.wp;rw[ik (fun _ _=>rfl) hop hs]
 have ea:(#[Operand.const (.string x)]:Array Operand).map a.eval++#[Value.pointer (some ⟨c.G3,0,none⟩),Value.pointer (some ⟨c.G1,0,none⟩)]=#[.string x,.pointer (some ⟨c.G3,0,none⟩),.pointer (some ⟨c.G1,0,none⟩)]:=by
  simp[fh]
 rw[ea];refine HC.mono ?_;rintro e w'⟨b,hb,hc,rfl,hx⟩;refine h.grow u hi ho hni hnt _ w' hx ?_;intro d' e;rw[hd]at e
 cases e;rw[hk];have:=h.ext.size;exact⟨⟨b,rfl,by omega,h.bm_lt hb,h.bt_lt hb,hc⟩,fun _=>⟨b,rfl,hb⟩⟩
theorem j5(u:Uniq ops)(h:KInv c sk tab ops (f+1) ls bm a w)(hi:i ∈ Region.ready .any ops ls)(ho:ops[i]? = some o)(hg:o.guard=none)(hni:NI sk i)(hnt:jy tab i)(s m l d m0:Nat)(x:ByteArray)(word:Bs)(cl:Int)(tt:Array TypeId)(es:List (Nat × Nat × Bool × Bool))(ms:List Nat)(bits:List Bool)
  (hop:o.op = .call { callee := .value (.tmp s),args:=#[.const (.string x),.const (.int .i64 cl),.tmp m,.tmp l],argTypes:=tt }) (hx:x.data.toList=word) (hd:o.dst=some d) (hk:sk d = .kd word cl bits (some m0) false)
  (hf:aY ops ls s) (hks:sk s = .mk) (hfm:aY ops ls m) (hkm:sk m = .tn m0 es) (hk0:sk m0 = .nm es) (hfl:aY ops ls l) (hkl:sk l = .sl ms)
  (hms:∀x ∈ ms,x<13) (hml:ms.length≤1000) (h13:∀k ∈ es.map (·.2.1),k<13) (hbits:bf ms (iL (es.map (·.2.1)))=bits) :
  wpOp Tryz.prog ops Q i (dC c sk tab ops f (ls.setIfInBounds i true)) a w:=by
 refine cZ ho hg ?_;have hs:=h.fits s hf;rw[hks]at hs;have hs:a.eval (.tmp s)=fw:=hs;have hm:=h.fits m hfm;rw[hkm]at hm;obtain⟨em,hf0,hall⟩:=hm;have h0:=h.fits m0 hf0;rw[hk0]at h0;obtain⟨b,e0,_,_,_,n,D,h3,h4,h5,h6⟩:=h0;have em':a.tmps.getD m undef = .map (some b):=em.trans e0;have hl:=h.fits l hfl;rw[hkl]at hl;have hsl:mS w (a.tmps.getD l undef) ms:=hl;obtain⟨g,el,hr⟩:=hsl.rdi
 have hkb:fH D=iL (es.map (·.2.1)):=by
  have:=mr (w:=w) (D:=D) (es:=es.map (·.2)) (by rw[List.map_map];exact h5) (fun e he=>by
   rw[List.mem_map]at he;obtain⟨e2,he2,rfl⟩:=he;exact h6 e2 he2 (hall e2 he2))
  rw[List.map_map]at this
  exact this
 have HC:=mT word cl b n D ms _ ms.length w h3 (nP h5 h13) hr hms hml;rw[←Bz hx,hkb,hbits]at HC;unfold Oper.wp;rw[ik (fun _ _=>rfl) hop hs]
 have ea:(#[Operand.const (.string x),.const (.int .i64 cl),.tmp m,.tmp l]:Array Operand).map a.eval++#[]=#[.string x,.int .i64 cl,.map (some b),.slice (some ⟨g,0,none⟩) ms.length ms.length]:=by
  simp[fV,fh,em',el]
 rw[ea];refine HC.mono ?_;rintro e w'⟨rfl,hx'⟩;refine h.grow u hi ho hni hnt _ w' hx' (d9 hd ?_ (by rw[hk];rfl));rw[hk];refine⟨?_,fun s hs=>by cases hs;exact eH hf0⟩;have:cK (a.put o.dst (kv word cl bits (.map (some b)) false)) m0 = .map (some b):=(h.keep u hi ho _ m0 hf0).trans e0;unfold oN;dsimp only;rw[this]
theorem xU(u:Uniq ops)(h:KInv c sk tab ops (f+1) ls bm a w)(hi:i ∈ Region.ready .any ops ls)(ho:ops[i]? = some o)(hg:o.guard=none)(hni:NI sk i)(hnt:jy tab i)(s m l d m0:Nat)(x:ByteArray)(word:Bs)(cl:Int)(tt:Array TypeId)(ms:List Nat)(bits:List Bool)
  (hop:o.op = .call { callee := .value (.tmp s),args:=#[.const (.string x),.const (.int .i64 cl),.tmp m,.tmp l],argTypes:=tt }) (hx:x.data.toList=word) (hd:o.dst=some d) (hk:sk d = .kd word cl bits (some m0) false)
  (hf:aY ops ls s) (hks:sk s = .mk) (hfm:aY ops ls m) (hkm:sk m = .tn m0 []) (hk0:sk m0 = .tm) (hfl:aY ops ls l) (hkl:sk l = .sl ms)
  (hms:∀x ∈ ms,x<13) (hml:ms.length≤1000) (hbits:bf ms (iL [4,5,6])=bits) :
  wpOp Tryz.prog ops Q i (dC c sk tab ops f (ls.setIfInBounds i true)) a w:=by
 refine cZ ho hg ?_;have hs:=h.fits s hf;rw[hks]at hs;have hs:a.eval (.tmp s)=fw:=hs;have hm:=h.fits m hfm;rw[hkm]at hm;obtain⟨em,hf0,_⟩:=hm;have h0:=h.fits m0 hf0;rw[hk0]at h0;have e0:cK a m0 = .map (some c.Bt):=h0;have em':a.tmps.getD m undef = .map (some c.Bt):=em.trans e0;obtain⟨n,D,h3,_,h5,h6⟩:=h.tr;have hl:=h.fits l hfl;rw[hkl]at hl;have hsl:mS w (a.tmps.getD l undef) ms:=hl;obtain⟨g,el,hr⟩:=hsl.rdi;have hkb:fH D=iL [4,5,6]:=mr (w:=w) (D:=D) (es:=kD) h5 h6;have HC:=mT word cl c.Bt n D ms _ ms.length w h3 (nP h5 (by decide)) hr hms hml;rw[←Bz hx,hkb,hbits]at HC;unfold Oper.wp;rw[ik (fun _ _=>rfl) hop hs]
 have ea:(#[Operand.const (.string x),.const (.int .i64 cl),.tmp m,.tmp l]:Array Operand).map a.eval++#[]=#[.string x,.int .i64 cl,.map (some c.Bt),.slice (some ⟨g,0,none⟩) ms.length ms.length]:=by
  simp[fV,fh,em',el]
 rw[ea];refine HC.mono ?_;rintro e w'⟨rfl,hx'⟩;refine h.grow u hi ho hni hnt _ w' hx' (d9 hd ?_ (by rw[hk];rfl));rw[hk];refine⟨?_,fun s hs=>by cases hs;exact eH hf0⟩;have:cK (a.put o.dst (kv word cl bits (.map (some c.Bt)) false)) m0 = .map (some c.Bt):=(h.keep u hi ho _ m0 hf0).trans e0;unfold oN;dsimp only;rw[this]
theorem xV(u:Uniq ops)(h:KInv c sk tab ops (f+1) ls bm a w)(hi:i ∈ Region.ready .any ops ls)(ho:ops[i]? = some o)(hg:o.guard=none)(hni:NI sk i)(hnt:jy tab i)(s l d:Nat)(x:ByteArray)(word:Bs)(cl:Int)(tt:Array TypeId)(ms:List Nat)(bits:List Bool)
  (hop:o.op = .call { callee := .value (.tmp s),args:=#[.const (.string x),.const (.int .i64 cl),.const (.map none),.tmp l],argTypes:=tt }) (hx:x.data.toList=word) (hd:o.dst=some d) (hk:sk d = .kd word cl bits none false)
  (hf:aY ops ls s) (hks:sk s = .mk) (hfl:aY ops ls l) (hkl:sk l = .sl ms) (hms:∀x ∈ ms,x<13) (hml:ms.length≤1000) (hbits:bf ms bQ=bits) :
  wpOp Tryz.prog ops Q i (dC c sk tab ops f (ls.setIfInBounds i true)) a w:=by
 refine cZ ho hg ?_;have hs:=h.fits s hf;rw[hks]at hs;have hs:a.eval (.tmp s)=fw:=hs;have hl:=h.fits l hfl;rw[hkl]at hl;have hsl:mS w (a.tmps.getD l undef) ms:=hl;obtain⟨g,el,hr⟩:=hsl.rdi;have HC:=zI word cl ms _ ms.length w hr hms hml;rw[←Bz hx,hbits]at HC;unfold Oper.wp;rw[ik (fun _ _=>rfl) hop hs]
 have ea:(#[Operand.const (.string x),.const (.int .i64 cl),.const (.map none),.tmp l]:Array Operand).map a.eval++#[]=#[.string x,.int .i64 cl,.map none,.slice (some ⟨g,0,none⟩) ms.length ms.length]:=by
  simp[fV,fh,el]
 rw[ea];refine HC.mono ?_;rintro e w'⟨rfl,hx'⟩;refine h.grow u hi ho hni hnt _ w' hx' (d9 hd ?_ (by rw[hk];rfl));rw[hk];exact⟨rfl,fun s hs=>by cases hs⟩
theorem BA(u:Uniq ops)(h:KInv c sk tab ops (f+1) ls bm a w)(hi:i ∈ Region.ready .any ops ls)(ho:ops[i]? = some o)(hg:o.guard=none)(hni:NI sk i)(hnt:jy tab i)(s x d m0:Nat)(word:Bs)(cl:Int)(bits:List Bool)(es:List (Nat × Nat × Bool × Bool))(tt:Array TypeId)(hop:o.op = .call { callee := .value (.tmp s),args:=#[.tmp x],argTypes:=tt })(hd:o.dst=some d)(hk:sk d = .kd word cl bits (some m0) true)
  (hf:aY ops ls s) (hks:sk s = .wc) (hfx:aY ops ls x) (hkx:sk x = .kd word cl bits (some m0) false) (hk0:sk m0 = .nm es) (hb:bits.length=13) :
  wpOp Tryz.prog ops Q i (dC c sk tab ops f (ls.setIfInBounds i true)) a w:=by
 refine cZ ho hg ?_;have hs:=h.fits s hf;rw[hks]at hs;have hs:a.eval (.tmp s)=DP:=hs;have hx:=h.fits x hfx;rw[hkx]at hx;obtain⟨ex,hsrc⟩:=hx;have hf0:=hsrc m0 rfl;have h0:=h.fits m0 hf0;rw[hk0]at h0;obtain⟨b,e0,_⟩:=h0;unfold oN at ex;dsimp only at ex;rw[e0]at ex;have ex':a.tmps.getD x undef=kv word cl bits (.map (some b)) false:=ex;have HC:=Cn word cl bits (.map (some b)) false w hb rfl;unfold Oper.wp;rw[ik (fun _ _=>rfl) hop hs]
 have ea:(#[Operand.tmp x]:Array Operand).map a.eval++#[]=#[kv word cl bits (.map (some b)) false]:=by
  simp[fV,ex']
 rw[ea];refine HC.mono ?_;rintro e w'⟨rfl,hx'⟩;refine h.grow u hi ho hni hnt _ w' hx' (d9 hd ?_ (by rw[hk];rfl));rw[hk];refine⟨?_,fun s hs=>by cases hs;exact eH hf0⟩;have:cK (a.put o.dst (kv word cl bits (.map (some b)) true)) m0 = .map (some b):=(h.keep u hi ho _ m0 hf0).trans e0;unfold oN;dsimp only;rw[this]
theorem Fd(u:Uniq ops)(h:KInv c sk tab ops (f+1) ls bm a w)(hi:i ∈ Region.ready .any ops ls)(ho:ops[i]? = some o)(hg:o.guard=none)(hni:NI sk i)(hnt:jy tab i)(d:Nat)(p q:Bool)(tt:Array TypeId)(hop:o.op = .call { callee := .value (.func 150),args:=#[.const (.bool p),.const (.bool q)],argTypes:=tt })(hd:o.dst=some d)(hk:sk d = .lv p q) :
  wpOp Tryz.prog ops Q i (dC c sk tab ops f (ls.setIfInBounds i true)) a w:=by
 refine cZ ho hg ?_;unfold Oper.wp;rw[ik (cb:=#[]) (fun _ _=>rfl) hop rfl]
 have ea:(#[Operand.const (.bool p),.const (.bool q)]:Array Operand).map a.eval++#[]=#[.bool p,.bool q]:=by
  simp[fh]
 rw[ea];refine(d6 p q w).mono ?_;rintro e w'⟨rfl,h1,h2,hx⟩;exact h.grow u hi ho hni hnt _ w' hx (d9 hd (by rw[hk];exact⟨_,_,rfl,h1,h2⟩) (by rw[hk];rfl))
end
end
section
open Go.RowKit
def lU:List (Nat × KK):=[(0,.mm),
 (2,.lv false false),
 (4,.am),
 (5,.wc),
 (6,.tm),
 (15,.mm),
 (16,.am),
 (17,.ka [100,101,112,111,115,105,116]),
 (18,.am),
 (19,.ka [119,105,116,104,100,114,97,119]),
 (20,.mk),
 (21,.tn 6 []),
 (22,.sl [0]),
 (23,.kd [98,117,121] 3 [true,false,false,false,true,true,true,false,false,false,false,false,false] (some 6) false),
 (24,.mk),
 (25,.tn 6 []),
 (26,.sl [0,10]),
 (27,.kd [115,101,108,108] 3 [true,false,false,false,true,true,true,false,false,false,true,false,false] (some 6) false),
 (28,.mk),
 (29,.nm [(20,7,true,false)]),
 (30,.lv true false),
 (31,.tn 29 [(20,7,true,false)]),
 (32,.sl [0]),
 (33,.kd [105,110,99,111,109,101] 1 [true,false,false,false,false,false,false,true,false,false,false,false,false] (some 29) false),
 (34,.am),
 (35,.ka [101,120,112,101,110,115,101]),
 (36,.wc),
 (37,.mk),
 (38,.nm [(32,4,true,false),(34,5,true,false)]),
 (39,.lv true false),
 (40,.lv true false),
 (41,.tn 38 [(32,4,true,false),(34,5,true,false)]),
 (42,.sl [1,2]),
 (43,.kd [99,111,110,118,101,114,116] 2 [false,true,true,false,true,true,false,false,false,false,false,false,false] (some 38) false),
 (44,.kd [99,111,110,118,101,114,116] 2 [false,true,true,false,true,true,false,false,false,false,false,false,false] (some 38) true),
 (45,.mk),
 (46,.nm [(43,7,false,false),(45,8,true,false)]),
 (47,.lv false false),
 (48,.lv true false),
 (49,.tn 46 [(43,7,false,false),(45,8,true,false)]),
 (50,.sl [0]),
 (51,.kd [115,112,108,105,116] 1 [true,false,false,false,false,false,false,true,true,false,false,false,false] (some 46) false),
 (52,.mk),
 (53,.nm [(53,7,false,false),(55,8,true,false),(57,9,false,true)]),
 (54,.lv false false),
 (55,.lv true false),
 (56,.lv false true),
 (57,.tn 53 [(53,7,false,false),(55,8,true,false),(57,9,false,true)]),
 (58,.sl [0,1]),
 (59,.kd [115,112,105,110,111,102,102] 1 [true,true,false,false,false,false,false,true,true,true,false,false,false] (some 53) false),
 (60,.mk),
 (61,.sl [0,11]),
 (62,.kd [101,120,99,104,97,110,103,101] 1 [true,false,false,false,false,false,false,false,false,false,false,true,false] none false),
 (63,.mk),
 (64,.sl [0,3,12]),
 (65,.kd [101,108,101,99,116] 4 [true,false,false,true,false,false,false,false,false,false,false,false,true] none false),
 (66,.mk),
 (67,.nm [(73,4,true,false),(75,7,false,false),(77,8,true,false)]),
 (68,.lv true false),
 (69,.lv false false),
 (70,.lv true false),
 (71,.tn 67 [(73,4,true,false),(75,7,false,false),(77,8,true,false)]),
 (72,.sl [0,1]),
 (73,.kd [101,120,101,114,99,105,115,101] 3 [true,true,false,false,true,false,false,true,true,false,false,false,false] (some 67) false),
 (74,.mk),
 (75,.nm [(85,7,true,false)]),
 (76,.lv true false),
 (77,.tn 75 [(85,7,true,false)]),
 (78,.sl [0]),
 (79,.kd [99,97,112,105,116,97,108] 1 [true,false,false,false,false,false,false,true,false,false,false,false,false] (some 75) false),
 (80,.mk),
 (81,.nm [(93,7,false,false)]),
 (82,.lv false false),
 (83,.tn 81 [(93,7,false,false)]),
 (84,.sl [0]),
 (85,.kd [99,97,108,108] 1 [true,false,false,false,false,false,false,true,false,false,false,false,false] (some 81) false),
 (86,.mk),
 (87,.nm [(101,7,false,false)]),
 (88,.lv false false),
 (89,.tn 87 [(101,7,false,false)]),
 (90,.sl [0]),
 (91,.kd [112,114,105,99,101] 4 [true,false,false,false,false,false,false,true,false,false,false,false,false] (some 87) false),
 (92,.wc),
 (93,.mk),
 (94,.nm [(110,8,true,false)]),
 (95,.lv true false),
 (96,.tn 94 [(110,8,true,false)]),
 (97,.sl [1,2]),
 (98,.kd [114,97,116,101] 4 [false,true,true,false,false,false,false,false,true,false,false,false,false] (some 94) false),
 (99,.kd [114,97,116,101] 4 [false,true,true,false,false,false,false,false,true,false,false,false,false] (some 94) true),
 (100,.am),
 (101,.ka [105,115,115,117,101]),
 (102,.am),
 (103,.ka [99,97,110,99,101,108]),
 (104,.mm)]
def jN(s:Nat):KK:=(lU.lookup s).getD .no
def kE:List (Nat × Nat × Nat):=[(3,1,17),(6,2,19),(11,3,23),(16,4,27),(24,5,33),(27,6,35),(39,7,44),(49,8,51),(61,9,59),(65,10,62),(69,11,65),(81,12,73),(89,13,79),(97,14,85),(105,15,91),(115,16,99),(118,17,101),(121,18,103)]
def D5:List (Nat × Nat):=[(0,123),(15,0),(16,1),(17,2),(18,4),(19,5),(20,7),(21,8),(22,9),(23,10),(24,12),(25,13),(26,14),(27,15),(28,17),(29,18),(30,19),(31,21),(32,22),(33,23),(34,25),(35,26),(36,28),(37,29),(38,30),(39,31),(40,33),(41,35),(42,36),(43,37),(44,38),(45,40),(46,41),(47,42),(48,44),(49,46),(50,47),(51,48),(52,50),(53,51),(54,52),(55,54),(56,56),(57,58),(58,59),(59,60),(60,62),(61,63),(62,64),(63,66),(64,67),(65,68),(66,70),(67,71),(68,72),(69,74),(70,76),(71,78),(72,79),(73,80),(74,82),(75,83),(76,84),(77,86),(78,87),(79,88),(80,90),(81,91),(82,92),(83,94),(84,95),(85,96),(86,98),(87,99),(88,100),(89,102),(90,103),(91,104),(92,106),(93,107),(94,108),(95,109),(96,111),(97,112),(98,113),(99,114),(100,116),(101,117),(102,119),(103,120),(104,122)]
structure KSp where
 word:Bs
 cl:Int
 bits:List Bool
 code:Bool
 nums:Option lB
def iU:List (Nat × KSp):=[(1,⟨[100,101,112,111,115,105,116],2,eG,false,some [(5,true,false)]⟩),
 (2,⟨[119,105,116,104,100,114,97,119],2,eG,false,some [(5,true,false)]⟩),
 (3,⟨[98,117,121],3,[true,false,false,false,true,true,true,false,false,false,false,false,false],false,some kD⟩),
 (4,⟨[115,101,108,108],3,[true,false,false,false,true,true,true,false,false,false,true,false,false],false,some kD⟩),
 (5,⟨[105,110,99,111,109,101],1,[true,false,false,false,false,false,false,true,false,false,false,false,false],false,some [(7,true,false)]⟩),
 (6,⟨[101,120,112,101,110,115,101],2,eG,false,some [(5,true,false)]⟩),
 (7,⟨[99,111,110,118,101,114,116],2,[false,true,true,false,true,true,false,false,false,false,false,false,false],true,some [(4,true,false),(5,true,false)]⟩),
 (8,⟨[115,112,108,105,116],1,[true,false,false,false,false,false,false,true,true,false,false,false,false],false,some [(7,false,false),(8,true,false)]⟩),
 (9,⟨[115,112,105,110,111,102,102],1,[true,true,false,false,false,false,false,true,true,true,false,false,false],false,some [(7,false,false),(8,true,false),(9,false,true)]⟩),
 (10,⟨[101,120,99,104,97,110,103,101],1,[true,false,false,false,false,false,false,false,false,false,false,true,false],false,none⟩),
 (11,⟨[101,108,101,99,116],4,[true,false,false,true,false,false,false,false,false,false,false,false,true],false,none⟩),
 (12,⟨[101,120,101,114,99,105,115,101],3,[true,true,false,false,true,false,false,true,true,false,false,false,false],false,some [(4,true,false),(7,false,false),(8,true,false)]⟩),
 (13,⟨[99,97,112,105,116,97,108],1,[true,false,false,false,false,false,false,true,false,false,false,false,false],false,some [(7,true,false)]⟩),
 (14,⟨[99,97,108,108],1,[true,false,false,false,false,false,false,true,false,false,false,false,false],false,some [(7,false,false)]⟩),
 (15,⟨[112,114,105,99,101],4,[true,false,false,false,false,false,false,true,false,false,false,false,false],false,some [(7,false,false)]⟩),
 (16,⟨[114,97,116,101],4,[false,true,true,false,false,false,false,false,true,false,false,false,false],true,some [(8,true,false)]⟩),
 (17,⟨[105,115,115,117,101],2,eG,false,some [(5,true,false)]⟩),
 (18,⟨[99,97,110,99,101,108],2,eG,false,some [(5,true,false)]⟩)]
theorem px:∀ {l:List (Nat × KK)} {a:Nat} {b:KK},l.lookup a=some b→(a,b) ∈ l
 |[],_,_,h=>by cases h
 |(x,y) :: r,a,b,h=>by
  rw[List.lookup_cons]at h
  cases e:a == x
  ·rw[e]at h;exact .tail _ (px h)
  ·rw[e]at h
   cases h;have:a=x:=by simpa using e
   subst this
   exact .head _
theorem qd{d:Nat}{es:List (Nat × Nat × Bool × Bool)}(h:jN d = .nm es):(d,KK.nm es) ∈ lU:=by
 unfold jN at h
 cases e:lU.lookup d with
 |none=>rw[e]at h;cases h
 |some k =>
  rw[e]at h;have:k = .nm es:=h;subst this
  exact px e
theorem aD(i:Nat)(h:(lU.all fun p=>match p.2 with | .nm es=>es.all (fun e=>e.1 != i) | _=>true)=true):NI jN i:=fun d es hd e he=>by
 rw[List.all_eq_true]at h;have h1:=h _ (qd hd);dsimp only at h1;rw[List.all_eq_true]at h1;simpa using h1 e he
theorem ia(i m:Nat)(h:(lU.all fun p=>p.1 == m || match p.2 with | .nm es=>es.all (fun e=>e.1 != i) | _=>true)=true):∀d es',d≠m→jN d = .nm es'→∀e ∈ es',e.1≠i:=fun d es hne hd e he=>by
 rw[List.all_eq_true]at h;have h1:=h _ (qd hd);dsimp only at h1;rw[show(d == m)=false by simpa using hne,Bool.false_or,List.all_eq_true]at h1;simpa using h1 e he
theorem aE(i:Nat)(h:(kE.all fun e=>e.1 != i)=true):jy kE i:=fun e he=>by
 rw[List.all_eq_true]at h;simpa using h e he
theorem Ij:((List.range dU.size).all fun i=>match dU[i]? with|some o=>(match o.dst with|some d=>D5.lookup d == some i && decide (d<105)|none=>true)|none=>true)=true:=by kernel_rfl
theorem qf{i:Nat}{o:Oper}{d:Nat}(ho:dU[i]? = some o)(hd:o.dst=some d):D5.lookup d=some i∧d<105:=by
 have h:=Ij;rw[List.all_eq_true]at h
 have hlt:i<dU.size:=by
  rcases Nat.lt_or_ge i dU.size with h|h
  ·exact h
  ·rw[Array.getElem?_eq_none h]at ho;cases ho
 have h1:=h i (List.mem_range.2 hlt);rw[ho]at h1;dsimp only at h1;rw[hd]at h1;simpa using h1
theorem ai:Uniq dU:=by
 refine⟨fun i j oi oj d h1 h2 h3 h4=>?_,fun i o d h1 h2=>?_⟩
 ·have e1:=(qf h1 h3).1;have e2:=(qf h2 h4).1;rw[e1]at e2
  cases e2;rfl
 ·obtain⟨e1,e2⟩:=qf h1 h2;refine⟨?_,?_,?_,?_,?_,?_,e2⟩ <;> (rintro rfl;exact absurd (show(none:Option Nat)=some i from e1) (by simp))
abbrev SN(c:KC)(f:Nat)(listed:Array Bool)(bm:Option Nat)(a:Act)(w:World)(Q:Exit→Act→World→Prop)(i:Nat):Prop:=KInv c jN kE dU (f+1) listed bm a w→i ∈ Region.ready .any dU listed→f≤190→wpOp Tryz.prog dU Q i (dC c jN kE dU f (listed.setIfInBounds i true)) a w
section
variable {c:KC} {f:Nat} {listed:Array Bool} {bm:Option Nat} {a:Act} {w:World} {Q:Exit→Act→World→Prop}
theorem Ik:SN c f listed bm a w Q 0:=fun h hi h190 =>
 Ad ai h hi rfl rfl (aD _ rfl) (aE _ rfl) h190 _ 15 rfl rfl rfl (by kernel_rfl)
theorem Il:SN c f listed bm a w Q 1:=fun h hi _h190 =>
 dH ai h hi rfl rfl (aD _ rfl) (aE _ rfl) 4 16 (.inl rfl) rfl (.inl (.inr (.inl rfl))) rfl rfl
theorem Im:SN c f listed bm a w Q 2:=fun h hi _h190 =>
 pw ai h hi rfl rfl (aD _ rfl) (aE _ rfl) 16 17 _ _ _ rfl rfl rfl rfl (aa hi rfl 1 rfl rfl rfl) rfl
theorem Io:SN c f listed bm a w Q 3:=fun h hi h190 =>
 cR ai h hi rfl rfl 15 17 1 _ (aD _ rfl) rfl (fun _=>rfl) rfl (aa hi rfl 0 rfl rfl rfl) rfl (aa hi rfl 2 rfl rfl rfl) (by decide) (by decide) (by decide) (by decide)
theorem Ip:SN c f listed bm a w Q 4:=fun h hi _h190 =>
 dH ai h hi rfl rfl (aD _ rfl) (aE _ rfl) 4 18 (.inl rfl) rfl (.inl (.inr (.inl rfl))) rfl rfl
theorem Iq:SN c f listed bm a w Q 5:=fun h hi _h190 =>
 pw ai h hi rfl rfl (aD _ rfl) (aE _ rfl) 18 19 _ _ _ rfl rfl rfl rfl (aa hi rfl 4 rfl rfl rfl) rfl
theorem Ir:SN c f listed bm a w Q 6:=fun h hi h190 =>
 cR ai h hi rfl rfl 15 19 2 _ (aD _ rfl) rfl (fun _=>rfl) rfl (aa hi rfl 0 rfl rfl rfl) rfl (aa hi rfl 5 rfl rfl rfl) (by decide) (by decide) (by decide) (by decide)
theorem It:SN c f listed bm a w Q 7:=fun h hi _h190 =>
 dD ai h hi rfl rfl (aD _ rfl) (aE _ rfl) 20 rfl rfl rfl
theorem Iu:SN c f listed bm a w Q 8:=fun h hi h190 =>
 eu ai h hi rfl rfl (aD _ rfl) (aE _ rfl) 6 21 _ rfl rfl (.inl (.inr (.inr (.inr rfl)))) rfl (by kernel_rfl)
theorem Iv:SN c f listed bm a w Q 9:=fun h hi _h190 =>
 lR ai h hi rfl rfl (aD _ rfl) (aE _ rfl) 0 22 rfl rfl rfl
theorem Fe:SN c f listed bm a w Q 10:=fun h hi h190 =>
 xU ai h hi rfl rfl (aD _ rfl) (aE _ rfl) 20 21 22 23 _ _ _ _ _ _ _ rfl rfl rfl rfl (aa hi rfl 7 rfl rfl rfl) rfl (aa hi rfl 8 rfl rfl rfl) rfl rfl (aa hi rfl 9 rfl rfl rfl) rfl (by decide) (by decide) rfl
theorem Ff:SN c f listed bm a w Q 11:=fun h hi h190 =>
 cR ai h hi rfl rfl 15 23 3 _ (aD _ rfl) rfl (fun _=>rfl) rfl (aa hi rfl 0 rfl rfl rfl) rfl (aa hi rfl 10 rfl rfl rfl) (by decide) (by decide) (by decide) (by decide)
theorem Fg:SN c f listed bm a w Q 12:=fun h hi _h190 =>
 dD ai h hi rfl rfl (aD _ rfl) (aE _ rfl) 24 rfl rfl rfl
theorem Fh:SN c f listed bm a w Q 13:=fun h hi h190 =>
 eu ai h hi rfl rfl (aD _ rfl) (aE _ rfl) 6 25 _ rfl rfl (.inl (.inr (.inr (.inr rfl)))) rfl (by kernel_rfl)
theorem Fi:SN c f listed bm a w Q 14:=fun h hi _h190 =>
 lS ai h hi rfl rfl (aD _ rfl) (aE _ rfl) 0 10 26 rfl rfl rfl
theorem Fj:SN c f listed bm a w Q 15:=fun h hi h190 =>
 xU ai h hi rfl rfl (aD _ rfl) (aE _ rfl) 24 25 26 27 _ _ _ _ _ _ _ rfl rfl rfl rfl (aa hi rfl 12 rfl rfl rfl) rfl (aa hi rfl 13 rfl rfl rfl) rfl rfl (aa hi rfl 14 rfl rfl rfl) rfl (by decide) (by decide) rfl
theorem Fk:SN c f listed bm a w Q 16:=fun h hi h190 =>
 cR ai h hi rfl rfl 15 27 4 _ (aD _ rfl) rfl (fun _=>rfl) rfl (aa hi rfl 0 rfl rfl rfl) rfl (aa hi rfl 15 rfl rfl rfl) (by decide) (by decide) (by decide) (by decide)
theorem Fl:SN c f listed bm a w Q 17:=fun h hi _h190 =>
 dD ai h hi rfl rfl (aD _ rfl) (aE _ rfl) 28 rfl rfl rfl
theorem Fm:SN c f listed bm a w Q 18:=fun h hi h190 =>
 fl ai h hi rfl rfl (aD _ rfl) (aE _ rfl) h190 _ 29 _ rfl rfl rfl (by kernel_rfl)
theorem Fo:SN c f listed bm a w Q 19:=fun h hi _h190 =>
 fk ai h hi rfl rfl (aD _ rfl) (aE _ rfl) 30 rfl rfl rfl
theorem Fp:SN c f listed bm a w Q 20:=fun h hi h190 =>
 dE ai h hi rfl rfl 29 30 7 _ _ _ _ (ia _ _ rfl) (aE _ rfl) rfl (fun _=>rfl) rfl (aa hi rfl 18 rfl rfl rfl) rfl (aa hi rfl 19 rfl rfl rfl) rfl (by decide) (by decide) (by decide) (by decide)
theorem Fq:SN c f listed bm a w Q 21:=fun h hi h190 =>
 eu ai h hi rfl rfl (aD _ rfl) (aE _ rfl) 29 31 _ rfl rfl (aa hi rfl 18 rfl rfl rfl) rfl (by kernel_rfl)
theorem Fs:SN c f listed bm a w Q 22:=fun h hi _h190 =>
 lR ai h hi rfl rfl (aD _ rfl) (aE _ rfl) 0 32 rfl rfl rfl
theorem Ft:SN c f listed bm a w Q 23:=fun h hi h190 =>
 j5 ai h hi rfl rfl (aD _ rfl) (aE _ rfl) 28 31 32 33 _ _ _ _ _ _ _ _ rfl rfl rfl rfl (aa hi rfl 17 rfl rfl rfl) rfl (aa hi rfl 21 rfl rfl rfl) rfl rfl (aa hi rfl 22 rfl rfl rfl) rfl (by decide) (by decide) (by decide) rfl
theorem Fu:SN c f listed bm a w Q 24:=fun h hi h190 =>
 cR ai h hi rfl rfl 15 33 5 _ (aD _ rfl) rfl (fun _=>rfl) rfl (aa hi rfl 0 rfl rfl rfl) rfl (aa hi rfl 23 rfl rfl rfl) (by decide) (by decide) (by decide) (by decide)
theorem Fv:SN c f listed bm a w Q 25:=fun h hi _h190 =>
 dH ai h hi rfl rfl (aD _ rfl) (aE _ rfl) 4 34 (.inl rfl) rfl (.inl (.inr (.inl rfl))) rfl rfl
theorem Fw:SN c f listed bm a w Q 26:=fun h hi _h190 =>
 pw ai h hi rfl rfl (aD _ rfl) (aE _ rfl) 34 35 _ _ _ rfl rfl rfl rfl (aa hi rfl 25 rfl rfl rfl) rfl
theorem Fx:SN c f listed bm a w Q 27:=fun h hi h190 =>
 cR ai h hi rfl rfl 15 35 6 _ (aD _ rfl) rfl (fun _=>rfl) rfl (aa hi rfl 0 rfl rfl rfl) rfl (aa hi rfl 26 rfl rfl rfl) (by decide) (by decide) (by decide) (by decide)
theorem Fy:SN c f listed bm a w Q 28:=fun h hi _h190 =>
 dH ai h hi rfl rfl (aD _ rfl) (aE _ rfl) 5 36 (.inl rfl) rfl (.inl (.inr (.inr (.inl rfl)))) rfl rfl
theorem Fz:SN c f listed bm a w Q 29:=fun h hi _h190 =>
 dD ai h hi rfl rfl (aD _ rfl) (aE _ rfl) 37 rfl rfl rfl
theorem FA:SN c f listed bm a w Q 30:=fun h hi h190 =>
 fl ai h hi rfl rfl (aD _ rfl) (aE _ rfl) h190 _ 38 _ rfl rfl rfl (by kernel_rfl)
theorem FB:SN c f listed bm a w Q 31:=fun h hi _h190 =>
 fk ai h hi rfl rfl (aD _ rfl) (aE _ rfl) 39 rfl rfl rfl
theorem FC:SN c f listed bm a w Q 32:=fun h hi h190 =>
 dE ai h hi rfl rfl 38 39 4 _ _ _ _ (ia _ _ rfl) (aE _ rfl) rfl (fun _=>rfl) rfl (aa hi rfl 30 rfl rfl rfl) rfl (aa hi rfl 31 rfl rfl rfl) rfl (by decide) (by decide) (by decide) (by decide)
theorem FD:SN c f listed bm a w Q 33:=fun h hi _h190 =>
 fk ai h hi rfl rfl (aD _ rfl) (aE _ rfl) 40 rfl rfl rfl
theorem FE:SN c f listed bm a w Q 34:=fun h hi h190 =>
 dE ai h hi rfl rfl 38 40 5 _ _ _ _ (ia _ _ rfl) (aE _ rfl) rfl (fun _=>rfl) rfl (aa hi rfl 30 rfl rfl rfl) rfl (aa hi rfl 33 rfl rfl rfl) rfl (by decide) (by decide) (by decide) (by decide)
theorem FF:SN c f listed bm a w Q 35:=fun h hi h190 =>
 eu ai h hi rfl rfl (aD _ rfl) (aE _ rfl) 38 41 _ rfl rfl (aa hi rfl 30 rfl rfl rfl) rfl (by kernel_rfl)
theorem FH:SN c f listed bm a w Q 36:=fun h hi _h190 =>
 lS ai h hi rfl rfl (aD _ rfl) (aE _ rfl) 1 2 42 rfl rfl rfl
theorem FI:SN c f listed bm a w Q 37:=fun h hi h190 =>
 j5 ai h hi rfl rfl (aD _ rfl) (aE _ rfl) 37 41 42 43 _ _ _ _ _ _ _ _ rfl rfl rfl rfl (aa hi rfl 29 rfl rfl rfl) rfl (aa hi rfl 35 rfl rfl rfl) rfl rfl (aa hi rfl 36 rfl rfl rfl) rfl (by decide) (by decide) (by decide) rfl
theorem FJ:SN c f listed bm a w Q 38:=fun h hi _h190 =>
 BA ai h hi rfl rfl (aD _ rfl) (aE _ rfl) 36 43 44 _ _ _ _ _ _ rfl rfl rfl (aa hi rfl 28 rfl rfl rfl) rfl (aa hi rfl 37 rfl rfl rfl) rfl rfl rfl
theorem FK:SN c f listed bm a w Q 39:=fun h hi h190 =>
 cR ai h hi rfl rfl 15 44 7 _ (aD _ rfl) rfl (fun _=>rfl) rfl (aa hi rfl 0 rfl rfl rfl) rfl (aa hi rfl 38 rfl rfl rfl) (by decide) (by decide) (by decide) (by decide)
theorem FM:SN c f listed bm a w Q 40:=fun h hi _h190 =>
 dD ai h hi rfl rfl (aD _ rfl) (aE _ rfl) 45 rfl rfl rfl
theorem FN:SN c f listed bm a w Q 41:=fun h hi h190 =>
 fl ai h hi rfl rfl (aD _ rfl) (aE _ rfl) h190 _ 46 _ rfl rfl rfl (by kernel_rfl)
theorem FO:SN c f listed bm a w Q 42:=fun h hi _h190 =>
 dH ai h hi rfl rfl (aD _ rfl) (aE _ rfl) 2 47 (.inl rfl) rfl (.inl (.inl rfl)) rfl rfl
theorem FP:SN c f listed bm a w Q 43:=fun h hi h190 =>
 dE ai h hi rfl rfl 46 47 7 _ _ _ _ (ia _ _ rfl) (aE _ rfl) rfl (fun _=>rfl) rfl (aa hi rfl 41 rfl rfl rfl) rfl (aa hi rfl 42 rfl rfl rfl) rfl (by decide) (by decide) (by decide) (by decide)
theorem FQ:SN c f listed bm a w Q 44:=fun h hi _h190 =>
 fk ai h hi rfl rfl (aD _ rfl) (aE _ rfl) 48 rfl rfl rfl
theorem fsx:SN c f listed bm a w Q 45:=fun h hi h190 =>
 dE ai h hi rfl rfl 46 48 8 _ _ _ _ (ia _ _ rfl) (aE _ rfl) rfl (fun _=>rfl) rfl (aa hi rfl 41 rfl rfl rfl) rfl (aa hi rfl 44 rfl rfl rfl) rfl (by decide) (by decide) (by decide) (by decide)
theorem FU:SN c f listed bm a w Q 46:=fun h hi h190 =>
 eu ai h hi rfl rfl (aD _ rfl) (aE _ rfl) 46 49 _ rfl rfl (aa hi rfl 41 rfl rfl rfl) rfl (by kernel_rfl)
theorem FV:SN c f listed bm a w Q 47:=fun h hi _h190 =>
 lR ai h hi rfl rfl (aD _ rfl) (aE _ rfl) 0 50 rfl rfl rfl
theorem FW:SN c f listed bm a w Q 48:=fun h hi h190 =>
 j5 ai h hi rfl rfl (aD _ rfl) (aE _ rfl) 45 49 50 51 _ _ _ _ _ _ _ _ rfl rfl rfl rfl (aa hi rfl 40 rfl rfl rfl) rfl (aa hi rfl 46 rfl rfl rfl) rfl rfl (aa hi rfl 47 rfl rfl rfl) rfl (by decide) (by decide) (by decide) rfl
theorem FX:SN c f listed bm a w Q 49:=fun h hi h190 =>
 cR ai h hi rfl rfl 15 51 8 _ (aD _ rfl) rfl (fun _=>rfl) rfl (aa hi rfl 0 rfl rfl rfl) rfl (aa hi rfl 48 rfl rfl rfl) (by decide) (by decide) (by decide) (by decide)
theorem FY:SN c f listed bm a w Q 50:=fun h hi _h190 =>
 dD ai h hi rfl rfl (aD _ rfl) (aE _ rfl) 52 rfl rfl rfl
theorem FZ:SN c f listed bm a w Q 51:=fun h hi h190 =>
 fl ai h hi rfl rfl (aD _ rfl) (aE _ rfl) h190 _ 53 _ rfl rfl rfl (by kernel_rfl)
theorem F0:SN c f listed bm a w Q 52:=fun h hi _h190 =>
 dH ai h hi rfl rfl (aD _ rfl) (aE _ rfl) 2 54 (.inl rfl) rfl (.inl (.inl rfl)) rfl rfl
theorem F6:SN c f listed bm a w Q 53:=fun h hi h190 =>
 dE ai h hi rfl rfl 53 54 7 _ _ _ _ (ia _ _ rfl) (aE _ rfl) rfl (fun _=>rfl) rfl (aa hi rfl 51 rfl rfl rfl) rfl (aa hi rfl 52 rfl rfl rfl) rfl (by decide) (by decide) (by decide) (by decide)
theorem F7:SN c f listed bm a w Q 54:=fun h hi _h190 =>
 fk ai h hi rfl rfl (aD _ rfl) (aE _ rfl) 55 rfl rfl rfl
theorem F8:SN c f listed bm a w Q 55:=fun h hi h190 =>
 dE ai h hi rfl rfl 53 55 8 _ _ _ _ (ia _ _ rfl) (aE _ rfl) rfl (fun _=>rfl) rfl (aa hi rfl 51 rfl rfl rfl) rfl (aa hi rfl 54 rfl rfl rfl) rfl (by decide) (by decide) (by decide) (by decide)
theorem F9:SN c f listed bm a w Q 56:=fun h hi _h190 =>
 Fd ai h hi rfl rfl (aD _ rfl) (aE _ rfl) 56 _ _ _ rfl rfl rfl
theorem Ga:SN c f listed bm a w Q 57:=fun h hi h190 =>
 dE ai h hi rfl rfl 53 56 9 _ _ _ _ (ia _ _ rfl) (aE _ rfl) rfl (fun _=>rfl) rfl (aa hi rfl 51 rfl rfl rfl) rfl (aa hi rfl 56 rfl rfl rfl) rfl (by decide) (by decide) (by decide) (by decide)
theorem Gb:SN c f listed bm a w Q 58:=fun h hi h190 =>
 eu ai h hi rfl rfl (aD _ rfl) (aE _ rfl) 53 57 _ rfl rfl (aa hi rfl 51 rfl rfl rfl) rfl (by kernel_rfl)
theorem Gc:SN c f listed bm a w Q 59:=fun h hi _h190 =>
 lS ai h hi rfl rfl (aD _ rfl) (aE _ rfl) 0 1 58 rfl rfl rfl
theorem Gd:SN c f listed bm a w Q 60:=fun h hi h190 =>
 j5 ai h hi rfl rfl (aD _ rfl) (aE _ rfl) 52 57 58 59 _ _ _ _ _ _ _ _ rfl rfl rfl rfl (aa hi rfl 50 rfl rfl rfl) rfl (aa hi rfl 58 rfl rfl rfl) rfl rfl (aa hi rfl 59 rfl rfl rfl) rfl (by decide) (by decide) (by decide) rfl
theorem Gf:SN c f listed bm a w Q 61:=fun h hi h190 =>
 cR ai h hi rfl rfl 15 59 9 _ (aD _ rfl) rfl (fun _=>rfl) rfl (aa hi rfl 0 rfl rfl rfl) rfl (aa hi rfl 60 rfl rfl rfl) (by decide) (by decide) (by decide) (by decide)
theorem Gg:SN c f listed bm a w Q 62:=fun h hi _h190 =>
 dD ai h hi rfl rfl (aD _ rfl) (aE _ rfl) 60 rfl rfl rfl
theorem Gh:SN c f listed bm a w Q 63:=fun h hi _h190 =>
 lS ai h hi rfl rfl (aD _ rfl) (aE _ rfl) 0 11 61 rfl rfl rfl
theorem Gi:SN c f listed bm a w Q 64:=fun h hi h190 =>
 xV ai h hi rfl rfl (aD _ rfl) (aE _ rfl) 60 61 62 _ _ _ _ _ _ rfl rfl rfl rfl (aa hi rfl 62 rfl rfl rfl) rfl (aa hi rfl 63 rfl rfl rfl) rfl (by decide) (by decide) rfl
theorem Gj:SN c f listed bm a w Q 65:=fun h hi h190 =>
 cR ai h hi rfl rfl 15 62 10 _ (aD _ rfl) rfl (fun _=>rfl) rfl (aa hi rfl 0 rfl rfl rfl) rfl (aa hi rfl 64 rfl rfl rfl) (by decide) (by decide) (by decide) (by decide)
theorem Gk:SN c f listed bm a w Q 66:=fun h hi _h190 =>
 dD ai h hi rfl rfl (aD _ rfl) (aE _ rfl) 63 rfl rfl rfl
theorem Gl:SN c f listed bm a w Q 67:=fun h hi _h190 =>
 D4 ai h hi rfl rfl (aD _ rfl) (aE _ rfl) 0 3 12 64 rfl rfl rfl
theorem Gm:SN c f listed bm a w Q 68:=fun h hi h190 =>
 xV ai h hi rfl rfl (aD _ rfl) (aE _ rfl) 63 64 65 _ _ _ _ _ _ rfl rfl rfl rfl (aa hi rfl 66 rfl rfl rfl) rfl (aa hi rfl 67 rfl rfl rfl) rfl (by decide) (by decide) rfl
theorem Gn:SN c f listed bm a w Q 69:=fun h hi h190 =>
 cR ai h hi rfl rfl 15 65 11 _ (aD _ rfl) rfl (fun _=>rfl) rfl (aa hi rfl 0 rfl rfl rfl) rfl (aa hi rfl 68 rfl rfl rfl) (by decide) (by decide) (by decide) (by decide)
theorem Gp:SN c f listed bm a w Q 70:=fun h hi _h190 =>
 dD ai h hi rfl rfl (aD _ rfl) (aE _ rfl) 66 rfl rfl rfl
theorem Gq:SN c f listed bm a w Q 71:=fun h hi h190 =>
 fl ai h hi rfl rfl (aD _ rfl) (aE _ rfl) h190 _ 67 _ rfl rfl rfl (by kernel_rfl)
theorem Gr:SN c f listed bm a w Q 72:=fun h hi _h190 =>
 fk ai h hi rfl rfl (aD _ rfl) (aE _ rfl) 68 rfl rfl rfl
theorem Gs:SN c f listed bm a w Q 73:=fun h hi h190 =>
 dE ai h hi rfl rfl 67 68 4 _ _ _ _ (ia _ _ rfl) (aE _ rfl) rfl (fun _=>rfl) rfl (aa hi rfl 71 rfl rfl rfl) rfl (aa hi rfl 72 rfl rfl rfl) rfl (by decide) (by decide) (by decide) (by decide)
theorem Gu:SN c f listed bm a w Q 74:=fun h hi _h190 =>
 dH ai h hi rfl rfl (aD _ rfl) (aE _ rfl) 2 69 (.inl rfl) rfl (.inl (.inl rfl)) rfl rfl
theorem Gv:SN c f listed bm a w Q 75:=fun h hi h190 =>
 dE ai h hi rfl rfl 67 69 7 _ _ _ _ (ia _ _ rfl) (aE _ rfl) rfl (fun _=>rfl) rfl (aa hi rfl 71 rfl rfl rfl) rfl (aa hi rfl 74 rfl rfl rfl) rfl (by decide) (by decide) (by decide) (by decide)
theorem Gw:SN c f listed bm a w Q 76:=fun h hi _h190 =>
 fk ai h hi rfl rfl (aD _ rfl) (aE _ rfl) 70 rfl rfl rfl
theorem Gx:SN c f listed bm a w Q 77:=fun h hi h190 =>
 dE ai h hi rfl rfl 67 70 8 _ _ _ _ (ia _ _ rfl) (aE _ rfl) rfl (fun _=>rfl) rfl (aa hi rfl 71 rfl rfl rfl) rfl (aa hi rfl 76 rfl rfl rfl) rfl (by decide) (by decide) (by decide) (by decide)
theorem Gy:SN c f listed bm a w Q 78:=fun h hi h190 =>
 eu ai h hi rfl rfl (aD _ rfl) (aE _ rfl) 67 71 _ rfl rfl (aa hi rfl 71 rfl rfl rfl) rfl (by kernel_rfl)
theorem Gz:SN c f listed bm a w Q 79:=fun h hi _h190 =>
 lS ai h hi rfl rfl (aD _ rfl) (aE _ rfl) 0 1 72 rfl rfl rfl
theorem GA:SN c f listed bm a w Q 80:=fun h hi h190 =>
 j5 ai h hi rfl rfl (aD _ rfl) (aE _ rfl) 66 71 72 73 _ _ _ _ _ _ _ _ rfl rfl rfl rfl (aa hi rfl 70 rfl rfl rfl) rfl (aa hi rfl 78 rfl rfl rfl) rfl rfl (aa hi rfl 79 rfl rfl rfl) rfl (by decide) (by decide) (by decide) rfl
theorem GB:SN c f listed bm a w Q 81:=fun h hi h190 =>
 cR ai h hi rfl rfl 15 73 12 _ (aD _ rfl) rfl (fun _=>rfl) rfl (aa hi rfl 0 rfl rfl rfl) rfl (aa hi rfl 80 rfl rfl rfl) (by decide) (by decide) (by decide) (by decide)
theorem GC:SN c f listed bm a w Q 82:=fun h hi _h190 =>
 dD ai h hi rfl rfl (aD _ rfl) (aE _ rfl) 74 rfl rfl rfl
theorem GD:SN c f listed bm a w Q 83:=fun h hi h190 =>
 fl ai h hi rfl rfl (aD _ rfl) (aE _ rfl) h190 _ 75 _ rfl rfl rfl (by kernel_rfl)
theorem GF:SN c f listed bm a w Q 84:=fun h hi _h190 =>
 fk ai h hi rfl rfl (aD _ rfl) (aE _ rfl) 76 rfl rfl rfl
theorem GG:SN c f listed bm a w Q 85:=fun h hi h190 =>
 dE ai h hi rfl rfl 75 76 7 _ _ _ _ (ia _ _ rfl) (aE _ rfl) rfl (fun _=>rfl) rfl (aa hi rfl 83 rfl rfl rfl) rfl (aa hi rfl 84 rfl rfl rfl) rfl (by decide) (by decide) (by decide) (by decide)
theorem GH:SN c f listed bm a w Q 86:=fun h hi h190 =>
 eu ai h hi rfl rfl (aD _ rfl) (aE _ rfl) 75 77 _ rfl rfl (aa hi rfl 83 rfl rfl rfl) rfl (by kernel_rfl)
theorem GI:SN c f listed bm a w Q 87:=fun h hi _h190 =>
 lR ai h hi rfl rfl (aD _ rfl) (aE _ rfl) 0 78 rfl rfl rfl
theorem GJ:SN c f listed bm a w Q 88:=fun h hi h190 =>
 j5 ai h hi rfl rfl (aD _ rfl) (aE _ rfl) 74 77 78 79 _ _ _ _ _ _ _ _ rfl rfl rfl rfl (aa hi rfl 82 rfl rfl rfl) rfl (aa hi rfl 86 rfl rfl rfl) rfl rfl (aa hi rfl 87 rfl rfl rfl) rfl (by decide) (by decide) (by decide) rfl
theorem GK:SN c f listed bm a w Q 89:=fun h hi h190 =>
 cR ai h hi rfl rfl 15 79 13 _ (aD _ rfl) rfl (fun _=>rfl) rfl (aa hi rfl 0 rfl rfl rfl) rfl (aa hi rfl 88 rfl rfl rfl) (by decide) (by decide) (by decide) (by decide)
theorem GM:SN c f listed bm a w Q 90:=fun h hi _h190 =>
 dD ai h hi rfl rfl (aD _ rfl) (aE _ rfl) 80 rfl rfl rfl
theorem GO:SN c f listed bm a w Q 91:=fun h hi h190 =>
 fl ai h hi rfl rfl (aD _ rfl) (aE _ rfl) h190 _ 81 _ rfl rfl rfl (by kernel_rfl)
theorem GP:SN c f listed bm a w Q 92:=fun h hi _h190 =>
 dH ai h hi rfl rfl (aD _ rfl) (aE _ rfl) 2 82 (.inl rfl) rfl (.inl (.inl rfl)) rfl rfl
theorem GQ:SN c f listed bm a w Q 93:=fun h hi h190 =>
 dE ai h hi rfl rfl 81 82 7 _ _ _ _ (ia _ _ rfl) (aE _ rfl) rfl (fun _=>rfl) rfl (aa hi rfl 91 rfl rfl rfl) rfl (aa hi rfl 92 rfl rfl rfl) rfl (by decide) (by decide) (by decide) (by decide)
theorem GS:SN c f listed bm a w Q 94:=fun h hi h190 =>
 eu ai h hi rfl rfl (aD _ rfl) (aE _ rfl) 81 83 _ rfl rfl (aa hi rfl 91 rfl rfl rfl) rfl (by kernel_rfl)
theorem GU:SN c f listed bm a w Q 95:=fun h hi _h190 =>
 lR ai h hi rfl rfl (aD _ rfl) (aE _ rfl) 0 84 rfl rfl rfl
theorem GX:SN c f listed bm a w Q 96:=fun h hi h190 =>
 j5 ai h hi rfl rfl (aD _ rfl) (aE _ rfl) 80 83 84 85 _ _ _ _ _ _ _ _ rfl rfl rfl rfl (aa hi rfl 90 rfl rfl rfl) rfl (aa hi rfl 94 rfl rfl rfl) rfl rfl (aa hi rfl 95 rfl rfl rfl) rfl (by decide) (by decide) (by decide) rfl
theorem GY:SN c f listed bm a w Q 97:=fun h hi h190 =>
 cR ai h hi rfl rfl 15 85 14 _ (aD _ rfl) rfl (fun _=>rfl) rfl (aa hi rfl 0 rfl rfl rfl) rfl (aa hi rfl 96 rfl rfl rfl) (by decide) (by decide) (by decide) (by decide)
theorem GZ:SN c f listed bm a w Q 98:=fun h hi _h190 =>
 dD ai h hi rfl rfl (aD _ rfl) (aE _ rfl) 86 rfl rfl rfl
theorem G0:SN c f listed bm a w Q 99:=fun h hi h190 =>
 fl ai h hi rfl rfl (aD _ rfl) (aE _ rfl) h190 _ 87 _ rfl rfl rfl (by kernel_rfl)
theorem D6:SN c f listed bm a w Q 100:=fun h hi _h190 =>
 dH ai h hi rfl rfl (aD _ rfl) (aE _ rfl) 2 88 (.inl rfl) rfl (.inl (.inl rfl)) rfl rfl
theorem D7:SN c f listed bm a w Q 101:=fun h hi h190 =>
 dE ai h hi rfl rfl 87 88 7 _ _ _ _ (ia _ _ rfl) (aE _ rfl) rfl (fun _=>rfl) rfl (aa hi rfl 99 rfl rfl rfl) rfl (aa hi rfl 100 rfl rfl rfl) rfl (by decide) (by decide) (by decide) (by decide)
theorem D8:SN c f listed bm a w Q 102:=fun h hi h190 =>
 eu ai h hi rfl rfl (aD _ rfl) (aE _ rfl) 87 89 _ rfl rfl (aa hi rfl 99 rfl rfl rfl) rfl (by kernel_rfl)
theorem D9:SN c f listed bm a w Q 103:=fun h hi _h190 =>
 lR ai h hi rfl rfl (aD _ rfl) (aE _ rfl) 0 90 rfl rfl rfl
theorem Ea:SN c f listed bm a w Q 104:=fun h hi h190 =>
 j5 ai h hi rfl rfl (aD _ rfl) (aE _ rfl) 86 89 90 91 _ _ _ _ _ _ _ _ rfl rfl rfl rfl (aa hi rfl 98 rfl rfl rfl) rfl (aa hi rfl 102 rfl rfl rfl) rfl rfl (aa hi rfl 103 rfl rfl rfl) rfl (by decide) (by decide) (by decide) rfl
theorem Eb:SN c f listed bm a w Q 105:=fun h hi h190 =>
 cR ai h hi rfl rfl 15 91 15 _ (aD _ rfl) rfl (fun _=>rfl) rfl (aa hi rfl 0 rfl rfl rfl) rfl (aa hi rfl 104 rfl rfl rfl) (by decide) (by decide) (by decide) (by decide)
theorem Ec:SN c f listed bm a w Q 106:=fun h hi _h190 =>
 dH ai h hi rfl rfl (aD _ rfl) (aE _ rfl) 5 92 (.inl rfl) rfl (.inl (.inr (.inr (.inl rfl)))) rfl rfl
theorem Ed:SN c f listed bm a w Q 107:=fun h hi _h190 =>
 dD ai h hi rfl rfl (aD _ rfl) (aE _ rfl) 93 rfl rfl rfl
theorem Ee:SN c f listed bm a w Q 108:=fun h hi h190 =>
 fl ai h hi rfl rfl (aD _ rfl) (aE _ rfl) h190 _ 94 _ rfl rfl rfl (by kernel_rfl)
theorem Ef:SN c f listed bm a w Q 109:=fun h hi _h190 =>
 fk ai h hi rfl rfl (aD _ rfl) (aE _ rfl) 95 rfl rfl rfl
theorem Eg:SN c f listed bm a w Q 110:=fun h hi h190 =>
 dE ai h hi rfl rfl 94 95 8 _ _ _ _ (ia _ _ rfl) (aE _ rfl) rfl (fun _=>rfl) rfl (aa hi rfl 108 rfl rfl rfl) rfl (aa hi rfl 109 rfl rfl rfl) rfl (by decide) (by decide) (by decide) (by decide)
theorem Eh:SN c f listed bm a w Q 111:=fun h hi h190 =>
 eu ai h hi rfl rfl (aD _ rfl) (aE _ rfl) 94 96 _ rfl rfl (aa hi rfl 108 rfl rfl rfl) rfl (by kernel_rfl)
theorem Ei:SN c f listed bm a w Q 112:=fun h hi _h190 =>
 lS ai h hi rfl rfl (aD _ rfl) (aE _ rfl) 1 2 97 rfl rfl rfl
theorem Ej:SN c f listed bm a w Q 113:=fun h hi h190 =>
 j5 ai h hi rfl rfl (aD _ rfl) (aE _ rfl) 93 96 97 98 _ _ _ _ _ _ _ _ rfl rfl rfl rfl (aa hi rfl 107 rfl rfl rfl) rfl (aa hi rfl 111 rfl rfl rfl) rfl rfl (aa hi rfl 112 rfl rfl rfl) rfl (by decide) (by decide) (by decide) rfl
theorem Ek:SN c f listed bm a w Q 114:=fun h hi _h190 =>
 BA ai h hi rfl rfl (aD _ rfl) (aE _ rfl) 92 98 99 _ _ _ _ _ _ rfl rfl rfl (aa hi rfl 106 rfl rfl rfl) rfl (aa hi rfl 113 rfl rfl rfl) rfl rfl rfl
theorem El:SN c f listed bm a w Q 115:=fun h hi h190 =>
 cR ai h hi rfl rfl 15 99 16 _ (aD _ rfl) rfl (fun _=>rfl) rfl (aa hi rfl 0 rfl rfl rfl) rfl (aa hi rfl 114 rfl rfl rfl) (by decide) (by decide) (by decide) (by decide)
theorem Em:SN c f listed bm a w Q 116:=fun h hi _h190 =>
 dH ai h hi rfl rfl (aD _ rfl) (aE _ rfl) 4 100 (.inl rfl) rfl (.inl (.inr (.inl rfl))) rfl rfl
theorem En:SN c f listed bm a w Q 117:=fun h hi _h190 =>
 pw ai h hi rfl rfl (aD _ rfl) (aE _ rfl) 100 101 _ _ _ rfl rfl rfl rfl (aa hi rfl 116 rfl rfl rfl) rfl
theorem Eo:SN c f listed bm a w Q 118:=fun h hi h190 =>
 cR ai h hi rfl rfl 15 101 17 _ (aD _ rfl) rfl (fun _=>rfl) rfl (aa hi rfl 0 rfl rfl rfl) rfl (aa hi rfl 117 rfl rfl rfl) (by decide) (by decide) (by decide) (by decide)
theorem Ep:SN c f listed bm a w Q 119:=fun h hi _h190 =>
 dH ai h hi rfl rfl (aD _ rfl) (aE _ rfl) 4 102 (.inl rfl) rfl (.inl (.inr (.inl rfl))) rfl rfl
theorem Er:SN c f listed bm a w Q 120:=fun h hi _h190 =>
 pw ai h hi rfl rfl (aD _ rfl) (aE _ rfl) 102 103 _ _ _ rfl rfl rfl rfl (aa hi rfl 119 rfl rfl rfl) rfl
theorem Es:SN c f listed bm a w Q 121:=fun h hi h190 =>
 cR ai h hi rfl rfl 15 103 18 _ (aD _ rfl) rfl (fun _=>rfl) rfl (aa hi rfl 0 rfl rfl rfl) rfl (aa hi rfl 120 rfl rfl rfl) (by decide) (by decide) (by decide) (by decide)
theorem Et:SN c f listed bm a w Q 122:=fun h hi _h190 =>
 dH ai h hi rfl rfl (aD _ rfl) (aE _ rfl) 15 104 (.inl rfl) rfl (aa hi rfl 0 rfl rfl rfl) rfl rfl
theorem Eu:SN c f listed bm a w Q 123:=fun h hi _h190 =>
 dH ai h hi rfl rfl (aD _ rfl) (aE _ rfl) 104 0 (.inr rfl) rfl (aa hi rfl 122 rfl rfl rfl) rfl rfl
theorem Ev:∀i,i<124→KInv c jN kE dU (f+1) listed bm a w→i ∈ Region.ready .any dU listed→f≤190→wpOp Tryz.prog dU Q i (dC c jN kE dU f (listed.setIfInBounds i true)) a w
 |0,_,h,hi,h190=>Ik h hi h190
 |1,_,h,hi,h190=>Il h hi h190
 |2,_,h,hi,h190=>Im h hi h190
 |3,_,h,hi,h190=>Io h hi h190
 |4,_,h,hi,h190=>Ip h hi h190
 |5,_,h,hi,h190=>Iq h hi h190
 |6,_,h,hi,h190=>Ir h hi h190
 |7,_,h,hi,h190=>It h hi h190
 |8,_,h,hi,h190=>Iu h hi h190
 |9,_,h,hi,h190=>Iv h hi h190
 |10,_,h,hi,h190=>Fe h hi h190
 |11,_,h,hi,h190=>Ff h hi h190
 |12,_,h,hi,h190=>Fg h hi h190
 |13,_,h,hi,h190=>Fh h hi h190
 |14,_,h,hi,h190=>Fi h hi h190
 |15,_,h,hi,h190=>Fj h hi h190
 |16,_,h,hi,h190=>Fk h hi h190
 |17,_,h,hi,h190=>Fl h hi h190
 |18,_,h,hi,h190=>Fm h hi h190
 |19,_,h,hi,h190=>Fo h hi h190
 |20,_,h,hi,h190=>Fp h hi h190
 |21,_,h,hi,h190=>Fq h hi h190
 |22,_,h,hi,h190=>Fs h hi h190
 |23,_,h,hi,h190=>Ft h hi h190
 |24,_,h,hi,h190=>Fu h hi h190
 |25,_,h,hi,h190=>Fv h hi h190
 |26,_,h,hi,h190=>Fw h hi h190
 |27,_,h,hi,h190=>Fx h hi h190
 |28,_,h,hi,h190=>Fy h hi h190
 |29,_,h,hi,h190=>Fz h hi h190
 |30,_,h,hi,h190=>FA h hi h190
 |31,_,h,hi,h190=>FB h hi h190
 |32,_,h,hi,h190=>FC h hi h190
 |33,_,h,hi,h190=>FD h hi h190
 |34,_,h,hi,h190=>FE h hi h190
 |35,_,h,hi,h190=>FF h hi h190
 |36,_,h,hi,h190=>FH h hi h190
 |37,_,h,hi,h190=>FI h hi h190
 |38,_,h,hi,h190=>FJ h hi h190
 |39,_,h,hi,h190=>FK h hi h190
 |40,_,h,hi,h190=>FM h hi h190
 |41,_,h,hi,h190=>FN h hi h190
 |42,_,h,hi,h190=>FO h hi h190
 |43,_,h,hi,h190=>FP h hi h190
 |44,_,h,hi,h190=>FQ h hi h190
 |45,_,h,hi,h190=>fsx h hi h190
 |46,_,h,hi,h190=>FU h hi h190
 |47,_,h,hi,h190=>FV h hi h190
 |48,_,h,hi,h190=>FW h hi h190
 |49,_,h,hi,h190=>FX h hi h190
 |50,_,h,hi,h190=>FY h hi h190
 |51,_,h,hi,h190=>FZ h hi h190
 |52,_,h,hi,h190=>F0 h hi h190
 |53,_,h,hi,h190=>F6 h hi h190
 |54,_,h,hi,h190=>F7 h hi h190
 |55,_,h,hi,h190=>F8 h hi h190
 |56,_,h,hi,h190=>F9 h hi h190
 |57,_,h,hi,h190=>Ga h hi h190
 |58,_,h,hi,h190=>Gb h hi h190
 |59,_,h,hi,h190=>Gc h hi h190
 |60,_,h,hi,h190=>Gd h hi h190
 |61,_,h,hi,h190=>Gf h hi h190
 |62,_,h,hi,h190=>Gg h hi h190
 |63,_,h,hi,h190=>Gh h hi h190
 |64,_,h,hi,h190=>Gi h hi h190
 |65,_,h,hi,h190=>Gj h hi h190
 |66,_,h,hi,h190=>Gk h hi h190
 |67,_,h,hi,h190=>Gl h hi h190
 |68,_,h,hi,h190=>Gm h hi h190
 |69,_,h,hi,h190=>Gn h hi h190
 |70,_,h,hi,h190=>Gp h hi h190
 |71,_,h,hi,h190=>Gq h hi h190
 |72,_,h,hi,h190=>Gr h hi h190
 |73,_,h,hi,h190=>Gs h hi h190
 |74,_,h,hi,h190=>Gu h hi h190
 |75,_,h,hi,h190=>Gv h hi h190
 |76,_,h,hi,h190=>Gw h hi h190
 |77,_,h,hi,h190=>Gx h hi h190
 |78,_,h,hi,h190=>Gy h hi h190
 |79,_,h,hi,h190=>Gz h hi h190
 |80,_,h,hi,h190=>GA h hi h190
 |81,_,h,hi,h190=>GB h hi h190
 |82,_,h,hi,h190=>GC h hi h190
 |83,_,h,hi,h190=>GD h hi h190
 |84,_,h,hi,h190=>GF h hi h190
 |85,_,h,hi,h190=>GG h hi h190
 |86,_,h,hi,h190=>GH h hi h190
 |87,_,h,hi,h190=>GI h hi h190
 |88,_,h,hi,h190=>GJ h hi h190
 |89,_,h,hi,h190=>GK h hi h190
 |90,_,h,hi,h190=>GM h hi h190
 |91,_,h,hi,h190=>GO h hi h190
 |92,_,h,hi,h190=>GP h hi h190
 |93,_,h,hi,h190=>GQ h hi h190
 |94,_,h,hi,h190=>GS h hi h190
 |95,_,h,hi,h190=>GU h hi h190
 |96,_,h,hi,h190=>GX h hi h190
 |97,_,h,hi,h190=>GY h hi h190
 |98,_,h,hi,h190=>GZ h hi h190
 |99,_,h,hi,h190=>G0 h hi h190
 |100,_,h,hi,h190=>D6 h hi h190
 |101,_,h,hi,h190=>D7 h hi h190
 |102,_,h,hi,h190=>D8 h hi h190
 |103,_,h,hi,h190=>D9 h hi h190
 |104,_,h,hi,h190=>Ea h hi h190
 |105,_,h,hi,h190=>Eb h hi h190
 |106,_,h,hi,h190=>Ec h hi h190
 |107,_,h,hi,h190=>Ed h hi h190
 |108,_,h,hi,h190=>Ee h hi h190
 |109,_,h,hi,h190=>Ef h hi h190
 |110,_,h,hi,h190=>Eg h hi h190
 |111,_,h,hi,h190=>Eh h hi h190
 |112,_,h,hi,h190=>Ei h hi h190
 |113,_,h,hi,h190=>Ej h hi h190
 |114,_,h,hi,h190=>Ek h hi h190
 |115,_,h,hi,h190=>El h hi h190
 |116,_,h,hi,h190=>Em h hi h190
 |117,_,h,hi,h190=>En h hi h190
 |118,_,h,hi,h190=>Eo h hi h190
 |119,_,h,hi,h190=>Ep h hi h190
 |120,_,h,hi,h190=>Er h hi h190
 |121,_,h,hi,h190=>Es h hi h190
 |122,_,h,hi,h190=>Et h hi h190
 |123,_,h,hi,h190=>Eu h hi h190
 |n+124,hn,_,_,_=>absurd hn (by omega)
end
end
end Go.Proofs.YthgpheopnhajaaaGreatDoor
