/- The seat's texts, part Y9. -/
import Derived.Test.YtaegjkllenlfpaaGreatDoorY8
set_option maxRecDepth 100000
set_option maxHeartbeats 8000000
namespace Go.Proofs.YtaegjkllenlfpaaGreatDoor
open Tryz
section
open Go.RowKit
theorem p4:(∀(a:Act) (d:Tmp) (v:Value),a.put (some d) v={a with tmps:=a.tmps.setIfInBounds d v})∧(∀(a:Act) (v:Value),a.put none v=a)∧(∀(l:List Value) (i:Nat) (x:Value),l.toArray.setIfInBounds i x=(l.set i x).toArray)∧(∀(a b:Value) (l:List Value),(a::l).set 0 b=b::l)∧(∀(a b:Value) (l:List Value) (n:Nat),(a::l).set (n+1) b=a::l.set n b):=⟨fun _ _ _=>rfl,fun _ _=>rfl,fun l i x=>by simp,fun _ _ _=>rfl,fun _ _ _ _=>rfl⟩
theorem tk{P:Program}{md:Region.Mode}{ops:Array Oper}{Q:Exit->Act->World->Prop}{S:World->Prop}(i:Nat){oi:Oper}(v:Value){fuel:Nat}{listed:Array Bool}{a:Act}{w:World}(hi:ops[i]? = some oi)(hs:(Region.noSelect ops&&Region.free md ops listed i&&(Region.ready md ops listed).contains i)=true)(hQ:∀c a w,Q (.panic c) (a.put oi.dst v) w->Q (.panic c) a w)(hy:YieldsIf P ops S oi v a)(hS:S w)(h:wpAnyH P md ops Q S fuel (listed.setIfInBounds i true) (a.put oi.dst v) w):wpAnyH P md ops Q S (fuel+1) listed a w:=by
 simp only[MJ]at hs;exact wpAnyH_take hi hs.1.1 hs.1.2 hs.2 hQ hy hS h
end
section
open Go.RowKit Go.Shelf
attribute [local go_sem] size_bs toList_bs Oper.semAt_some
theorem ru{α:Type}(f:α->Int)(M:Nat):∀(l:List α),(∀x ∈ l,(f x).natAbs<=M)->((l.map f).sum).natAbs<=l.length*M
 |[],_=>by simp
 |a :: r,h=>by
  have h1:=h a (by simp);have h2:=ru f M r (fun x hx=>h x (by simp[hx]));simp only[MQ,Nz,MG];refine Mx (Rn _ _) ?_;rw[Ss];omega
theorem tN(f:LotV->Bs)(L:Nat)(ls:List LotV)(hs:∀x ∈ ls,(f x).length<=L)(hn:ls.length<=100000):(ofI ((ls.map (fun x=>valI (f x))).sum)).length<=L+7:=by
 have h:=ru (fun x=>valI (f x)) (10 ^ L) ls (fun x hx=>PE (aG (hs x hx)));have h2:ls.length*10 ^ L<=10 ^ 5*10 ^ L:=MO _ (by omega);have h4:10 ^ (L+6)=1000000*10 ^ L:=by rw[Pr,MF]
 have h5:0<10 ^ L:=Pf (by decide);exact bz (L:=L+6) (by omega)
theorem wE(f:LotV->Bs)(ls:List LotV)(hs:∀x ∈ ls,(f x).length<=1000)(hn:ls.length<=100000):(ofI ((ls.map (fun x=>valI (f x))).sum)).length<=2000:=by
 have:=tN f 1000 ls hs hn;omega
theorem kD{ls:List LotV}{ins:Bs}{k:Nat}(hk:k<ls.length)(h:(ls[k]'hk).ins=ins):ofL (ls.take (k+1)) ins=ofL (ls.take k) ins++[ls[k]'hk]:=by
 unfold ofL;rw[Mo hk,PM];simp[h]
theorem jN{ls:List LotV}{ins:Bs}{k:Nat}(hk:k<ls.length)(h:(ls[k]'hk).ins≠ins):ofL (ls.take (k+1)) ins=ofL (ls.take k) ins:=by
 unfold ofL;rw[Mo hk,PM];simp[h]
theorem Bx{ls:List LotV}{ins:Bs}{k:Nat}(hk:k<ls.length)(h:(ls[k]'hk).ins=ins):totQ (ls.take (k+1)) ins=totQ (ls.take k) ins+valI (ls[k]'hk).q:=by
 unfold totQ;rw[kD hk h];simp
theorem Bz{ls:List LotV}{ins:Bs}{k:Nat}(hk:k<ls.length)(h:(ls[k]'hk).ins=ins):totC (ls.take (k+1)) ins=totC (ls.take k) ins+valI (ls[k]'hk).c:=by
 unfold totC;rw[kD hk h];simp
theorem wF{ls:List LotV}{ins:Bs}{x:LotV}{k:Nat}(h:x ∈ ofL (ls.take k) ins):x ∈ ls:=Ng (Og.1 h).1
theorem rx{ls:List LotV}{ins:Bs}{k:Nat}:(ofL (ls.take k) ins).length<=ls.length:=Mx (M8 _ _) (by rw[Mu];exact Nat.min_le_right _ _)
theorem kE{ls:List LotV}(ins:Bs)(k:Nat)(hs:∀x ∈ ls,SmallL x)(hn:ls.length<=100000):(ofI (totQ (ls.take k) ins)).length<=2000 :=
 wE (·.q) _ (fun x hx=>(hs x (wF hx)).2.2.1) (Mx rx hn)
theorem tP{ls:List LotV}(ins:Bs)(k:Nat)(hs:∀x ∈ ls,SmallL x)(hn:ls.length<=100000):(ofI (totC (ls.take k) ins)).length<=2000 :=
 wE (·.c) _ (fun x hx=>(hs x (wF hx)).2.2.2.1) (Mx rx hn)
structure ToAt (w:World) (lp:Loop) (ls:List LotV) (A:Option Addr) (c:Nat) (ins:Bs) (k:Nat) (W:World):Prop where
 ext:Ext w W
 qq:Blk W w.heap.size 24 #[.string (bs (ofI (totQ (ls.take k) ins)))]
 cc:Blk W (w.heap.size+1) 24 #[.string (bs (ofI (totC (ls.take k) ins)))]
 l:Blk W (w.heap.size+1+1) 22 #[.slice A ls.length c]
 i:Blk W (w.heap.size+1+1+1) 9 #[.string (bs ins)]
 D:W.heap[w.heap.size+1+1+1+1]? = some (.deferred (some []))
 L:W.heap[w.heap.size+1+1+1+1+1]? = some (.loop lp)
section
variable {w:World} {lp lp':Loop} {ls:List LotV} {A:Option Addr} {c:Nat} {ins:Bs} {k:Nat} {W W':World}
theorem ToAt.on(h:ToAt w lp ls A c ins k W)(hx:Ext W W'):ToAt w lp ls A c ins k W' :=
 ⟨h.ext.trans hx,h.qq.ext hx,h.cc.ext hx,h.l.ext hx,h.i.ext hx,eB h.D hx,eB h.L hx⟩
theorem ToAt.put(h:ToAt w lp ls A c ins k W):ToAt w lp' ls A c ins k (W.putObj (w.heap.size+1+1+1+1+1) (.loop lp')) :=
 ⟨h.ext.putObj (by omega) _,h.qq.put _ (by omega),h.cc.put _ (by omega),h.l.put _ (by omega),h.i.put _ (by omega),mz h.D (by omega),PK (MD.1 h.L).1⟩
theorem ToAt.skip(h:ToAt w lp ls A c ins k W)(hk:k<ls.length)(hne:(ls[k]'hk).ins≠ins):ToAt w lp ls A c ins (k+1) W :=
 ⟨h.ext,by unfold totQ;rw[jN hk hne];exact h.qq,by unfold totC;rw[jN hk hne];exact h.cc,h.l,h.i,h.D,h.L⟩
theorem ToAt.hit(h:ToAt w lp ls A c ins k W)(hk:k<ls.length)(he:(ls[k]'hk).ins=ins) :
  ToAt w lp ls A c ins (k+1) ((W.setCell ⟨w.heap.size,0,none⟩ (.string (bs (ofI (totQ (ls.take k) ins+valI (ls[k]'hk).q))))).setCell ⟨w.heap.size+1,0,none⟩ (.string (bs (ofI (totC (ls.take k) ins+valI (ls[k]'hk).c))))):=by
 refine⟨(h.ext.setCell (p:=⟨w.heap.size,0,none⟩) (Mn _) _).setCell (p:=⟨w.heap.size+1,0,none⟩) (QQ _) _,?_,?_,(h.l.far (p:=⟨w.heap.size,0,none⟩) (by dsimp only;omega) _).far (p:=⟨w.heap.size+1,0,none⟩) (by dsimp only;omega) _,(h.i.far (p:=⟨w.heap.size,0,none⟩) (by dsimp only;omega) _).far (p:=⟨w.heap.size+1,0,none⟩) (by dsimp only;omega) _,eM (eM h.D (by omega)) (by omega),eM (eM h.L (by omega)) (by omega)⟩
 ·rw[Bx hk he];exact(h.qq.set_ 0 _).far (p:=⟨w.heap.size+1,0,none⟩) (by dsimp only;omega) _
 ·rw[Bz hk he];exact(h.cc.far (p:=⟨w.heap.size,0,none⟩) (by dsimp only;omega) _).set_ 0 _
end
theorem gW(ls:List LotV)(A:Option Addr)(c:Nat)(ins:Bs)(w:World)(hE:Env w)(hA:aK w A ls)(hs:∀x ∈ ls,SmallL x)(hn:ls.length<=100000) :
  Calls prog 14 #[.slice A ls.length c,.string (bs ins)] w fun e w'=>e = .returned (.tuple #[.string (bs (ofI (totQ ls ins))),.string (bs (ofI (totC ls ins)))])∧Ext w w':=by
 have hfn:∀k,Fence.wide.fn k:=fun _=>trivial
 have hdp:Fence.wide.depth.isSome=false:=rfl;have HE:=qh hE;have HA:=qh hA;have HS:=qh hs;have HT:Hid (totQ (ls.take ls.length) ins=totQ ls ins∧totC (ls.take ls.length) ins=totC ls ins):=qh (by rw[MK];exact⟨rfl,rfl⟩);have HT0:Hid (ofI (totQ (ls.take 0) ins)=[]∧ofI (totC (ls.take 0) ins)=[]):=qh ⟨cK.2 rfl,cK.2 rfl⟩;have HAD:=qh (fun k (hk:k<ls.length)=>(⟨iL (ofI (totQ (ls.take k) ins)) (ls[k]'hk).q (by have:=kE ins k hs hn;omega) (by have:=(hs _ (Ml hk)).2.2.1;omega),iL (ofI (totC (ls.take k) ins)) (ls[k]'hk).c (by have:=tP ins k hs hn;omega) (by have:=(hs _ (Ml hk)).2.2.2.1;omega)⟩:_∧_));simp only[valI_ofI]at HAD;clear hE hA hs;generalize totQ ls ins=TQ at *;generalize totC ls ins=TC at *;refine(Nu (n:=5)).1 ?_;refine Qk func14 rfl trivial ?_ rfl;simp only[ntmps14,Nh,MG,Ns,Nat.reduceAdd,Nat.reduceSub,Ov,Ow,OU,OA,ML,MZ];gi_wp2_with fail;refine(Nu.2 (Ei A _ c ins _)).mono ?_;rintro e w3⟨rfl,rfl⟩;gi_wp2_with fail;refine fI rfl (by omega) (w.heap.size+1+1+1+1) (by simp) rfl trivial (fun _ _=>by rfl) ?_;intro fn lp W1 hlp hW1 _
 have h0:ToAt w lp ls A c ins 0 W1:=by
  subst hW1;refine⟨(((((Id w _).alloc _).alloc _).alloc _).alloc _).alloc _,?_,?_,?_,?_,?_,?_⟩
  ·rw[HT0.out.1];exact(((((Mf _ _ _ _ rfl).alloc _).alloc _).alloc _).alloc _).alloc _
  ·rw[HT0.out.2];exact((((Mf _ _ _ _ (by simp)).alloc _).alloc _).alloc _).alloc _
  ·exact(((Mf _ _ _ _ (by simp)).alloc _).alloc _).alloc _
  ·exact((Mf _ _ _ _ (by simp)).alloc _).alloc _
  ·exact qc (newAt _ _ _ (by simp))
  ·exact newAt _ _ _ (by simp)
 refine(yK 4 (w.heap.size+1+1+1+1+1) (w.heap.size+1+1) w ls A c ins HA.out (by omega) (ToAt w lp ls A c ins) (fun k W h=>⟨h.ext,h.l,h.i⟩) (fun k W W' h hx=>h.on hx) ?hY (fun k hk W hne h=>h.skip hk hne) W1 h0).mono ?_
 case hY =>
  intro k hk W he h;have e1:=M6 Loop.assign hlp;have e2:=M6 Loop.body hlp;have e3:=M6 Loop.tmps hlp;have e4:=M6 Loop.params hlp;have e5:{ lp with state := .ready,pending:=none }=lp:=by rw[hlp];rfl
  obtain⟨lb,hlb⟩:∃lb,{ lp with state := .busy }=lb:=⟨_,rfl⟩;simp only[gL]at e1 e2 e3 e4;refine iM (rec:=lp) h.L (by rw[hlp];rfl) (by rw[hlp];rfl) trivial e1 e2 e4 e3 (GF _ _ _) hlb ?_;clear e1 e2 e3 e4 hlp hW1 h0;have HXN:Hid (Ext W (W.alloc (.cells (lc (ls[k]'hk)) 62))):=qh (Id _ _);have HL0:=qh (h.on HXN.out).L;have HP:=qh ((h.on HXN.out).put (lp':=lb));have HBX:=qh ((ID W 62 (lc (ls[k]'hk))).put (.loop lb) (l:=w.heap.size+1+1+1+1+1) (by have:=(MD.1 h.L).1;omega));have HLB:=qh hlb;have HE5:=qh e5;have HHIT:=qh (fun W' (h:ToAt w lb ls A c ins k W')=>h.hit hk he);have HAK:=qh (HAD.out k hk);clear h hlb e5 he;generalize ls[k]'hk=x at *;gi_wp2
  refine⟨HL0.out,?_⟩;generalize hXX:W.heap.size=X at *;have hXw:w.heap.size+1<X:=by have:=(MD.1 HL0.out).1;simp only[Qe]at this;omega
  clear hXX;generalize (W.alloc (.cells (lc x) 62)).putObj (w.heap.size+1+1+1+1+1) (.loop lb)=Wb at *;have HX:Hid (Ext Wb Wb):=qh (iD _);have q0:=HP.out.qq.cell 0;have q1:=HP.out.qq.frozen 0;have c0:=HP.out.cc.cell 0;have c1:=HP.out.cc.frozen 0;simp only[Mk,Mm]at q0 c0;obtain⟨_,_,_,_,x4,x5,_⟩:=ap HBX.out (iD Wb);obtain⟨tq,htq⟩:∃tq,totQ (ls.take k) ins=tq:=⟨_,rfl⟩;obtain⟨tc,htc⟩:∃tc,totC (ls.take k) ins=tc:=⟨_,rfl⟩;rw[htq]at q0 HHIT HAK;rw[htc]at c0 HHIT HAK;have HTQ:=qh htq;have HTC:=qh htc;clear htq htc;replace HX:Hid (Ext Wb Wb.drew):=qh HX.out.drew;gi_wp2
  refine yM (S:=fun w'=>w'.cell? ⟨X,4,none⟩=some (.string (bs x.q))∧w'.cell? ⟨X,5,none⟩=some (.string (bs x.c))) (by kernel_rfl) (by simp[kj]) rt ⟨x4,x5⟩ ?_;intro hHeld;have a4:Wb.drew.cell? ⟨X,4,none⟩=some (.string (bs x.q)):=x4;have a5:Wb.drew.cell? ⟨X,5,none⟩=some (.string (bs x.c)):=x5;have hxg:X≠w.heap.size:=by omega
  have hxg2:X≠w.heap.size+1:=by omega
  have hgx:w.heap.size≠X:=by omega
  have hgx2:w.heap.size+1≠X:=by omega
  refine tk 1 (.pointer (some ⟨X,4,none⟩)) rfl (by kernel_rfl) (fun _ _ _ h=>h) (NB ⟨by rfl,?_⟩) (by assumption) ?_
  ·intro w hSw;(try dsimp only at hSw)
   go_simp
  simp only[Act.put,N6];refine tk 2 (.string (bs x.q)) rfl (by kernel_rfl) (fun _ _ _ h=>h) (NB ⟨by rfl,?_⟩) (by assumption) ?_
  ·intro w hSw;(try dsimp only at hSw)
   go_simp
  simp only[Act.put];refine tk 5 (.pointer (some ⟨X,5,none⟩)) rfl (by kernel_rfl) (fun _ _ _ h=>h) (NB ⟨by rfl,?_⟩) (by assumption) ?_
  ·intro w hSw;(try dsimp only at hSw)
   go_simp
  simp only[Act.put];refine tk 6 (.string (bs x.c)) rfl (by kernel_rfl) (fun _ _ _ h=>h) (NB ⟨by rfl,?_⟩) (by assumption) ?_
  ·intro w hSw;(try dsimp only at hSw)
   go_simp
  simp only[Act.put];refine Nn (rs:=[0,4]) (by kernel_rfl) (by simp) ?_;refine M9 rfl (fun K hK=>?_) (M9 rfl (fun K hK=>?_) (Ni))
  ·go_simp;refine hK.out _ _ ⟨a4,a5⟩ (fun hHeld=>?_);clear hK K;(try simp only[p4])
   refine Nn (rs:=[3,4]) (by kernel_rfl) (by simp) ?_;refine M9 rfl (fun K hK=>?_) (M9 rfl (fun K hK=>?_) (Ni))
   focus
    go_simp;refine(HAK.out.1 _ (HE.out.ext (HP.out.ext.trans HX.out))).mono ?_;rintro e w3⟨rfl,hx⟩;replace HX:=HX.qt hx;have hq:=HP.out.on HX.out;have a0:=hq.qq.cell 0;have a1:=hq.cc.cell 0;have a2:=hq.qq.frozen 0;have a3:=hq.cc.frozen 0;simp only[Mk,Mm]at a0 a1;rw[HTQ.out]at a0;rw[HTC.out]at a1;obtain⟨_,_,_,_,a4,a5,_⟩:=ap HBX.out HX.out;clear hx hq;refine hK.out _ _ ⟨a4,a5⟩ (fun hHeld=>?_);clear hK K;(try simp only[p4])
    refine Nn (rs:=[4]) (by kernel_rfl) (by simp) ?_;refine M9 rfl (fun K hK=>?_) (Ni);go_simp
   rotate_left
   focus
    go_simp;refine hK.out _ _ ⟨a4,a5⟩ (fun hHeld=>?_);clear hK K;(try simp only[p4])
    refine Nn (rs:=[3]) (by kernel_rfl) (by simp) ?_;refine M9 rfl (fun K hK=>?_) (Ni);go_simp;refine(HAK.out.1 _ (HE.out.ext (HP.out.ext.trans HX.out))).mono ?_;rintro e w3⟨rfl,hx⟩;replace HX:=HX.qt hx;have hq:=HP.out.on HX.out;have a0:=hq.qq.cell 0;have a1:=hq.cc.cell 0;have a2:=hq.qq.frozen 0;have a3:=hq.cc.frozen 0;simp only[Mk,Mm]at a0 a1;rw[HTQ.out]at a0;rw[HTC.out]at a1;obtain⟨_,_,_,_,a4,a5,_⟩:=ap HBX.out HX.out;clear hx hq
   all_goals
    refine hK.out _ _ ⟨a4,a5⟩ (fun hHeld=>?_);clear hK K;(try simp only[p4])
    refine Nn (rs:=[7]) (by kernel_rfl) (by simp) ?_;refine M9 rfl (fun K hK=>?_) (Ni);go_simp;refine(HAK.out.2 _ (HE.out.ext (HP.out.ext.trans HX.out))).mono ?_;rintro e w7⟨rfl,hx⟩;replace HX:=HX.qt hx;have hq:=HP.out.on HX.out;have a0:=hq.qq.cell 0;have a1:=hq.cc.cell 0;have a2:=hq.qq.frozen 0;have a3:=hq.cc.frozen 0;simp only[Mk,Mm]at a0 a1;rw[HTQ.out]at a0;rw[HTC.out]at a1;obtain⟨_,_,_,_,a4,a5,_⟩:=ap HBX.out HX.out;clear hx hq;refine hK.out _ _ ⟨a4,a5⟩ (fun hHeld=>?_);clear hK K;(try simp only[p4])
    refine Nn (rs:=[8]) (by kernel_rfl) (by simp) ?_;refine M9 rfl (fun K hK=>?_) (Ni);go_simp;refine hK.out _ _ ⟨?_,?_⟩ (fun hHeld=>?_)
    ·go_simp
    ·go_simp
    clear hK K;(try simp only[p4])
    refine Nn (rs:=[9]) (by kernel_rfl) (by simp) ?_;refine M9 rfl (fun K hK=>?_) (Ni);go_simp;refine hK.out _ _ ⟨?_,?_⟩ (fun hHeld=>?_)
    ·go_simp
    ·go_simp
    clear hK K;refine Rs (by kernel_rfl) ?_ _;have hT:=HHIT.out _ (HP.out.on HX.out);refine⟨by rw[HLB.out];exact hT.L,rfl,?_⟩;rw[HE5.out];exact hT.put
  ·go_simp;refine hK.out _ _ ⟨a4,a5⟩ (fun hHeld=>?_);clear hK K;(try simp only[p4])
   refine Nn (rs:=[0]) (by kernel_rfl) (by simp) ?_;refine M9 rfl (fun K hK=>?_) (Ni);go_simp;refine hK.out _ _ ⟨a4,a5⟩ (fun hHeld=>?_);clear hK K;(try simp only[p4])
   refine Nn (rs:=[3]) (by kernel_rfl) (by simp) ?_;refine M9 rfl (fun K hK=>?_) (Ni);go_simp;refine(HAK.out.1 _ (HE.out.ext (HP.out.ext.trans HX.out))).mono ?_;rintro e w3⟨rfl,hx⟩;replace HX:=HX.qt hx;have hq:=HP.out.on HX.out;have a0:=hq.qq.cell 0;have a1:=hq.cc.cell 0;have a2:=hq.qq.frozen 0;have a3:=hq.cc.frozen 0;simp only[Mk,Mm]at a0 a1;rw[HTQ.out]at a0;rw[HTC.out]at a1;obtain⟨_,_,_,_,a4,a5,_⟩:=ap HBX.out HX.out;clear hx hq;refine hK.out _ _ ⟨a4,a5⟩ (fun hHeld=>?_);clear hK K;(try simp only[p4])
   refine Nn (rs:=[7]) (by kernel_rfl) (by simp) ?_;refine M9 rfl (fun K hK=>?_) (Ni);go_simp;refine(HAK.out.2 _ (HE.out.ext (HP.out.ext.trans HX.out))).mono ?_;rintro e w7⟨rfl,hx⟩;replace HX:=HX.qt hx;have hq:=HP.out.on HX.out;have a0:=hq.qq.cell 0;have a1:=hq.cc.cell 0;have a2:=hq.qq.frozen 0;have a3:=hq.cc.frozen 0;simp only[Mk,Mm]at a0 a1;rw[HTQ.out]at a0;rw[HTC.out]at a1;obtain⟨_,_,_,_,a4,a5,_⟩:=ap HBX.out HX.out;clear hx hq;refine hK.out _ _ ⟨a4,a5⟩ (fun hHeld=>?_);clear hK K;(try simp only[p4])
   refine Nn (rs:=[8]) (by kernel_rfl) (by simp) ?_;refine M9 rfl (fun K hK=>?_) (Ni);go_simp;refine hK.out _ _ ⟨?_,?_⟩ (fun hHeld=>?_)
   ·go_simp
   ·go_simp
   clear hK K;(try simp only[p4])
   refine Nn (rs:=[9]) (by kernel_rfl) (by simp) ?_;refine M9 rfl (fun K hK=>?_) (Ni);go_simp;refine hK.out _ _ ⟨?_,?_⟩ (fun hHeld=>?_)
   ·go_simp
   ·go_simp
   clear hK K;refine Rs (by kernel_rfl) ?_ _;have hT:=HHIT.out _ (HP.out.on HX.out);refine⟨by rw[HLB.out];exact hT.L,rfl,?_⟩;rw[HE5.out];exact hT.put
 rintro e W⟨hv,h⟩;refine⟨hv,.inl ⟨h.L,?_⟩⟩;have hP:=h.put (lp':={ lp with state := .exhausted });generalize W.putObj (w.heap.size+1+1+1+1+1) (.loop { lp with state := .exhausted })=W3 at *;clear h hv hW1 hlp W1 h0;have q0:=hP.qq.cell 0;have c0:=hP.cc.cell 0;simp only[Mk,Mm]at q0 c0;rw[HT.out.1]at q0;rw[HT.out.2]at c0;have HP:=qh hP;clear hP;gi_wp2
 refine wpIn_wide.2 ?_;go_region_held3 (fun w'=>w'.cell? ⟨w.heap.size,0,none⟩=some (.string (bs (ofI TQ)))∧w'.cell? ⟨w.heap.size+1,0,none⟩=some (.string (bs (ofI TC)))) (go_keep) (fail)
 all_goals
  gi_wp2
  refine⟨by simp,.inl ⟨_,_,rfl,QN (yJ HP.out.D),?_⟩⟩;refine⟨.tuple #[.string (bs (ofI TQ)),.string (bs (ofI TC))],by simp[results,results14,go_sem],?_⟩;exact⟨rfl,HP.out.ext.drew.putObj (by omega) _⟩
end
section
open Go.RowKit Go.Shelf
attribute [local go_sem] size_bs toList_bs
def Lm(w:World)(ls:List LotV)(k:Nat)(wr:World):Prop:=Ext w wr∧Eh wr w.heap.size ((ls.take k).map (·.id))∧goAll [] ls=goAll ((ls.take k).map (·.id)) (ls.drop k)
theorem iP{seen:List Bs}{x:LotV}{r:List LotV}:(checkL x≠0->goAll seen (x :: r)=checkL x)∧(checkL x=0->x.id ∈ seen->goAll seen (x :: r)=5)∧(checkL x=0->x.id ∉ seen->goAll seen (x :: r)=goAll (seen++[x.id]) r):=by
 refine⟨fun h=>?_,fun h h2=>?_,fun h h2=>?_⟩
 ·rw[goAll,Mq h]
 ·rw[goAll,Mj (by simpa using h),Mq h2]
 ·rw[goAll,Mj (by simpa using h),Mj h2]
theorem BC{ls:List LotV}{k:Nat}(h:k<ls.length):(ls.take (k+1)).map (·.id)=(ls.take k).map (·.id)++[(ls[k]'h).id]:=by
 rw[Mo h,Pp];rfl
theorem dD(ls:List LotV)(A:Option Addr)(c:Nat)(w:World)(hE:Env w)(hA:aK w A ls)(hs:∀x ∈ ls,SmallL x)(hn:ls.length<=100000) :
  Calls prog 11 #[.slice A ls.length c] w fun e w'=>e = .returned (.int .i64 (checkAllL ls))∧Ext w w':=by
 have HE:=qh hE;have HA:=qh hA;have HS:=qh hs;clear hE hA hs;by_cases hbig:1000<ls.length
 ·have HR:Hid (checkAllL ls=4):=qh (by unfold checkAllL;rw[Mq hbig]);rw[HR.out];have g:decide (1000<(ls.length:Int))=true:=by rw[MA];omega
  go_enter func11,ntmps11;go_wp2_with fail;go_ret;exact⟨rfl,iD _⟩
 ·have HR:Hid (checkAllL ls=goAll [] ls):=qh (by unfold checkAllL;rw[Mj hbig]);rw[HR.out];have g:decide (1000<(ls.length:Int))=false:=by rw[Mi];omega
  have hmm:=@RW prog;obtain⟨R,hR⟩:∃R,goAll [] ls=R:=⟨_,rfl⟩;have HRR:=qh hR;rw[hR];clear hR HR;go_enter func11,ntmps11;go_wp2_with fail;go_loopw [13,5,6] (fun i _ _ wr=>∃k:Nat,k<=ls.length∧i = .int .i64 k∧Lm w ls k wr) (fun i _ _ _=>ls.length-(intOf i).toNat)
  case atStart=>exact⟨0,by omega,rfl,Id _ _,M4 w _,by simp⟩
  case round =>
   obtain⟨k,hk,rfl,hx,hids,hgo⟩:=hrel;clear hmm;by_cases hlt:k<ls.length
   ·have HX:=qh hx;have HI:=qh hids;have hst:=iP (seen:=(ls.take k).map (·.id)) (x:=ls[k]'hlt) (r:=ls.drop (k+1));rw[←MR hlt,←hgo,HRR.out]at hst;have HST:=qh hst;have HTI:=qh (BC hlt);have HSM:=qh (HS.out (ls[k]'hlt) (Ml _));obtain⟨b,o,rfl,hb,c0,c1,c2,c3,c4,c5,c6⟩:=(HA.out.ext hx).at_ hlt;have hwr:=hx.size;have hne:w.heap.size<wr.heap.size:=(MD.1 hids).1;generalize hids2:(ls.take k).map (·.id)=ids at *;generalize hxx:ls[k]'hlt=x at *;clear hx hids hgo hst hids2 hxx;have HCK:=qh (tK x HSM.out);have HB:=qh (ID wr 62 (lc x));have HXN:Hid (Ext wr (wr.alloc (.cells (lc x) 62))):=qh (Id _ _);go_wp2_with fail;refine(HCK.out _ (HE.out.ext (HX.out.trans HXN.out))).mono ?_;rintro e w1⟨rfl,hx1⟩;obtain⟨p0,p1,p2,p3,p4,p5,p6⟩:=ap HB.out hx1;replace HX:=qh ((HX.out.trans HXN.out).trans hx1);have hi1:=eB HI.out (HXN.out.trans hx1);have HI1:=qh hi1;clear hx1 HI HXN;by_cases hck:checkL x=0
    ·rw[hck];have HK0:=qh hck;clear hck;by_cases hin:x.id ∈ ids
     ·obtain⟨j,hj⟩:=wD x.id ids 0 0 hin;have hlook:=Bv (P:=prog) (w:=w1) 85 9 4 w.heap.size _ (gg ids 0).toArray (bs x.id) j (.bool true) underlying85 Nd HI1.out (by simpa using hj);have HF:=qh (HST.out.2.1 HK0.out hin);clear hin hj hi1;go_wp2_with fail;go_ret;exact⟨by rw[HF.out];rfl,HX.out⟩
     ·have hj:=tM x.id ids 0 0 hin;have hlook:=vL (P:=prog) (w:=w1) 85 9 4 w.heap.size _ (gg ids 0).toArray (bs x.id) (.bool false) underlying85 Nd HI1.out (by simpa using hj) (zeroValue4 w1);have hins:=EU (P:=prog) (w:=w1) 85 9 4 w.heap.size _ (gg ids 0).toArray (bs x.id) (.bool true) underlying85 Nd HI1.out (by simpa using hj);have HF:=qh (HST.out.2.2 HK0.out hin);clear hin hj hi1;go_wp2_with fail;go_roundw
      case rel =>
       refine⟨k+1,by omega,by go_num,HX.out.putObj (Mn _) _,?_,?_⟩
       ·unfold Eh;rw[PK (MD.1 HI1.out).1];rw[HTI.out,xE];simp
       ·rw[HTI.out,HRR.out];exact HF.out
      case measure=>simp[intOf];omega
    ·have g2:(checkL x != 0)=true:=by rw[Nc];exact hck
     have HF:=qh (HST.out.1 hck);clear hck hi1;go_wp2_with fail;go_ret;exact⟨by rw[HF.out];rfl,HX.out⟩
   ·have HF:Hid (R=0):=qh (by rw[←HRR.out,hgo,List.drop_eq_nil_of_le (by omega)];rfl);have HX:=qh hx;clear hgo hids hx;go_wp2_with fail;go_ret;exact⟨by rw[HF.out];rfl,HX.out⟩
def bO{α:Type}(p:α->Bool)(l:List α):Int:=match l.findIdx? p with|some i=>(i:Int)|none => -1
theorem kF{α:Type}{p:α->Bool}{l:List α}(h:∀x ∈ l,p x=false):bO p l = -1:=by
 unfold bO;rw[QZ.2 h]
theorem lV{α:Type}{p:α->Bool}{l:List α}{k:Nat}(hk:k<l.length)(h:∀x ∈ l.take k,p x=false)(hp:p (l[k]'hk)=true):bO p l=k:=by
 have:l.findIdx? p=some k:=by
  rw[Pt];refine⟨hk,hp,fun j hj=>?_⟩;have:=h (l[j]'(by omega)) (PV.2 ⟨j,by omega,rfl⟩);simp[this]
 unfold bO;rw[this]
theorem kG{α:Type}{p:α->Bool}{l:List α}{k:Nat}(hk:k<l.length)(h:∀x ∈ l.take k,p x=false)(hp:p (l[k]'hk)=false):∀x ∈ l.take (k+1),p x=false:=by
 intro x hx;rw[Mo hk]at hx;rcases MN.1 hx with hx|hx
 ·exact h x hx
 ·simp at hx;rw[hx];exact hp
theorem nX{α:Type}(p:α->Bool)(l:List α):decide (0<=bO p l)=l.any p:=by
 unfold bO
 cases h:l.findIdx? p with
 |none =>
  rw[QZ]at h;rw[show l.any p=false by rw[PT];intro x hx;simp[h x hx]];rfl
 |some i =>
  rw[Pt]at h;obtain⟨hi,hp,_⟩:=h;rw[show l.any p=true by rw[Rx];exact⟨_,Ml hi,hp⟩];simp
theorem BD(kf:Nat)(cb:Array Value)(ek:∀args w,(callFunc kf args).run prog w = .ok (.enter kf args) w)(p:Bs->Bool)(ls:List Bs)(A:Option Addr)(c:Nat)(w:World)(hA:RdS w A ls)(hn:ls.length<=1000000)
  (hF:∀x ∈ ls,∀W,Ext w W->Calls prog kf (#[.string (bs x)]++cb) W fun e w'=>e = .returned (.bool (p x))∧Ext W w') :
  Calls prog 301 #[.slice A ls.length c,.func (.func kf) #[] cb] w fun e w'=>e = .returned (.int .i64 (bO p ls))∧Ext w w':=by
 have HA:=qh hA;have HF:=qh hF;clear hA hF;go_enter func301,ntmps301;go_wp2_with fail;go_loopw [8,5] (fun i _ wr=>∃k:Nat,k<=ls.length∧i = .int .i64 k∧(∀x ∈ ls.take k,p x=false)∧Ext w wr) (fun i _ _=>ls.length-(intOf i).toNat)
 case atStart=>exact⟨0,by omega,rfl,by simp,iD _⟩
 case round =>
  obtain⟨k,hk,rfl,hz,hx⟩:=hrel;have HZ:=qh hz;have HX:=qh hx;clear hz hx;by_cases hlt:k<ls.length
  ·obtain⟨b,o,rfl,hb,c0⟩:=(HA.out.ext HX.out).at_ hlt;have HC:=qh (HF.out (ls[k]'hlt) (Ml _));have HN:Hid (p (ls[k]'hlt)=false->∀x ∈ ls.take (k+1),p x=false):=qh (fun h=>kG hlt HZ.out h);have HI:Hid (p (ls[k]'hlt)=true->bO p ls=k):=qh (fun h=>lV hlt HZ.out h);generalize (ls[k]'hlt)=x at *;go_wp2_with fail;refine(HC.out _ HX.out).mono ?_;rintro e w1⟨rfl,hx1⟩;replace HX:=HX.qt hx1;clear hx1
   cases hp:p x
   ·have HN1:=qh (HN.out hp);clear hp;go_wp2_with fail;go_roundw
    case rel=>exact⟨k+1,by omega,by go_num,HN1.out,HX.out⟩
    case measure=>simp[intOf];omega
   ·have HI1:=qh (HI.out hp);clear hp;go_wp2_with fail;go_ret;exact⟨by rw[HI1.out];rfl,HX.out⟩
  ·have HI:Hid (bO p ls = -1):=qh (kF (by have:=HZ.out;rwa[Mv (by omega)]at this));go_wp2_with fail;go_ret;exact⟨by rw[HI.out];rfl,HX.out⟩
theorem yN(kf:Nat)(cb:Array Value)(ek:∀args w,(callFunc kf args).run prog w = .ok (.enter kf args) w)(p:Bs->Bool)(ls:List Bs)(A:Option Addr)(c:Nat)(w:World)(hA:RdS w A ls)(hn:ls.length<=1000000)
  (hF:∀x ∈ ls,∀W,Ext w W->Calls prog kf (#[.string (bs x)]++cb) W fun e w'=>e = .returned (.bool (p x))∧Ext W w') :
  Calls prog 218 #[.slice A ls.length c,.func (.func kf) #[] cb] w fun e w'=>e = .returned (.bool (ls.any p))∧Ext w w':=by
 have HI:=qh (BD kf cb ek p ls A c w hA hn hF);have HZ:Hid (decide (0<=bO p ls)=ls.any p):=qh (nX p ls);generalize ls.any p=b at *;generalize bO p ls=z at *;clear hA hF;go_enter func218,ntmps218;go_wp2_with fail;refine HI.out.mono ?_;rintro e w1⟨rfl,hx1⟩;have HX:=qh hx1;clear hx1;go_wp2_with fail;go_ret;exact⟨by rw[←HZ.out];rfl,HX.out⟩
theorem BF(kf:Nat)(cb:Array Value)(ek:∀args w,(callFunc kf args).run prog w = .ok (.enter kf args) w)(p:LotV->Bool)(ls:List LotV)(A:Option Addr)(c:Nat)(w:World)(hA:aK w A ls)(hn:ls.length<=1000000)
  (hF:∀x ∈ ls,∀W,Ext w W->Calls prog kf (#[lv x]++cb) W fun e w'=>e = .returned (.bool (p x))∧Ext W w') :
  Calls prog 103 #[.slice A ls.length c,.func (.func kf) #[] cb] w fun e w'=>e = .returned (.int .i64 (bO p ls))∧Ext w w':=by
 have HA:=qh hA;have HF:=qh hF;clear hA hF;go_enter func103,ntmps103;go_wp2_with fail;go_loopw [8,5] (fun i _ wr=>∃k:Nat,k<=ls.length∧i = .int .i64 k∧(∀x ∈ ls.take k,p x=false)∧Ext w wr) (fun i _ _=>ls.length-(intOf i).toNat)
 case atStart=>exact⟨0,by omega,rfl,by simp,iD _⟩
 case round =>
  obtain⟨k,hk,rfl,hz,hx⟩:=hrel;have HZ:=qh hz;have HX:=qh hx;clear hz hx;by_cases hlt:k<ls.length
  ·obtain⟨b,o,rfl,hb,c0,c1,c2,c3,c4,c5,c6⟩:=(HA.out.ext HX.out).at_ hlt;have HC:=qh (HF.out (ls[k]'hlt) (Ml _));have HN:Hid (p (ls[k]'hlt)=false->∀x ∈ ls.take (k+1),p x=false):=qh (fun h=>kG hlt HZ.out h);have HI:Hid (p (ls[k]'hlt)=true->bO p ls=k):=qh (fun h=>lV hlt HZ.out h);generalize (ls[k]'hlt)=x at *;go_wp2_with fail;refine(HC.out _ HX.out).mono ?_;rintro e w1⟨rfl,hx1⟩;replace HX:=HX.qt hx1;clear hx1
   cases hp:p x
   ·have HN1:=qh (HN.out hp);clear hp;go_wp2_with fail;go_roundw
    case rel=>exact⟨k+1,by omega,by go_num,HN1.out,HX.out⟩
    case measure=>simp[intOf];omega
   ·have HI1:=qh (HI.out hp);clear hp;go_wp2_with fail;go_ret;exact⟨by rw[HI1.out];rfl,HX.out⟩
  ·have HI:Hid (bO p ls = -1):=qh (kF (by have:=HZ.out;rwa[Mv (by omega)]at this));go_wp2_with fail;go_ret;exact⟨by rw[HI.out];rfl,HX.out⟩
theorem yO(ls:List LotV)(id:Bs):bO (fun x=>x.id == id) ls=match findL ls id with|some i=>(i:Int)|none => -1:=by
 have:ls.findIdx? (fun x=>x.id == id)=findL ls id:=by
  induction ls with
  |nil=>rfl
  |cons x r ih =>
   rw[List.findIdx?_cons,findL];by_cases h:x.id=id
   ·simp[h]
   ·simp[h,ih]
 unfold bO;rw[this]
theorem BH(x:LotV)(id:Bs)(g:Nat)(W:World)(hb:Blk W g 9 #[.string (bs id)]) :
  Calls prog 104 #[lv x,.pointer (some ⟨g,0,none⟩)] W fun e w'=>e = .returned (.bool (x.id == id))∧Ext W w':=by
 have q0:=(hb.alloc (.cells (lc x) 62)).cell 0;simp only[Mk,Mm]at q0;have hlt:=hb.lt;have HX:Hid (Ext W (W.alloc (.cells (lc x) 62))):=qh (Id _ _);obtain⟨xi,xn,xa,xo,xq,xc,xu⟩:=x;clear hb;go_enter func104,ntmps104;go_wp2_with fail;go_ret;exact⟨rfl,HX.out⟩
def jv(ls:List LotV)(id:Bs):Int:=match findL ls id with|some i=>(i:Int)|none=>0
theorem nY(ls:List LotV)(A:Option Addr)(c:Nat)(id:Bs)(w:World)(hA:aK w A ls)(hn:ls.length<=1000000) :
  Calls prog 33 #[.slice A ls.length c,.string (bs id)] w fun e w'=>e = .returned (.tuple #[.int .i64 (jv ls id),.bool (findL ls id).isSome])∧Ext w w':=by
 have HB:=qh (ID w 9 #[.string (bs id)]);have HX0:Hid (Ext w (w.alloc (.cells #[.string (bs id)] 9))):=qh (Id _ _);have hi:=BF 104 #[.pointer (some ⟨w.heap.size,0,none⟩)] (fun _ _=>by rfl) (fun x=>x.id == id) ls A c _ (hA.ext HX0.out) hn (fun x _ W hx=>BH x id w.heap.size W (HB.out.ext hx));rw[yO]at hi;have HI:=qh hi
 have HZ:Hid (max (match findL ls id with|some i=>(i:Int)|none => -1) 0=jv ls id∧decide (0<=(match findL ls id with|some i=>(i:Int)|none => -1))=(findL ls id).isSome):=qh (by
  unfold jv
  cases findL ls id with
  |none=>exact⟨rfl,rfl⟩
  |some i=>exact⟨by simp only;omega,by simp⟩)
 generalize (match findL ls id with|some i=>(i:Int)|none => -1)=z at *;generalize jv ls id=y at *;generalize (findL ls id).isSome=b at *;clear hi hA;go_enter func33,ntmps33;go_wp2_with fail;refine HI.out.mono ?_;rintro e w1⟨rfl,hx1⟩;have HX:=HX0.qt hx1;clear hx1;go_wp2_with fail;go_ret2;exact⟨by rw[←HZ.out.1,←HZ.out.2];rfl,HX.out⟩
end
section
open Go.RowKit Go.Shelf
attribute [local go_sem] size_bs toList_bs Oper.semAt_some
def cD(W:World)(g x:Nat):Prop:=∃A c,Blk W g 110 #[.slice A (gr x).length c]∧RdU W A (gr x)∧(gr x).length<=c∧c<=maxLen
theorem RdU.slot{w:World}{A:Option Addr}{gs:List Nat}(h:RdU w A gs){g:Nat}{t:TypeId}{B:Option Addr}{n c:Nat}(hb:Blk w g t #[.slice B n c]):0<gs.length->∀b o,A=some ⟨b,o,none⟩->b≠g:=by
 intro hn b o e hbg;subst e;subst hbg;have h0:=Reads.cell h (j:=0) (u := .int .u64 (gs[0]'hn)) (by simp[ucells,hn]);rw[Nj,hb.cell o]at h0;match o,h0 with
 |0,h0=>simp at h0
 |o+1,h0=>simp at h0
theorem RdU.put{w:World}{A:Option Addr}{gs:List Nat}(h:RdU w A gs){l:Nat}{lp:Loop}(hl:w.heap[l]? = some (.loop lp))(o':Obj):RdU (w.putObj l o') A gs:=by
 rcases MB gs.length with h0|h0
 ·exact⟨h.1,fun hn=>absurd hn (by omega)⟩
 ·exact Reads.put h hl (by simp) (by simpa[ucells] using h0) o'
theorem cD.ext{W W':World}{g x:Nat}(h:cD W g x)(hx:Ext W W'):cD W' g x:=by
 obtain⟨A,c,h1,h2,h3,h4⟩:=h;exact⟨A,c,h1.ext hx,h2.ext hx,h3,h4⟩
theorem cD.far{W:World}{g x g':Nat}{B:Option Addr}{n c:Nat}(h:cD W g x)(hb:Blk W g' 110 #[.slice B n c])(hne:g≠g')(u:Value):cD (W.setCell ⟨g',0,none⟩ u) g x:=by
 obtain⟨A,c',h1,h2,h3,h4⟩:=h;exact⟨A,c',h1.far (p:=⟨g',0,none⟩) hne u,h2.far u (h2.slot hb),h3,h4⟩
theorem cD.set_{W:World}{g x y:Nat}{A:Option Addr}{c:Nat}(h:cD W g y)(h2:RdU W A (gr x))(h3:(gr x).length<=c)(h4:c<=maxLen):cD (W.setCell ⟨g,0,none⟩ (.slice A (gr x).length c)) g x:=by
 obtain⟨A',c',k1,k2,k3,k4⟩:=h;have hb:=k1.set_ 0 (.slice A (gr x).length c);exact⟨A,c,hb,h2.far _ (h2.slot k1),h3,h4⟩
theorem cD.put{W:World}{g x l:Nat}{lp:Loop}(h:cD W g x)(hl:W.heap[l]? = some (.loop lp))(o':Obj)(hne:g≠l):cD (W.putObj l o') g x:=by
 obtain⟨A,c,h1,h2,h3,h4⟩:=h;exact⟨A,c,h1.put o' hne,h2.put hl o',h3,h4⟩
theorem cD.unique{W:World}{g x y:Nat}(h:cD W g x)(k:cD W g y):x=y:=by
 obtain⟨A,c,h1,h2,_,_⟩:=h;obtain⟨A',c',k1,k2,_,_⟩:=k
 have e:some (Obj.cells #[Value.slice A (gr x).length c] 110 (0,0))=some (Obj.cells #[Value.slice A' (gr y).length c'] 110 (0,0)):=by
  unfold Blk at h1 k1;rw[←h1,←k1]
 simp only[On,Obj.cells.injEq,Array.mk.injEq,OX,Value.slice.injEq,Qx]at e;obtain⟨rfl,hl,rfl⟩:=e;apply gr_inj;apply Oi hl;intro i hi1 hi2;obtain⟨b,o,e1,_,hc⟩:=h2.at_ hi1;obtain⟨b',o',e2,_,hc'⟩:=k2.at_ hi2;rw[e1]at e2;injection e2 with e2
 injection e2 with e3 e4
 subst e3;subst e4;rw[hc]at hc';simp only[On,Value.int.injEq,true_and]at hc';omega
structure GcAt (w:World) (g0 B:Nat) (lp:Loop) (x y o:Nat) (W:World):Prop where
 ext:Ext w W
 out:cD W g0 o
 m:cD W B x
 n:cD W (B+1) y
 D:W.heap[B+1+1]? = some (.deferred (some []))
 L:W.heap[B+1+1+1]? = some (.loop lp)
 lx:(gr x).length<=900000
 ly:(gr y).length<=900000
 lo:(gr o).length<=900000
 lw:w.heap.size<=g0
 lg:g0<B
section
variable {w:World} {g0 B:Nat} {lp lp':Loop} {x y o:Nat} {W W':World}
theorem GcAt.on(h:GcAt w g0 B lp x y o W)(hx:Ext W W'):GcAt w g0 B lp x y o W' :=
 ⟨h.ext.trans hx,h.out.ext hx,h.m.ext hx,h.n.ext hx,eB h.D hx,eB h.L hx,h.lx,h.ly,h.lo,h.lw,h.lg⟩
theorem GcAt.put(h:GcAt w g0 B lp x y o W):GcAt w g0 B lp' x y o (W.putObj (B+1+1+1) (.loop lp')):=by
 have hg:=h.lg;have hw:=h.lw;refine⟨h.ext.putObj (by omega) _,h.out.put h.L _ (by omega),h.m.put h.L _ (by omega),h.n.put h.L _ (by omega),mz h.D (by omega),PK (MD.1 h.L).1,h.lx,h.ly,h.lo,h.lw,h.lg⟩
theorem GcAt.take(h:GcAt w g0 B lp x y o W){A:Option Addr}{c:Nat}(_hb:Blk W B 110 #[.slice A (gr x).length c])(hr:RdU W A (gr x))(h3:(gr x).length<=c)(h4:c<=maxLen):GcAt w g0 B lp x y x (W.setCell ⟨g0,0,none⟩ (.slice A (gr x).length c)):=by
 have hg:=h.lg;have hw:=h.lw;obtain⟨Ao,co,k1,_⟩:=h.out;exact⟨h.ext.setCell hw _,h.out.set_ hr h3 h4,h.m.far k1 (by omega) _,h.n.far k1 (by omega) _,eM h.D (by omega),eM h.L (by omega),h.lx,h.ly,h.lx,h.lw,h.lg⟩
theorem GcAt.next(h:GcAt w g0 B lp x y o W){A A2:Option Addr}{c c2:Nat}(_hb:Blk W (B+1) 110 #[.slice A (gr y).length c])(hr:RdU W A (gr y))(h3:(gr y).length<=c)(h4:c<=maxLen){r:Nat}(hr2:RdU W A2 (gr r))(h5:(gr r).length<=c2)(h6:c2<=maxLen)(hl:(gr r).length<=900000) :
  GcAt w g0 B lp y r o ((W.setCell ⟨B,0,none⟩ (.slice A (gr y).length c)).setCell ⟨B+1,0,none⟩ (.slice A2 (gr r).length c2)):=by
 have hg:=h.lg;have hw:=h.lw;obtain⟨Am,cm,k1,_⟩:=h.m;have hn':cD (W.setCell ⟨B,0,none⟩ (.slice A (gr y).length c)) (B+1) y:=h.n.far k1 (by omega) _;have hm':cD (W.setCell ⟨B,0,none⟩ (.slice A (gr y).length c)) B y:=h.m.set_ hr h3 h4;have ho':cD (W.setCell ⟨B,0,none⟩ (.slice A (gr y).length c)) g0 o:=h.out.far k1 (by omega) _;have hr2':RdU (W.setCell ⟨B,0,none⟩ (.slice A (gr y).length c)) A2 (gr r):=hr2.far _ (hr2.slot k1);have hn2:=hn';obtain⟨An,cn,j1,_⟩:=hn2;exact⟨(h.ext.setCell (p:=⟨B,0,none⟩) (by dsimp only;omega) _).setCell (p:=⟨B+1,0,none⟩) (by dsimp only;omega) _,ho'.far j1 (by omega) _,hm'.far j1 (by omega) _,hn'.set_ hr2' h5 h6,eM (eM h.D (by omega)) (by omega),eM (eM h.L (by omega)) (by omega),h.ly,hl,h.lo,h.lw,h.lg⟩
end
theorem BJ(A A':Option Addr)(a c a' c':Nat)(w:World) :
  Calls prog 355 #[.slice A a c,.slice A' a' c'] w fun e w'=>e = .returned (.func (.func 375) #[] #[.pointer (some ⟨w.heap.size,0,none⟩),.pointer (some ⟨w.heap.size+1,0,none⟩)])∧w'=(w.alloc (.cells #[.slice A a c] 110)).alloc (.cells #[.slice A' a' c'] 110):=by
 go_enter func355,ntmps355;go_wp2_with fail;go_ret;exact⟨rfl,rfl⟩
def GI(w:World)(g0 B:Nat)(lp:Loop)(x y:Nat)(e:Ending)(W':World):Prop:=e = .returned (.bool true)∧GcAt w g0 B lp x y x W'
theorem yP(n:Nat)(w:World)(g0 B:Nat)(lp:Loop)(G:Nat)
  (hY:∀x y o W A c A' c',GcAt w g0 B lp x y o W->Blk W B 110 #[.slice A (gr x).length c]->RdU W A (gr x)->(gr x).length<=c->c<=maxLen->YieldAt Fence.wide (n-1) prog (B+1+1+1) #[.slice A (gr x).length c,.slice A' (gr y).length c'] W (GI w g0 B lp x y))
  (x y o:Nat) (W:World) (h0:GcAt w g0 B lp x y o W) (hG:Nat.gcd x y=G) :
  CallsIn Fence.wide n prog 375 #[.func (.yield (B+1+1+1)) #[] #[],.pointer (some ⟨B,0,none⟩),.pointer (some ⟨B+1,0,none⟩)] W fun e W'=>(∃v,e = .returned v)∧∃y,GcAt w g0 B lp G y G W':=by
 have hfn:∀k,Fence.wide.fn k:=fun _=>trivial
 have hdp:Fence.wide.depth.isSome=false:=rfl;have HY:=qh hY;have HG:=qh hG;have H0:=qh h0;clear hY hG h0;refine Sd func375 rfl trivial ?_ rfl;simp only[ntmps375,Nh,MG,Ns,Nat.reduceAdd,Nat.reduceSub,Ov,Ow,OU,OA,ML,MZ];gi_wp2
 gi_loopw [4,5] (fun _ _ wr=>∃x y o:Nat,GcAt w g0 B lp x y o wr∧Nat.gcd x y=G) (fun _ _ wr=>@Classical.epsilon Nat ⟨0⟩ (fun y=>cD wr (B+1) y))
 case atStart=>exact⟨x,y,o,H0.out,HG.out⟩
 case round =>
  clear HG H0;obtain⟨x,y,o,h,hg⟩:=hrel;have HM:Hid (@Classical.epsilon Nat ⟨0⟩ (fun y=>cD wr (B+1) y)=y):=qh ((Classical.epsilon_spec (p:=fun y=>cD wr (B+1) y) ⟨y,h.n⟩).unique h.n);obtain⟨A,c,k1,k2,k3,k4⟩:=h.m;obtain⟨A',c',j1,j2,j3,j4⟩:=h.n;obtain⟨fn,tmps,assign,body,hy,hR⟩:=HY.out x y o wr A c A' c' h k1 k2 k3 k4;have HR:=qh hR;have H:=qh h;have HGC:=qh hg;have x0:=k1.cell 0;have y0:=j1.cell 0;simp only[Mk,Mm]at x0 y0;clear h hg hR HY k1 k2 k3 k4 j1 j2 j3 j4;gi_wp2
  refine HR.out.mono ?_;rintro e W3⟨rfl,hK⟩;clear HR H;obtain⟨A,c,k1,k2,k3,k4⟩:=hK.m;obtain⟨A',c',j1,j2,j3,j4⟩:=hK.n;have x0:=k1.cell 0;have y0:=j1.cell 0;simp only[Mk,Mm]at x0 y0;have HK:=qh hK;by_cases hy0:y=0
  ·subst hy0;rw[Nat.gcd_zero_right]at HGC;have hl0:decide (0<(gr 0).length)=false:=by rw[gr_zero];rfl
   clear hK k1 k2 k3 k4 j1 j2 j3 j4;gi_wp2
   go_end0
   refine⟨⟨_,rfl⟩,0,?_⟩;have:=HK.out;rw[HGC.out]at this
   exact this
  ·have hl0:decide (0<(gr y).length)=true:=by
    rw[MA];rcases MB (gr y).length with e|e
    ·exact absurd (gr_inj (by rw[My.1 e,gr_zero]):y=0) hy0
    ·exact e
   have HDV:=qh (fun W h1 h2=>sw x y (by omega) A A' c c' W h1 h2 hK.lx hK.ly k3 k4);have HR1:=qh k2;have HR2:=qh j2;have HC2:=qh (MC j3 j4);have hgr:(gr (x % y)).length<=900000:=Mx (gr_len_mono (PE (NV x (by omega)))) hK.ly;have HGR:=qh hgr;have HLT:Hid (x % y<y):=qh (NV x (by omega));have HG2:Hid (Nat.gcd y (x % y)=G):=qh (by rw[←HGC.out,Nat.gcd_comm x y,Nat.gcd_rec y x,Nat.gcd_comm]);clear hK k1 k2 k3 k4 j1 j2 j3 j4 hgr hy0 HGC;gi_wp2_with (gi_at_call 263;refine(Nu.2 (HDV.out _ HR1.out HR2.out)).mono ?_;rintro e w5⟨A1,c1,A2,c2,rfl,hq,hr,hx,hqc,hrc⟩;(have HK5:=qh (HK.out.on hx));(have HR5:=qh (HR2.out.ext hx));(have HRR:=qh hr);(have HRC:=qh hrc);(obtain⟨Am,cm,m1,_⟩:=HK5.out.m);(obtain⟨An,cn,n1,n2,n3,n4⟩:=HK5.out.n);(have u0:=m1.cell 0);(have v0:=n1.cell 0);(have u1:=m1.frozen 0);(have v1:=n1.frozen 0);(simp only[Mk,Mm]at u0 v0);(have HN1:=qh n1);(have HN2:=qh n2);(have HN3:=qh (MC n3 n4));clear hq hr hx hqc hrc m1 n1 n2 n3 n4);go_roundw
   case rel=>exact⟨y,x % y,x,HK5.out.next HN1.out HN2.out HN3.out.1 HN3.out.2 HRR.out HRC.out.1 HRC.out.2 HGR.out,HG2.out⟩
   case measure =>
    rw[HM.out];have hn:=(HK5.out.next HN1.out HN2.out HN3.out.1 HN3.out.2 HRR.out HRC.out.1 HRC.out.2 HGR.out).n;rw[(Classical.epsilon_spec (p:=fun y=>cD _ (B+1) y) ⟨_,hn⟩).unique hn];exact HLT.out
theorem yQ(n:Nat):dL false n=ofI n:=by rw[fX];rfl
theorem BM(x y:Value)(W:World):(Instr.field 112 (.agg #[x,y]) 1).run prog W = .ok y W:=by kernel_rfl
theorem GJ(a b:Bs)(ha:a.length<=100000)(hb:b.length<=100000):bJ 325 #[.string (bs a),.string (bs b)] (.string (bs (ofI (Int.gcd (valI a) (valI b):Nat)))):=by
 intro w hE;have hfn:∀k,Fence.wide.fn k:=fun _=>trivial
 have hdp:Fence.wide.depth.isSome=false:=rfl;have HR1:=qh (fun W=>cW a W (by omega));have HR2:=qh (fun W=>cW b W (by omega));have HL1:Hid ((gr (natOf (mag a))).length<=900000):=qh (by have:=bM (be a ha);omega);have HL2:Hid ((gr (natOf (mag b))).length<=900000):=qh (by have:=bM (be b hb);omega);have HG:Hid (Nat.gcd (natOf (mag a)) (natOf (mag b))=Int.gcd (valI a) (valI b)):=qh (by rw[m8,m8];rfl);have HE:=qh hE;generalize Int.gcd (valI a) (valI b)=G at *;generalize natOf (mag a)=x at *;generalize natOf (mag b)=y at *;generalize neg a=ba at *;generalize neg b=bb at *;have hf:=BM;clear ha hb hE;refine(Nu (n:=5)).1 ?_;refine Qk func325 rfl trivial ?_ rfl;simp only[ntmps325,Nh,MG,Ns,Nat.reduceAdd,Nat.reduceSub,Ov,Ow,OU,OA,ML,MZ];gi_wp2_with fail;refine(Nu.2 (HR1.out _)).mono ?_;rintro e w1⟨A,c,rfl,hrd1,hx1,hc1,hm1⟩;have HX:=qh ((Id w (.cells #[.slice none 0 0] 110)).trans hx1);have HB:=qh ((ID w 110 #[.slice none 0 0]).ext hx1);have HD1:=qh hrd1;have HC1:=qh (MC hc1 hm1);clear hrd1 hx1 hc1 hm1;gi_wp2_with fail;refine(Nu.2 (HR2.out _)).mono ?_;rintro e w2⟨A',c',rfl,hrd2,hx2,hc2,hm2⟩;replace HX:=HX.qt hx2;replace HB:=qh (HB.out.ext hx2);replace HD1:=qh (HD1.out.ext hx2);have HD2:=qh hrd2;have HC2:=qh (MC hc2 hm2);clear hrd2 hx2 hc2 hm2;gi_wp2_with fail;refine(Nu.2 (BJ A A' _ c _ c' w2)).mono ?_;rintro e w3⟨rfl,rfl⟩;gi_wp2_with fail;refine fI rfl (by omega) (w2.heap.size+1+1) (by simp) rfl trivial (fun _ _=>by rfl) ?_;intro fn lp W1 hlp hW1 _;have hlt:=HB.out.lt;have hex:Ext w2 W1:=by subst hW1;exact(((Id w2 _).alloc _).alloc _).alloc _
 refine(yP _ w w.heap.size w2.heap.size lp G ?hY x y 0 W1 ?h0 HG.out).mono ?_
 case h0 =>
  refine⟨HX.out.trans hex,⟨none,0,?_,?_,?_,by unfold maxLen;omega⟩,⟨A,c,?_,HD1.out.ext hex,HC1.out.1,HC1.out.2⟩,⟨A',c',?_,HD2.out.ext hex,HC2.out.1,HC2.out.2⟩,?_,?_,HL1.out,HL2.out,by rw[gr_zero];simp,Mn _,hlt⟩
  ·rw[gr_zero];exact HB.out.ext hex
  ·rw[gr_zero];exact Reads.nil
  ·rw[gr_zero];exact Mn _
  ·subst hW1;exact(((Mf _ _ _ _ rfl).alloc _).alloc _).alloc _
  ·subst hW1;exact((Mf _ _ _ _ (by simp)).alloc _).alloc _
  ·subst hW1;exact qc (newAt _ _ _ (by simp))
  ·subst hW1;exact newAt _ _ _ (by simp)
 case hY =>
  intro x y o W A c A' c' h k1 k2 k3 k4;have e1:=M6 Loop.assign hlp;have e2:=M6 Loop.body hlp;have e3:=M6 Loop.tmps hlp;have e4:=M6 Loop.params hlp;have e5:{ lp with state := .ready,pending:=none }=lp:=by rw[hlp];rfl
  obtain⟨lb,hlb⟩:∃lb,{ lp with state := .busy }=lb:=⟨_,rfl⟩;simp only[gL]at e1 e2 e3 e4;refine iM (rec:=lp) h.L (by rw[hlp];rfl) (by rw[hlp];rfl) trivial e1 e2 e4 e3 (GG _ _ _ _ _) hlb ?_;clear e1 e2 e3 e4 hlp hW1 hex;have HL0:=qh h.L;have HP:=qh (h.put (lp':=lb));have HK1:=qh (k1.put (.loop lb) (l:=w2.heap.size+1+1+1) (by omega));have HK2:=qh (k2.put h.L (.loop lb));have HK3:=qh (MC k3 k4);have HLB:=qh hlb;have HE5:=qh e5;clear h k1 k2 k3 k4 hlb e5;gi_wp2
  refine⟨HL0.out,?_⟩;generalize W.putObj (w2.heap.size+1+1+1) (.loop lb)=Wb at *;obtain⟨Ao,co,o1,_⟩:=HP.out.out;have u0:=o1.cell 0;have u1:=o1.frozen 0;simp only[Mk,Mm]at u0;clear o1;gi_wp2
  have hT:=HP.out.take HK1.out HK2.out HK3.out.1 HK3.out.2;refine⟨by rw[HLB.out];exact hT.L,rfl,?_⟩;rw[HE5.out];exact hT.put
 rintro e W⟨hv,y',h⟩;refine⟨hv,.inl ⟨h.L,?_⟩⟩;have hP:=h.put (lp':={ lp with state := .exhausted });generalize W.putObj (w2.heap.size+1+1+1) (.loop { lp with state := .exhausted })=W3 at *;clear h hv hW1 hlp W1 hex;obtain⟨Ao,co,o1,o2,o3,o4⟩:=hP.out;have u0:=o1.cell 0;simp only[Mk,Mm]at u0;have HP:=qh hP;have HT:=qh (fun W hr hE=>cJ false G Ao co W hr (Mx hP.lo (by omega)) o3 o4 hE);rw[yQ]at HT;have HO:=qh o2;clear hP o1 o2 o3 o4;gi_wp2_with (gi_at_call 69;refine(Nu.2 (HT.out _ HO.out (HE.out.ext HP.out.ext))).mono ?_;rintro e w5⟨rfl,hx5⟩;(have HX5:=qh (HP.out.ext.trans hx5));(have HD5:=qh (eB HP.out.D hx5));clear hx5);refine⟨by simp,.inl ⟨_,_,rfl,QN HD5.out,?_⟩⟩;refine⟨.string (bs (ofI (G:Nat))),by simp[results,results325,go_sem],?_⟩;exact⟨rfl,HX5.out.putObj (by have:=HP.out.lg;omega) _⟩
end
end Go.Proofs.YtaegjkllenlfpaaGreatDoor
