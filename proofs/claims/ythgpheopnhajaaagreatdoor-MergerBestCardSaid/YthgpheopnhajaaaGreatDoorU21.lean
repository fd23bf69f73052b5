/- The seat's texts, part U21. -/
import Derived.Test.YthgpheopnhajaaaGreatDoorU15
import Derived.Test.YthgpheopnhajaaaGreatDoorU17
import Derived.Test.YthgpheopnhajaaaGreatDoorU20
import Derived.Calls
import Derived.RunT
set_option maxRecDepth 100000
set_option maxHeartbeats 8000000
namespace Go.Proofs.YthgpheopnhajaaaGreatDoor
section
open Go.RowKit Go.Shelf
attribute [local go_sem] size_bs toList_bs Oper.semAt_some
theorem sum_abs {α:Type} (f:α→Int) (M:Nat):∀ (l:List α),(∀ x ∈ l,(f x).natAbs≤M)→((l.map f).sum).natAbs≤l.length*M
 |[],_=>by simp
 |a :: r,h=>by
  have h1:=h a (by simp)
  have h2:=sum_abs f M r (fun x hx=>h x (by simp [hx]))
  simp only [List.map_cons,List.sum_cons,List.length_cons]
  refine Nat.le_trans (Int.natAbs_add_le _ _) ?_
  rw [Nat.succ_mul];omega
theorem tot_lenL (f:LotV→Bs) (L:Nat) (ls:List LotV) (hs:∀ x ∈ ls,(f x).length≤L) (hn:ls.length≤100000):(ofI ((ls.map (fun x=>valI (f x))).sum)).length≤L+7:=by
 have h:=sum_abs (fun x=>valI (f x)) (10 ^ L) ls (fun x hx=>Nat.le_of_lt (valI_lt10 (hs x hx)))
 have h2:ls.length*10 ^ L≤10 ^ 5*10 ^ L:=Nat.mul_le_mul_right _ (by omega)
 have h4:10 ^ (L+6)=1000000*10 ^ L:=by rw [Nat.pow_add,Nat.mul_comm]
 have h5:0<10 ^ L:=Nat.pow_pos (by decide)
 exact ofI_lt10 (L:=L+6) (by omega)
theorem tot_len (f:LotV→Bs) (ls:List LotV) (hs:∀ x ∈ ls,(f x).length≤1000) (hn:ls.length≤100000):(ofI ((ls.map (fun x=>valI (f x))).sum)).length≤2000:=by
 have:=tot_lenL f 1000 ls hs hn
 omega
theorem ofL_take_hit {ls:List LotV} {ins:Bs} {k:Nat} (hk:k<ls.length) (h:(ls[k]'hk).ins=ins):ofL (ls.take (k+1)) ins=ofL (ls.take k) ins++[ls[k]'hk]:=by
 unfold ofL;rw [List.take_succ_eq_append_getElem hk,List.filter_append];simp [h]
theorem ofL_take_skip {ls:List LotV} {ins:Bs} {k:Nat} (hk:k<ls.length) (h:(ls[k]'hk).ins≠ins):ofL (ls.take (k+1)) ins=ofL (ls.take k) ins:=by
 unfold ofL;rw [List.take_succ_eq_append_getElem hk,List.filter_append];simp [h]
theorem totQ_hit {ls:List LotV} {ins:Bs} {k:Nat} (hk:k<ls.length) (h:(ls[k]'hk).ins=ins):totQ (ls.take (k+1)) ins=totQ (ls.take k) ins+valI (ls[k]'hk).q:=by
 unfold totQ;rw [ofL_take_hit hk h];simp
theorem totC_hit {ls:List LotV} {ins:Bs} {k:Nat} (hk:k<ls.length) (h:(ls[k]'hk).ins=ins):totC (ls.take (k+1)) ins=totC (ls.take k) ins+valI (ls[k]'hk).c:=by
 unfold totC;rw [ofL_take_hit hk h];simp
theorem ofL_mem {ls:List LotV} {ins:Bs} {x:LotV} {k:Nat} (h:x ∈ ofL (ls.take k) ins):x ∈ ls:=List.mem_of_mem_take (List.mem_filter.1 h).1
theorem ofL_len {ls:List LotV} {ins:Bs} {k:Nat}:(ofL (ls.take k) ins).length≤ls.length:=Nat.le_trans (List.length_filter_le _ _) (by rw [List.length_take];exact Nat.min_le_right _ _)
theorem totQ_len {ls:List LotV} (ins:Bs) (k:Nat) (hs:∀ x ∈ ls,SmallL x) (hn:ls.length≤100000):(ofI (totQ (ls.take k) ins)).length≤2000 :=
 tot_len (·.q) _ (fun x hx=>(hs x (ofL_mem hx)).2.2.1) (Nat.le_trans ofL_len hn)
theorem totC_len {ls:List LotV} (ins:Bs) (k:Nat) (hs:∀ x ∈ ls,SmallL x) (hn:ls.length≤100000):(ofI (totC (ls.take k) ins)).length≤2000 :=
 tot_len (·.c) _ (fun x hx=>(hs x (ofL_mem hx)).2.2.2.1) (Nat.le_trans ofL_len hn)
structure ToAt (w:World) (lp:Loop) (ls:List LotV) (A:Option Addr) (c:Nat) (ins:Bs) (k:Nat) (W:World):Prop where
 ext:Ext w W
 qq:Blk W w.heap.size 24 #[.string (bs (ofI (totQ (ls.take k) ins)))]
 cc:Blk W (w.heap.size+1) 24 #[.string (bs (ofI (totC (ls.take k) ins)))]
 l:Blk W (w.heap.size+1+1) 22 #[.slice A ls.length c]
 i:Blk W (w.heap.size+1+1+1) 9 #[.string (bs ins)]
 D:W.heap[w.heap.size+1+1+1+1]? = some (.deferred (some []))
 L:W.heap[w.heap.size+1+1+1+1+1]? = some (.loop lp)
section
variable {w:World} {lp lp':Loop} {ls:List LotV} {A:Option Addr} {c:Nat} {ins:Bs} {k:Nat} {W W':World}
theorem ToAt.on (h:ToAt w lp ls A c ins k W) (hx:Ext W W'):ToAt w lp ls A c ins k W' :=
 ⟨h.ext.trans hx,h.qq.ext hx,h.cc.ext hx,h.l.ext hx,h.i.ext hx,ext_heap h.D hx,ext_heap h.L hx⟩
theorem ToAt.put (h:ToAt w lp ls A c ins k W):ToAt w lp' ls A c ins k (W.putObj (w.heap.size+1+1+1+1+1) (.loop lp')) :=
 ⟨h.ext.putObj (by omega) _,h.qq.put _ (by omega),h.cc.put _ (by omega),h.l.put _ (by omega),h.i.put _ (by omega),put_heap h.D (by omega),World.putObj_heap_same (Array.getElem?_eq_some_iff.1 h.L).1⟩
theorem ToAt.skip (h:ToAt w lp ls A c ins k W) (hk:k<ls.length) (hne:(ls[k]'hk).ins≠ins):ToAt w lp ls A c ins (k+1) W :=
 ⟨h.ext,by unfold totQ;rw [ofL_take_skip hk hne];exact h.qq,by unfold totC;rw [ofL_take_skip hk hne];exact h.cc,h.l,h.i,h.D,h.L⟩
theorem ToAt.hit (h:ToAt w lp ls A c ins k W) (hk:k<ls.length) (he:(ls[k]'hk).ins=ins) :
  ToAt w lp ls A c ins (k+1) ((W.setCell ⟨w.heap.size,0,none⟩ (.string (bs (ofI (totQ (ls.take k) ins+valI (ls[k]'hk).q))))).setCell ⟨w.heap.size+1,0,none⟩ (.string (bs (ofI (totC (ls.take k) ins+valI (ls[k]'hk).c))))):=by
 refine ⟨(h.ext.setCell (p:=⟨w.heap.size,0,none⟩) (Nat.le_refl _) _).setCell (p:=⟨w.heap.size+1,0,none⟩) (Nat.le_succ _) _,?_,?_,(h.l.far (p:=⟨w.heap.size,0,none⟩) (by dsimp only;omega) _).far (p:=⟨w.heap.size+1,0,none⟩) (by dsimp only;omega) _,(h.i.far (p:=⟨w.heap.size,0,none⟩) (by dsimp only;omega) _).far (p:=⟨w.heap.size+1,0,none⟩) (by dsimp only;omega) _,dfar (dfar h.D (by omega)) (by omega),dfar (dfar h.L (by omega)) (by omega)⟩
 ·rw [totQ_hit hk he]
  exact (h.qq.set_ 0 _).far (p:=⟨w.heap.size+1,0,none⟩) (by dsimp only;omega) _
 ·rw [totC_hit hk he]
  exact (h.cc.far (p:=⟨w.heap.size,0,none⟩) (by dsimp only;omega) _).set_ 0 _
end
theorem lotTotal (ls:List LotV) (A:Option Addr) (c:Nat) (ins:Bs) (w:World) (hE:Env w) (hA:RdL w A ls) (hs:∀ x ∈ ls,SmallL x) (hn:ls.length≤100000) :
  Calls Tryz.prog 23 #[.slice A ls.length c,.string (bs ins)] w fun e w'=>e = .returned (.tuple #[.string (bs (ofI (totQ ls ins))),.string (bs (ofI (totC ls ins)))])∧Ext w w':=by
 have hfn:∀ k,Fence.wide.fn k:=fun _=>trivial
 have hdp:Fence.wide.depth.isSome=false:=rfl
 have HE:=Lib.hid hE
 have HA:=Lib.hid hA
 have HS:=Lib.hid hs
 have HT:Hid (totQ (ls.take ls.length) ins=totQ ls ins∧totC (ls.take ls.length) ins=totC ls ins):=Lib.hid (by rw [List.take_length];exact ⟨rfl,rfl⟩)
 have HT0:Hid (ofI (totQ (ls.take 0) ins)=[]∧ofI (totC (ls.take 0) ins)=[]):=Lib.hid ⟨ofI_nil.2 rfl,ofI_nil.2 rfl⟩
 have HAD:=Lib.hid (fun k (hk:k<ls.length)=>(⟨addP (ofI (totQ (ls.take k) ins)) (ls[k]'hk).q (by have:=totQ_len ins k hs hn;omega) (by have:=(hs _ (List.getElem_mem hk)).2.2.1;omega),addP (ofI (totC (ls.take k) ins)) (ls[k]'hk).c (by have:=totC_len ins k hs hn;omega) (by have:=(hs _ (List.getElem_mem hk)).2.2.2.1;omega)⟩:_∧_))
 simp only [valI_ofI] at HAD
 clear hE hA hs
 generalize totQ ls ins=TQ at *
 generalize totC ls ins=TC at *
 refine (callsIn_wide (n:=5)).1 ?_
 refine callsIn_of_wp_marks Tryz.func23 rfl trivial ?_ rfl
 simp only [Tryz.ntmps23,List.size_toArray,List.length_cons,List.length_nil,Nat.reduceAdd,Nat.reduceSub,Array.replicate_succ,Array.replicate_zero,List.push_toArray,List.append_toArray,List.nil_append,List.cons_append]
 gi_wp2_with fail
 refine (callsIn_wide.2 (lotOf A _ c ins _)).mono ?_
 rintro e w3 ⟨rfl,rfl⟩
 gi_wp2_with fail
 refine range_outer' rfl (by omega) (w.heap.size+1+1+1+1) (by simp) rfl trivial (fun _ _=>by rfl) ?_
 intro fn lp W1 hlp hW1 _
 have h0:ToAt w lp ls A c ins 0 W1:=by
  subst hW1
  refine ⟨(((((Ext.new w _).alloc _).alloc _).alloc _).alloc _).alloc _,?_,?_,?_,?_,?_,?_⟩
  ·rw [HT0.out.1];exact (((((Blk.newAt _ _ _ _ rfl).alloc _).alloc _).alloc _).alloc _).alloc _
  ·rw [HT0.out.2];exact ((((Blk.newAt _ _ _ _ (by simp)).alloc _).alloc _).alloc _).alloc _
  ·exact (((Blk.newAt _ _ _ _ (by simp)).alloc _).alloc _).alloc _
  ·exact ((Blk.newAt _ _ _ _ (by simp)).alloc _).alloc _
  ·exact oldAt (newAt _ _ _ (by simp))
  ·exact newAt _ _ _ (by simp)
 refine (lotOf1 4 (w.heap.size+1+1+1+1+1) (w.heap.size+1+1) w ls A c ins HA.out (by omega) (ToAt w lp ls A c ins) (fun k W h=>⟨h.ext,h.l,h.i⟩) (fun k W W' h hx=>h.on hx) ?hY (fun k hk W hne h=>h.skip hk hne) W1 h0).mono ?_
 case hY =>
  intro k hk W he h
  have e1:=congrArg Loop.assign hlp
  have e2:=congrArg Loop.body hlp
  have e3:=congrArg Loop.tmps hlp
  have e4:=congrArg Loop.params hlp
  have e5:{ lp with state := .ready,pending:=none }=lp:=by rw [hlp];rfl
  obtain ⟨lb,hlb⟩:∃ lb,{ lp with state := .busy }=lb:=⟨_,rfl⟩
  simp only [recOf] at e1 e2 e3 e4
  refine yield_round' (rec:=lp) h.L (by rw [hlp];rfl) (by rw [hlp];rfl) trivial e1 e2 e4 e3 (zip1 _ _ _) hlb ?_
  clear e1 e2 e3 e4 hlp hW1 h0
  have HXN:Hid (Ext W (W.alloc (.cells (lc (ls[k]'hk)) 71))):=Lib.hid (Ext.new _ _)
  have HL0:=Lib.hid (h.on HXN.out).L
  have HP:=Lib.hid ((h.on HXN.out).put (lp':=lb))
  have HBX:=Lib.hid ((Blk.new W 71 (lc (ls[k]'hk))).put (.loop lb) (l:=w.heap.size+1+1+1+1+1) (by have:=(Array.getElem?_eq_some_iff.1 h.L).1;omega))
  have HLB:=Lib.hid hlb
  have HE5:=Lib.hid e5
  have HHIT:=Lib.hid (fun W' (h:ToAt w lb ls A c ins k W')=>h.hit hk he)
  have HAK:=Lib.hid (HAD.out k hk)
  clear h hlb e5 he
  generalize ls[k]'hk=x at *
  gi_wp2
  refine ⟨HL0.out,?_⟩
  generalize hXX:W.heap.size=X at *
  have hXw:w.heap.size+1<X:=by have:=(Array.getElem?_eq_some_iff.1 HL0.out).1;simp only [World.size_alloc] at this;omega
  clear hXX
  generalize (W.alloc (.cells (lc x) 71)).putObj (w.heap.size+1+1+1+1+1) (.loop lb)=Wb at *
  have HX:Hid (Ext Wb Wb):=Lib.hid (Ext.refl _)
  have q0:=HP.out.qq.cell 0
  have q1:=HP.out.qq.frozen 0
  have c0:=HP.out.cc.cell 0
  have c1:=HP.out.cc.frozen 0
  simp only [List.getElem?_toArray,List.getElem?_cons_zero] at q0 c0
  obtain ⟨_,_,_,_,x4,x5,_⟩:=lotBlk HBX.out (Ext.refl Wb)
  obtain ⟨tq,htq⟩:∃ tq,totQ (ls.take k) ins=tq:=⟨_,rfl⟩
  obtain ⟨tc,htc⟩:∃ tc,totC (ls.take k) ins=tc:=⟨_,rfl⟩
  rw [htq] at q0 HHIT HAK
  rw [htc] at c0 HHIT HAK
  have HTQ:=Lib.hid htq
  have HTC:=Lib.hid htc
  clear htq htc
  replace HX:Hid (Ext Wb Wb.drew):=Lib.hid HX.out.drew
  gi_wp2
  refine region_in (S:=fun w'=>w'.cell? ⟨X,4,none⟩=some (.string (bs x.q))∧w'.cell? ⟨X,5,none⟩=some (.string (bs x.c))) (by kernel_rfl) (by simp [plainOp]) roundEnds_calm ⟨x4,x5⟩ ?_
  intro hHeld
  have a4:Wb.drew.cell? ⟨X,4,none⟩=some (.string (bs x.q)):=x4
  have a5:Wb.drew.cell? ⟨X,5,none⟩=some (.string (bs x.c)):=x5
  have hxg:X≠w.heap.size:=by omega
  have hxg2:X≠w.heap.size+1:=by omega
  have hgx:w.heap.size≠X:=by omega
  have hgx2:w.heap.size+1≠X:=by omega
  refine wpAnyH_take (i:=1) (v := .pointer (some ⟨X,4,none⟩)) rfl (by kernel_rfl) (by kernel_rfl) (by kernel_rfl) (fun _ _ _ h=>h) (Or.inl ⟨by rfl,?_⟩) (by assumption) ?_
  ·intro w hSw
   (try dsimp only at hSw)
   go_simp
  simp only [Act.put,List.setIfInBounds_toArray]
  refine wpAnyH_take (i:=2) (v := .string (bs x.q)) rfl (by kernel_rfl) (by kernel_rfl) (by kernel_rfl) (fun _ _ _ h=>h) (Or.inl ⟨by rfl,?_⟩) (by assumption) ?_
  ·intro w hSw
   (try dsimp only at hSw)
   go_simp
  simp only [Act.put]
  refine wpAnyH_take (i:=5) (v := .pointer (some ⟨X,5,none⟩)) rfl (by kernel_rfl) (by kernel_rfl) (by kernel_rfl) (fun _ _ _ h=>h) (Or.inl ⟨by rfl,?_⟩) (by assumption) ?_
  ·intro w hSw
   (try dsimp only at hSw)
   go_simp
  simp only [Act.put]
  refine wpAnyH_take (i:=6) (v := .string (bs x.c)) rfl (by kernel_rfl) (by kernel_rfl) (by kernel_rfl) (fun _ _ _ h=>h) (Or.inl ⟨by rfl,?_⟩) (by assumption) ?_
  ·intro w hSw
   (try dsimp only at hSw)
   go_simp
  simp only [Act.put]
  refine wpAnyH_ready (rs:=[0,4]) (by kernel_rfl) (by simp) ?_
  refine AllReadyH.cons rfl (fun K hK=>?_) (AllReadyH.cons rfl (fun K hK=>?_) (AllReadyH.nil))
  ·go_simp
   refine hK.out _ _ ⟨a4,a5⟩ (fun hHeld=>?_)
   clear hK K
   (try simp only [Act.put,List.setIfInBounds_toArray,List.set_cons_zero,List.set_cons_succ])
   refine wpAnyH_ready (rs:=[3,4]) (by kernel_rfl) (by simp) ?_
   refine AllReadyH.cons rfl (fun K hK=>?_) (AllReadyH.cons rfl (fun K hK=>?_) (AllReadyH.nil))
   ·go_simp
    refine (HAK.out.1 _ (HE.out.ext (HP.out.ext.trans HX.out))).mono ?_
    rintro e w3 ⟨rfl,hx⟩
    replace HX:=Lib.hid (HX.out.trans hx)
    have hq:=HP.out.on HX.out
    have a0:=hq.qq.cell 0
    have a1:=hq.cc.cell 0
    have a2:=hq.qq.frozen 0
    have a3:=hq.cc.frozen 0
    simp only [List.getElem?_toArray,List.getElem?_cons_zero] at a0 a1
    rw [HTQ.out] at a0
    rw [HTC.out] at a1
    obtain ⟨_,_,_,_,a4,a5,_⟩:=lotBlk HBX.out HX.out
    clear hx hq
    refine hK.out _ _ ⟨a4,a5⟩ (fun hHeld=>?_)
    clear hK K
    (try simp only [Act.put,List.setIfInBounds_toArray,List.set_cons_zero,List.set_cons_succ])
    refine wpAnyH_ready (rs:=[4]) (by kernel_rfl) (by simp) ?_
    refine AllReadyH.cons rfl (fun K hK=>?_) (AllReadyH.nil)
    go_simp
    refine hK.out _ _ ⟨a4,a5⟩ (fun hHeld=>?_)
    clear hK K
    (try simp only [Act.put,List.setIfInBounds_toArray,List.set_cons_zero,List.set_cons_succ])
    refine wpAnyH_ready (rs:=[7]) (by kernel_rfl) (by simp) ?_
    refine AllReadyH.cons rfl (fun K hK=>?_) (AllReadyH.nil)
    go_simp
    refine (HAK.out.2 _ (HE.out.ext (HP.out.ext.trans HX.out))).mono ?_
    rintro e w7 ⟨rfl,hx⟩
    replace HX:=Lib.hid (HX.out.trans hx)
    have hq:=HP.out.on HX.out
    have a0:=hq.qq.cell 0
    have a1:=hq.cc.cell 0
    have a2:=hq.qq.frozen 0
    have a3:=hq.cc.frozen 0
    simp only [List.getElem?_toArray,List.getElem?_cons_zero] at a0 a1
    rw [HTQ.out] at a0
    rw [HTC.out] at a1
    obtain ⟨_,_,_,_,a4,a5,_⟩:=lotBlk HBX.out HX.out
    clear hx hq
    refine hK.out _ _ ⟨a4,a5⟩ (fun hHeld=>?_)
    clear hK K
    (try simp only [Act.put,List.setIfInBounds_toArray,List.set_cons_zero,List.set_cons_succ])
    refine wpAnyH_ready (rs:=[8]) (by kernel_rfl) (by simp) ?_
    refine AllReadyH.cons rfl (fun K hK=>?_) (AllReadyH.nil)
    go_simp
    refine hK.out _ _ ⟨?_,?_⟩ (fun hHeld=>?_)
    ·go_simp
    ·go_simp
    clear hK K
    (try simp only [Act.put,List.setIfInBounds_toArray,List.set_cons_zero,List.set_cons_succ])
    refine wpAnyH_ready (rs:=[9]) (by kernel_rfl) (by simp) ?_
    refine AllReadyH.cons rfl (fun K hK=>?_) (AllReadyH.nil)
    go_simp
    refine hK.out _ _ ⟨?_,?_⟩ (fun hHeld=>?_)
    ·go_simp
    ·go_simp
    clear hK K
    refine wpAnyH_done (by kernel_rfl) ?_ _
    have hT:=HHIT.out _ (HP.out.on HX.out)
    refine ⟨by rw [HLB.out];exact hT.L,rfl,?_⟩
    rw [HE5.out]
    exact hT.put
   ·go_simp
    refine hK.out _ _ ⟨a4,a5⟩ (fun hHeld=>?_)
    clear hK K
    (try simp only [Act.put,List.setIfInBounds_toArray,List.set_cons_zero,List.set_cons_succ])
    refine wpAnyH_ready (rs:=[3]) (by kernel_rfl) (by simp) ?_
    refine AllReadyH.cons rfl (fun K hK=>?_) (AllReadyH.nil)
    go_simp
    refine (HAK.out.1 _ (HE.out.ext (HP.out.ext.trans HX.out))).mono ?_
    rintro e w3 ⟨rfl,hx⟩
    replace HX:=Lib.hid (HX.out.trans hx)
    have hq:=HP.out.on HX.out
    have a0:=hq.qq.cell 0
    have a1:=hq.cc.cell 0
    have a2:=hq.qq.frozen 0
    have a3:=hq.cc.frozen 0
    simp only [List.getElem?_toArray,List.getElem?_cons_zero] at a0 a1
    rw [HTQ.out] at a0
    rw [HTC.out] at a1
    obtain ⟨_,_,_,_,a4,a5,_⟩:=lotBlk HBX.out HX.out
    clear hx hq
    refine hK.out _ _ ⟨a4,a5⟩ (fun hHeld=>?_)
    clear hK K
    (try simp only [Act.put,List.setIfInBounds_toArray,List.set_cons_zero,List.set_cons_succ])
    refine wpAnyH_ready (rs:=[7]) (by kernel_rfl) (by simp) ?_
    refine AllReadyH.cons rfl (fun K hK=>?_) (AllReadyH.nil)
    go_simp
    refine (HAK.out.2 _ (HE.out.ext (HP.out.ext.trans HX.out))).mono ?_
    rintro e w7 ⟨rfl,hx⟩
    replace HX:=Lib.hid (HX.out.trans hx)
    have hq:=HP.out.on HX.out
    have a0:=hq.qq.cell 0
    have a1:=hq.cc.cell 0
    have a2:=hq.qq.frozen 0
    have a3:=hq.cc.frozen 0
    simp only [List.getElem?_toArray,List.getElem?_cons_zero] at a0 a1
    rw [HTQ.out] at a0
    rw [HTC.out] at a1
    obtain ⟨_,_,_,_,a4,a5,_⟩:=lotBlk HBX.out HX.out
    clear hx hq
    refine hK.out _ _ ⟨a4,a5⟩ (fun hHeld=>?_)
    clear hK K
    (try simp only [Act.put,List.setIfInBounds_toArray,List.set_cons_zero,List.set_cons_succ])
    refine wpAnyH_ready (rs:=[8]) (by kernel_rfl) (by simp) ?_
    refine AllReadyH.cons rfl (fun K hK=>?_) (AllReadyH.nil)
    go_simp
    refine hK.out _ _ ⟨?_,?_⟩ (fun hHeld=>?_)
    ·go_simp
    ·go_simp
    clear hK K
    (try simp only [Act.put,List.setIfInBounds_toArray,List.set_cons_zero,List.set_cons_succ])
    refine wpAnyH_ready (rs:=[9]) (by kernel_rfl) (by simp) ?_
    refine AllReadyH.cons rfl (fun K hK=>?_) (AllReadyH.nil)
    go_simp
    refine hK.out _ _ ⟨?_,?_⟩ (fun hHeld=>?_)
    ·go_simp
    ·go_simp
    clear hK K
    refine wpAnyH_done (by kernel_rfl) ?_ _
    have hT:=HHIT.out _ (HP.out.on HX.out)
    refine ⟨by rw [HLB.out];exact hT.L,rfl,?_⟩
    rw [HE5.out]
    exact hT.put
  ·go_simp
   refine hK.out _ _ ⟨a4,a5⟩ (fun hHeld=>?_)
   clear hK K
   (try simp only [Act.put,List.setIfInBounds_toArray,List.set_cons_zero,List.set_cons_succ])
   refine wpAnyH_ready (rs:=[0]) (by kernel_rfl) (by simp) ?_
   refine AllReadyH.cons rfl (fun K hK=>?_) (AllReadyH.nil)
   go_simp
   refine hK.out _ _ ⟨a4,a5⟩ (fun hHeld=>?_)
   clear hK K
   (try simp only [Act.put,List.setIfInBounds_toArray,List.set_cons_zero,List.set_cons_succ])
   refine wpAnyH_ready (rs:=[3]) (by kernel_rfl) (by simp) ?_
   refine AllReadyH.cons rfl (fun K hK=>?_) (AllReadyH.nil)
   go_simp
   refine (HAK.out.1 _ (HE.out.ext (HP.out.ext.trans HX.out))).mono ?_
   rintro e w3 ⟨rfl,hx⟩
   replace HX:=Lib.hid (HX.out.trans hx)
   have hq:=HP.out.on HX.out
   have a0:=hq.qq.cell 0
   have a1:=hq.cc.cell 0
   have a2:=hq.qq.frozen 0
   have a3:=hq.cc.frozen 0
   simp only [List.getElem?_toArray,List.getElem?_cons_zero] at a0 a1
   rw [HTQ.out] at a0
   rw [HTC.out] at a1
   obtain ⟨_,_,_,_,a4,a5,_⟩:=lotBlk HBX.out HX.out
   clear hx hq
   refine hK.out _ _ ⟨a4,a5⟩ (fun hHeld=>?_)
   clear hK K
   (try simp only [Act.put,List.setIfInBounds_toArray,List.set_cons_zero,List.set_cons_succ])
   refine wpAnyH_ready (rs:=[7]) (by kernel_rfl) (by simp) ?_
   refine AllReadyH.cons rfl (fun K hK=>?_) (AllReadyH.nil)
   go_simp
   refine (HAK.out.2 _ (HE.out.ext (HP.out.ext.trans HX.out))).mono ?_
   rintro e w7 ⟨rfl,hx⟩
   replace HX:=Lib.hid (HX.out.trans hx)
   have hq:=HP.out.on HX.out
   have a0:=hq.qq.cell 0
   have a1:=hq.cc.cell 0
   have a2:=hq.qq.frozen 0
   have a3:=hq.cc.frozen 0
   simp only [List.getElem?_toArray,List.getElem?_cons_zero] at a0 a1
   rw [HTQ.out] at a0
   rw [HTC.out] at a1
   obtain ⟨_,_,_,_,a4,a5,_⟩:=lotBlk HBX.out HX.out
   clear hx hq
   refine hK.out _ _ ⟨a4,a5⟩ (fun hHeld=>?_)
   clear hK K
   (try simp only [Act.put,List.setIfInBounds_toArray,List.set_cons_zero,List.set_cons_succ])
   refine wpAnyH_ready (rs:=[8]) (by kernel_rfl) (by simp) ?_
   refine AllReadyH.cons rfl (fun K hK=>?_) (AllReadyH.nil)
   go_simp
   refine hK.out _ _ ⟨?_,?_⟩ (fun hHeld=>?_)
   ·go_simp
   ·go_simp
   clear hK K
   (try simp only [Act.put,List.setIfInBounds_toArray,List.set_cons_zero,List.set_cons_succ])
   refine wpAnyH_ready (rs:=[9]) (by kernel_rfl) (by simp) ?_
   refine AllReadyH.cons rfl (fun K hK=>?_) (AllReadyH.nil)
   go_simp
   refine hK.out _ _ ⟨?_,?_⟩ (fun hHeld=>?_)
   ·go_simp
   ·go_simp
   clear hK K
   refine wpAnyH_done (by kernel_rfl) ?_ _
   have hT:=HHIT.out _ (HP.out.on HX.out)
   refine ⟨by rw [HLB.out];exact hT.L,rfl,?_⟩
   rw [HE5.out]
   exact hT.put
 rintro e W ⟨hv,h⟩
 refine ⟨hv,.inl ⟨h.L,?_⟩⟩
 have hP:=h.put (lp':={ lp with state := .exhausted })
 generalize W.putObj (w.heap.size+1+1+1+1+1) (.loop { lp with state := .exhausted })=W3 at *
 clear h hv hW1 hlp W1 h0
 have q0:=hP.qq.cell 0
 have c0:=hP.cc.cell 0
 simp only [List.getElem?_toArray,List.getElem?_cons_zero] at q0 c0
 rw [HT.out.1] at q0
 rw [HT.out.2] at c0
 have HP:=Lib.hid hP
 clear hP
 gi_wp2
 refine wpIn_wide.2 ?_
 go_region_held3 (fun w'=>w'.cell? ⟨w.heap.size,0,none⟩=some (.string (bs (ofI TQ)))∧w'.cell? ⟨w.heap.size+1,0,none⟩=some (.string (bs (ofI TC)))) (go_keep) (fail)
 all_goals
  gi_wp2
  refine ⟨by simp,.inl ⟨_,_,rfl,run_takeDeferred (drew_heap HP.out.D),?_⟩⟩
  refine ⟨.tuple #[.string (bs (ofI TQ)),.string (bs (ofI TC))],by simp [results,Tryz.results23,go_sem],?_⟩
  exact ⟨rfl,HP.out.ext.drew.putObj (by omega) _⟩
end
section
open Go.RowKit Go.Shelf
attribute [local go_sem] size_bs toList_bs
def sumV (l:List Bs):Int:=(l.map valI).sum
theorem sumV_snoc (l:List Bs) (a:Bs):sumV (l++[a])=sumV l+valI a:=by simp [sumV]
theorem sumV_lenL (L:Nat) (l:List Bs) (hs:∀ x ∈ l,x.length≤L) (hn:l.length≤100000):(ofI (sumV l)).length≤L+7:=by
 have h:=sum_abs valI (10 ^ L) l (fun x hx=>Nat.le_of_lt (valI_lt10 (hs x hx)))
 have h2:l.length*10 ^ L≤10 ^ 5*10 ^ L:=Nat.mul_le_mul_right _ (by omega)
 have h4:10 ^ (L+6)=1000000*10 ^ L:=by rw [Nat.pow_add,Nat.mul_comm]
 have h5:0<10 ^ L:=Nat.pow_pos (by decide)
 exact ofI_lt10 (L:=L+6) (by unfold sumV;omega)
theorem sumV_len (l:List Bs) (k:Nat) (hs:∀ x ∈ l,x.length≤4000) (hn:l.length≤100000):(ofI (sumV (l.take k))).length≤4007 :=
 sumV_lenL 4000 _ (fun x hx=>hs x (List.mem_of_mem_take hx)) (Nat.le_trans (by rw [List.length_take];exact Nat.min_le_right _ _) hn)
theorem allWhole (ls:List Bs) (A:Option Addr) (c:Nat) (w:World) (hE:Env w) (hA:RdS w A ls) (hs:∀ x ∈ ls,x.length≤4000) (hn:ls.length≤100000) :
  Calls Tryz.prog 290 #[.slice A ls.length c] w fun e w'=>e = .returned (.string (bs (ofI (sumV ls))))∧Ext w w':=by
 have HE:=Lib.hid hE
 have HA:=Lib.hid hA
 have HS:=Lib.hid hs
 clear hE hA hs
 have h0:(Value.string ⟨#[]⟩) = .string (bs (ofI (sumV (ls.take 0)))):=by rw [show ofI (sumV (ls.take 0))=[] from ofI_nil.2 rfl];rfl
 have H0:=Lib.hid h0
 clear h0
 go_enter Tryz.func290,Tryz.ntmps290
 go_wp2_with fail
 go_loopw [8,3,5] (fun i s _ wr=>∃ k:Nat,k≤ls.length∧i = .int .i64 k∧s = .string (bs (ofI (sumV (ls.take k))))∧Ext w wr) (fun i _ _ _=>ls.length-(intOf i).toNat)
 case atStart=>exact ⟨0,by omega,rfl,H0.out,Ext.refl _⟩
 case round =>
  obtain ⟨k,hk,rfl,rfl,hx⟩:=hrel
  have HX:=Lib.hid hx
  clear hx
  by_cases hlt:k<ls.length
  ·obtain ⟨b,o,rfl,hb,c0⟩:=(HA.out.ext HX.out).at_ hlt
   have ha:=addP (ofI (sumV (ls.take k))) (ls[k]'hlt) (by have:=sumV_len ls k HS.out hn;omega) (by have:=HS.out _ (List.getElem_mem hlt);omega)
   rw [valI_ofI,← sumV_snoc,← List.take_succ_eq_append_getElem hlt] at ha
   have HAD:=Lib.hid ha
   clear ha
   generalize (ls[k]'hlt)=x at *
   generalize hz:ofI (sumV (ls.take (k+1)))=z at *
   have HZ:=Lib.hid hz
   generalize ofI (sumV (ls.take k))=y at *
   clear hz
   go_wp2_with fail
   refine (HAD.out _ (HE.out.ext HX.out)).mono ?_
   rintro e w1 ⟨rfl,hx1⟩
   replace HX:=Lib.hid (HX.out.trans hx1)
   clear hx1
   go_wp2_with fail
   go_roundw
   case rel=>exact ⟨k+1,by omega,by go_num,by rw [HZ.out],HX.out⟩
   case measure=>simp [intOf];omega
  ·have HF:Hid (ls.take k=ls):=Lib.hid (List.take_of_length_le (by omega))
   go_wp2_with fail
   go_ret
   exact ⟨by rw [HF.out];rfl,HX.out⟩
theorem allCheck1 (a:Bs) (ha:a.length≤4000) (hc:checkI a=0) (h0:0≤valI a) (W:World) (hE:Env W):Calls Tryz.prog 288 #[.string (bs a)] W fun e w'=>e = .returned (.bool false)∧Ext W w':=by
 have k1:=checkP a (by omega)
 rw [hc] at k1
 have n1:=allNeg a (by omega)
 rw [show decide (valI a<0)=false by rw [decide_eq_false_iff_not];omega] at n1
 have K1:=Lib.hid k1
 have N1:=Lib.hid n1
 have HE:=Lib.hid hE
 clear k1 n1 hE hc h0
 go_enter Tryz.func288,Tryz.ntmps288
 go_wp2_with fail
 refine (K1.out _ HE.out).mono ?_
 rintro e w1 ⟨rfl,hx1⟩
 have HX:=Lib.hid hx1
 clear hx1
 go_wp2_with fail
 refine (N1.out _ (HE.out.ext HX.out)).mono ?_
 rintro e w2 ⟨rfl,hx1⟩
 replace HX:=Lib.hid (HX.out.trans hx1)
 clear hx1
 go_wp2_with fail
 go_ret
 exact ⟨rfl,HX.out⟩
structure WtOK (ls:List Bs):Prop where
 pos:0<ls.length
 le:ls.length≤1000
 sm:∀ x ∈ ls,x.length≤4000
 ok:∀ x ∈ ls,checkI x=0
 nn:∀ x ∈ ls,0≤valI x
 sum:0<sumV ls
theorem allCheck (t:Bs) (ls:List Bs) (A:Option Addr) (c:Nat) (w:World) (hE:Env w) (hA:RdS w A ls) (ht:t.length≤4000) (htc:checkI t=0) (hW:WtOK ls) :
  Calls Tryz.prog 235 #[.string (bs t),.slice A ls.length c] w fun e w'=>e = .returned (.int .i64 0)∧Ext w w':=by
 have HE:=Lib.hid hE
 have k1:=checkP t (by omega)
 rw [htc] at k1
 have K1:=Lib.hid k1
 have HCF:=Lib.hid (fun W hx=>contFuncI 288 #[] (fun _ _=>by rfl) (fun _=>false) ls A c W (hA.ext hx) (by have:=hW.le;omega) (fun a ha V hv=>allCheck1 a (hW.sm a ha) (hW.ok a ha) (hW.nn a ha) V ((hE.ext hx).ext hv)))
 rw [show ls.any (fun _=>false)=false by simp] at HCF
 have HWH:=Lib.hid (fun W hx=>allWhole ls A c W (hE.ext hx) (hA.ext hx) hW.sm (by have:=hW.le;omega))
 have g1:((ls.length:Int) == 0)=false:=by rw [beq_eq_false_iff_ne];have:=hW.pos;omega
 have g2:decide (1000<(ls.length:Int))=false:=by rw [decide_eq_false_iff_not];have:=hW.le;omega
 have g3:(ofI (sumV ls)).isEmpty=false:=by
  cases hh:ofI (sumV ls) with
  |nil=>have:=ofI_nil.1 hh;have:=hW.sum;omega
  |cons _ _=>rfl
 clear hE hA k1 hW ht htc
 generalize ofI (sumV ls)=z at *
 have HX:Hid (Ext w w):=Lib.hid (Ext.refl w)
 go_enter Tryz.func235,Tryz.ntmps235
 go_wp2_with fail
 refine (K1.out _ HE.out).mono ?_
 rintro e w1 ⟨rfl,hx1⟩
 replace HX:=Lib.hid (HX.out.trans hx1)
 clear hx1
 go_wp2_with fail
 refine (HCF.out _ HX.out).mono ?_
 rintro e w2 ⟨rfl,hx1⟩
 replace HX:=Lib.hid (HX.out.trans hx1)
 clear hx1
 go_wp2_with fail
 refine (HWH.out _ HX.out).mono ?_
 rintro e w3 ⟨rfl,hx1⟩
 replace HX:=Lib.hid (HX.out.trans hx1)
 clear hx1
 go_wp2_with fail
 go_ret
 exact ⟨rfl,HX.out⟩
theorem parse_dig10 {n:Nat} (h1:1≤n) (h:n≤100000000):Lib.parseIntB 64 (dig10 n) = .ok (n:Int):=by
 have hne:=dig10_ne (n:=n) (by omega)
 have hall:=dig10_all n
 have hval:=natOf_dig10 n
 have hlen:=dig10_len (g:=n) (L:=9) (by omega)
 have hp:=parse_small (dig10 n) hall hne hlen
 rw [hval] at hp
 generalize dig10 n=t at *
 obtain ⟨c,r,rfl⟩:=List.exists_cons_of_ne_nil hne
 have hc:isD c=true:=by simp only [List.all_cons,Bool.and_eq_true] at hall;exact hall.1
 have hc2:=(isD_iff c).1 hc
 unfold Lib.parseIntB
 simp only
 rw [if_neg (by omega),hp]
 simp only
 rw [if_neg (by omega),if_neg (by omega),if_neg (by omega)]
theorem printI_ofI (n:Nat):printI (ofI (n:Int))=if n=0 then [48] else dig10 n:=by
 unfold printI
 rw [canon_ofI,valI_ofI]
 by_cases h:n=0
 ·subst h;rw [if_pos (show ofI ((0:Nat):Int)=[] from ofI_nil.2 rfl),if_pos rfl]
 ·rw [if_neg (by rw [ofI_nil];omega),if_neg h]
  unfold ofI;rw [if_neg (by omega)];simp
theorem parse_print {n:Nat} (h:n≤100000000):Lib.parseIntB 64 (printI (ofI (n:Int))) = .ok (n:Int):=by
 rw [printI_ofI]
 by_cases h0:n=0
 ·subst h0;decide +kernel
 ·rw [if_neg h0];exact parse_dig10 (by omega) h
theorem smallP (n:Nat) (h:n≤100000000):Pure 315 #[.string (bs (ofI (n:Int)))] (.tuple #[.int .i64 (n:Int),.bool true]):=by
 intro w hE
 have hl:(ofI (n:Int)).length≤10:=ofI_lt10 (L:=9) (by omega)
 have HP:=Lib.hid (fun W=>intPrint (ofI (n:Int)) W (by omega))
 have hpl:(printI (ofI (n:Int))).length≤10:=by
  rw [printI_ofI];split
  ·simp
  ·have:=dig10_len (g:=n) (L:=9) (by omega);omega
 have HI:=Lib.hid (fun W=>Tryz.strconv_ParseInt_10_at64_ok (bs (printI (ofI (n:Int)))) (by rw [size_bs];omega) n (by rw [data_bs];exact parse_print h) W)
 generalize printI (ofI (n:Int))=p at *
 generalize ofI (n:Int)=z at *
 clear hE
 go_enter Tryz.func315,Tryz.ntmps315
 go_wp2_with fail
 refine (HP.out _).mono ?_
 rintro e w1 ⟨rfl,hx1⟩
 have HX:=Lib.hid hx1
 clear hx1
 go_wp2_with fail
 refine (HI.out _).mono ?_
 rintro e w2 ⟨rfl,hx⟩
 have hx2:Ext w1 w2:=by
  rcases hx with rfl | ⟨t,rfl⟩
  ·exact Ext.refl _
  ·exact ext_bytes _ _ _
 replace HX:=Lib.hid (HX.out.trans hx2)
 clear hx hx2
 go_wp2_with fail
 go_ret2
 exact ⟨rfl,HX.out⟩
end
section
theorem ask_drawn {α:Type} (a:Ask α):∀ w:World,w.drawn≤(w.ask a).2.drawn:=by
 induction a with
 |done a=>intro w;simp [World.ask]
 |ask what range k ih =>
  intro w
  simp only [World.ask]
  split
  ·exact ih _ _
  ·exact Nat.le_trans (Nat.le_succ _) (ih _ { w with drawn:=w.drawn+1 })
theorem sys_drawn (w:World) (c:Sys):w.drawn≤(w.sys c).2.drawn:=by
 unfold World.sys
 have:=ask_drawn (Kernel.perform c w.os) w
 split
 ·exact Nat.le_refl _
 ·rename_i h;rw [h] at this;exact this
def resW {α:Type}:Result α→World | .ok _ w=>w | .halt _ w=>w
theorem viewStore_drawn {p:Program} {w w':World} {at_:Addr} {u:TypeId} {k:Addr} {v:Value} {b:Bool} {l:List Addr} (h:w.viewStore p at_ u k v b = .ok (w',l)):w'.drawn=w.drawn:=by
 unfold World.viewStore at h
 simp only [bind,Except.bind,pure,Except.pure] at h
 repeat' split at h
 all_goals first
  |cases h
  |skip
 all_goals rfl
theorem farStore_drawn {p:Program} {w w':World} {a:Addr} {v:Value} {b:Bool} {l:List Addr} (h:w.farStore p a v b = .ok (w',l)):w'.drawn=w.drawn:=by
 unfold World.farStore at h
 split at h
 ·split at h
  ·rename_i r hr;injection h with h;subst h;exact viewStore_drawn hr
  ·cases h
 ·cases h
theorem run_drawn {α:Type} (p:Program) (s:Sem α):∀ w:World,w.drawn≤(resW (s.run p w)).drawn:=by
 induction s with
 |pure a=>intro w;simp [Sem.run,resW]
 |load m a k ih =>
  intro w;simp only [Sem.run]
  repeat' split
  all_goals first | exact ih _ _ | exact Nat.le_refl _
 |store m a v k ih =>
  intro w
  cases v <;> simp only [Sem.run]
  all_goals
   repeat' split
  all_goals first
   |exact Nat.le_refl _
   |(refine Nat.le_trans (Nat.le_of_eq ?_) (ih _);rfl)
   |(refine Nat.le_trans (Nat.le_of_eq ?_) (ih _);exact (farStore_drawn (by assumption)).symm)
 |new o k ih=>intro w;simp only [Sem.run];exact ih _ { w with heap:=w.heap.push o }
 |shape r k ih=>intro w;simp only [Sem.run];exact ih _ _
 |freeze a n k ih =>
  intro w;simp only [Sem.run]
  refine Nat.le_trans (Nat.le_of_eq ?_) (ih _)
  unfold World.freeze;split <;> rfl
 |frozen a k ih=>intro w;simp only [Sem.run];exact ih _ _
 |getObj r k ih =>
  intro w;simp only [Sem.run]
  split
  all_goals first | exact ih _ _ | exact Nat.le_refl _
 |setObj r o k ih =>
  intro w;simp only [Sem.run]
  split
  ·exact Nat.le_refl _
  ·exact ih { w with heap:=w.heap.setIfInBounds r o }
  ·exact Nat.le_refl _
 |choose q k ih =>
  intro w;simp only [Sem.run]
  split
  ·exact ih _ _
  ·exact Nat.le_trans (Nat.le_succ _) (ih _ { w with drawn:=w.drawn+1 })
 |sys c k ih=>intro w;simp only [Sem.run];exact Nat.le_trans (sys_drawn w c) (ih _ _)
 |program k ih=>intro w;simp only [Sem.run];exact ih _ _
 |mark m k ih=>intro w;simp only [Sem.run];exact ih _
 |halt h=>intro w;simp [Sem.run,resW]
theorem runT_drawn {α:Type} (p:Program) (s:Sem α) (w:World) (es:Array Event):w.drawn≤(resW (s.runT p w es).1).drawn:=by
 rw [Sem.runT_fst];exact run_drawn p s w
theorem run_ok {α:Type} {p:Program} {s:Sem α} {d:Nat} {w w':World} {a:α} (hd:d≤w.drawn) (h:s.run p w = .ok a w'):d≤w'.drawn:=by
 have:=run_drawn p s w;rw [h] at this;exact Nat.le_trans hd this
theorem run_halt {α:Type} {p:Program} {s:Sem α} {d:Nat} {w w':World} {a:Halt} (hd:d≤w.drawn) (h:s.run p w = .halt a w'):d≤w'.drawn:=by
 have:=run_drawn p s w;rw [h] at this;exact Nat.le_trans hd this
theorem runT_ok {α:Type} {p:Program} {s:Sem α} {d:Nat} {w w':World} {es:Array Event} {a:α} (hd:d≤w.drawn) (h:(s.runT p w es).1 = .ok a w'):d≤w'.drawn:=run_ok hd ((Sem.runT_fst p s w es).symm.trans h)
theorem runT_halt {α:Type} {p:Program} {s:Sem α} {d:Nat} {w w':World} {es:Array Event} {a:Halt} (hd:d≤w.drawn) (h:(s.runT p w es).1 = .halt a w'):d≤w'.drawn:=run_halt hd ((Sem.runT_fst p s w es).symm.trans h)
def geG (d:Nat):GStep→Prop
 |.go _ w _=>d≤w.drawn
 |.comm _ _ _ _ w _=>d≤w.drawn
 |.spawn _ _ w _=>d≤w.drawn
 |.count _ w _=>d≤w.drawn
 |.timer _ _ w _=>d≤w.drawn
 |.alone _ _ w _=>d≤w.drawn
 |.newcoro _ _ _ w _=>d≤w.drawn
 |.coroswitch _ _ _ w _=>d≤w.drawn
 |.collect _ w _=>d≤w.drawn
 |.watch _ w _=>d≤w.drawn
 |.ended _ _ _=>True
theorem geG_after {d:Nat} {es:Array Event} {s:GStep} (h:geG d s):geG d (GStep.after es s):=by cases s <;> exact h
section
variable {p:Program} {d:Nat} {w:World}
theorem ge_endPrinting {fr:Frame} {v:Value} (h:d≤w.drawn):geG d (endPrinting p fr v w):=by
 unfold endPrinting;simp only;split
 ·exact h
 ·trivial
theorem ge_endFatal {fr:Frame} {cs:List Frame} {dy:Option Dying} {m:String} (h:d≤w.drawn):geG d (endFatal p fr cs dy m w):=by
 unfold endFatal
 simp only
 split
 ·rename_i heq;exact run_ok h heq
 ·trivial
 ·trivial
theorem ge_endWith {fd:Nat} {t:ByteArray} {o:Outcome}:geG d (endWith w fd t o):=by
 unfold endWith;simp only
 repeat' split
 all_goals trivial
theorem ge_write_aux {fr:Frame} {dy:Dying} {f:Fatal} {rest:List ByteArray} (h:d≤w.drawn) (s:Sem Unit):geG d (match s.runT p w #[] with
  |(.ok _ w,es)=>GStep.go { frame:=fr,callers:=[],status := .running,dying:=some { dy with fatal:=some { f with pieces:=rest,begun:=true } } } w es
  |(.halt .blocked w,_)=>GStep.go { frame:=fr,callers:=[],status := .blocked,dying:=some { dy with fatal:=some f } } w #[]
  |(.halt (.unsupported u) w,_)=>GStep.ended (.unsupported u "") w
  |(.halt _ w,_)=>GStep.ended (.stuck "the report of a fatal error" "") w):=by
 have hr:=Nat.le_trans h (runT_drawn p s w #[])
 generalize Sem.runT p s w #[]=x at *
 obtain ⟨r,es⟩:=x
 cases r with
 |ok a w'=>exact hr
 |halt a w'=>cases a <;> first | trivial | exact hr
theorem ge_writeOn {fr:Frame} {dy:Dying} {f:Fatal} (h:d≤w.drawn):geG d (writeOn p fr dy f w):=by
 unfold writeOn
 split
 ·trivial
 ·exact ge_write_aux h _
theorem ge_die {fr:Frame} {dy:Dying} (h:d≤w.drawn):geG d (die p fr dy w):=by
 unfold die
 split
 ·exact ge_writeOn h
 ·split
  ·split
   ·exact h
   ·exact ge_endWith
  ·simp only
   split
   ·exact h
   ·split
    ·rename_i heq;exact run_ok h heq
    ·trivial
   ·refine geG_after ?_
    split
    ·rename_i heq;exact runT_ok h heq
    ·rename_i heq;exact runT_ok h heq
    ·trivial
    ·rename_i heq;exact ge_endPrinting (runT_halt h heq)
    ·trivial
   ·trivial
theorem ge_doReturn {main:Bool} {fr:Frame} {cs:List Frame} {dy:Option Dying} {v:Value} (h:d≤w.drawn):geG d (doReturn p main fr cs dy v w):=by
 unfold doReturn
 repeat' split
 all_goals first | trivial | exact h
theorem ge_callDeferred {fr:Frame} {cs:List Frame} {dy:Option Dying} {df:Deferred} (h:d≤w.drawn):geG d (callDeferred p fr cs dy df w):=by
 unfold callDeferred
 have hr:=Nat.le_trans h (runT_drawn p (invoke df.target df.args) w #[])
 generalize Sem.runT p (invoke df.target df.args) w #[]=x at *
 obtain ⟨r,es⟩:=x
 generalize ((df.target matches .nil) && (fr.mode matches .panicking _))=b
 cases b
 ·simp only [Bool.false_eq_true,if_false]
  refine geG_after ?_
  split
  all_goals first
   |trivial
   |exact hr
   |exact ge_endFatal hr
   |(split <;> exact hr)
 ·trivial
theorem ge_unwind {main:Bool} {fr:Frame} {cs:List Frame} {dy:Option Dying} (h:d≤w.drawn):geG d (unwind p main fr cs dy w):=by
 unfold unwind
 split
 ·refine geG_after ?_
  split
  ·rename_i heq;exact runT_ok h heq
  ·trivial
 ·exact ge_callDeferred h
 ·split
  ·trivial
  ·split
   ·trivial
   ·split
    ·exact h
    ·split
     ·split
      ·exact h
      ·split
       ·rename_i heq;exact run_ok h heq
       ·trivial
       ·trivial
     ·split
      ·exact ge_endPrinting h
      ·trivial
  ·split
   ·exact ge_doReturn h
   ·refine geG_after ?_
    split
    ·rename_i heq;exact ge_doReturn (runT_ok h heq)
    ·trivial
    ·trivial
theorem ge_early {fr:Frame} {cs:List Frame} {dy:Option Dying} {g:Nat} (h:d≤w.drawn):geG d (early p fr cs dy g w):=by
 have hx:∀ a w',Sem.run p (choose (.early g)) w = .ok a w'→d≤w'.drawn:=fun _ _ e=>run_ok h e
 unfold early
 simp only
 repeat' split
 all_goals first
  |trivial
  |exact h
  |(rename_i hh;have hq:=hx _ _ hh;exact hq)
  |(rename_i hh _ _ _;have hq:=hx _ _ hh;exact hq)
  |(rename_i hh _;have hq:=hx _ _ hh;exact hq)
  |(rename_i hh _ _;have hq:=hx _ _ hh;exact hq)
  |(rename_i hh _ _ _ _;have hq:=hx _ _ hh;exact hq)
theorem ge_apply {ls:Bool} {fr:Frame} {cs:List Frame} {dy:Option Dying} {s:Sem Next} (h:d≤w.drawn):geG d (stepG.apply p ls fr cs dy s w):=by
 unfold stepG.apply
 have hr:d≤(resW (if ls then s.runT p w #[] else (s.run p w,#[])).1).drawn:=by
  split
  ·exact Nat.le_trans h (runT_drawn p s w #[])
  ·exact Nat.le_trans h (run_drawn p s w)
 generalize (if ls then s.runT p w #[] else (s.run p w,#[]))=x at *
 obtain ⟨r,es⟩:=x
 simp only
 refine geG_after ?_
 split
 all_goals first
  |trivial
  |exact hr
  |exact ge_endFatal hr
  |exact ge_early hr
  |(split <;> first | trivial | exact hr)
  |skip
 all_goals
  repeat' split
 all_goals first
  |trivial
  |exact hr
theorem ge_oper {ls:Bool} {fr:Frame} {cs:List Frame} {dy:Option Dying} (h:d≤w.drawn):geG d (stepG.oper p ls fr cs dy w):=by
 unfold stepG.oper
 split
 ·trivial
 ·split <;> exact ge_apply h
theorem ge_leave {main:Bool} {fr:Frame} {cs:List Frame} {dy:Option Dying} {jump:Option Code} (h:d≤w.drawn) :
  geG d (match fr.roundOf with
   |none=>if jump matches none | some .ret then GStep.go { frame:={ fr with mode := .returning },callers:=cs,status := .running,dying:=dy } w else .ended (.stuck "exit, goto: no such block or label" (fr.pos p)) w
   |some l =>
    let (r,es):=(Instr.endRound l jump).runT p w #[]
    GStep.after (seen p fr.fn es) <| match r with
    |.ok v w=>doReturn p main fr cs dy v w
    |.halt _ w => .ended (.stuck "range over a function: no such loop" (fr.pos p)) w):=by
 split
 ·generalize (jump matches none | some .ret)=b
  cases b
  ·trivial
  ·exact h
 ·refine geG_after ?_
  split
  ·rename_i heq;exact ge_doReturn (runT_ok h heq)
  ·trivial
theorem ge_leave1 {main:Bool} {fr:Frame} {cs:List Frame} {dy:Option Dying} {jump:Option Code} {c:Prop} [Decidable c] {m:String} {e:Nat→Array Event} (h:d≤w.drawn) :
  geG d (match fr.roundOf with
   |none=>if c then GStep.go { frame:={ fr with mode := .returning },callers:=cs,status := .running,dying:=dy } w else .ended (.stuck m (fr.pos p)) w
   |some l =>
    GStep.after (e l) (match (Sem.runT p (Instr.endRound l jump) w #[]).fst with
    |.ok v w=>doReturn p main fr cs dy v w
    |.halt _ w => .ended (.stuck "range over a function: no such loop" (fr.pos p)) w)):=by
 split
 ·split
  ·exact h
  ·trivial
 ·refine geG_after ?_
  split
  ·rename_i heq;exact ge_doReturn (runT_ok h heq)
  ·trivial
theorem ge_elim {o:Option (List Item)} {a:GStep} {f:List Item→GStep} (ha:geG d a) (hf:∀ k,geG d (f k)):geG d (o.elim a f):=by
 cases o
 ·exact ha
 ·exact hf _
theorem ge_exec {main ls:Bool} {fr:Frame} {cs:List Frame} {dy:Option Dying} (h:d≤w.drawn):geG d (stepG.exec p main ls fr cs dy w):=by
 unfold stepG.exec
 simp only
 split
 all_goals first
  |trivial
  |exact h
  |exact ge_apply h
  |exact ge_leave1 h
  |exact ge_elim (ge_leave1 h) (fun _=>h)
  |skip
 ·split
  ·exact h
  ·trivial
 ·refine geG_after ?_
  split
  ·rename_i heq;exact ge_apply (runT_ok h heq)
  ·trivial
 ·refine geG_after ?_
  split
  ·rename_i heq;exact runT_ok h heq
  ·rename_i heq;exact runT_halt h heq
  ·trivial
 ·cases Extern.next _
  ·trivial
  ·exact ge_apply h
 ·split
  ·exact h
  ·split
   ·rename_i heq;exact run_ok h heq
   ·trivial
 ·split
  ·exact ge_oper h
  ·exact h
theorem ge_stepG {main ls:Bool} {g:Goroutine} (h:d≤w.drawn):geG d (stepG p main g w ls):=by
 unfold stepG
 obtain ⟨fr,cs,st,dy,of⟩:=g
 simp only
 split
 ·exact ge_die h
 ·exact ge_exec h
 ·exact ge_unwind h
end
def geS (d:Nat):Stepped→Prop
 |.next m=>d≤m.world.drawn
 |.ended _ _=>True
section
variable {p:Program} {d:Nat} {w:World}
theorem waitingAt_drawn {rest:Rest} {cs:Array CommCase} {w':World} (h:waitingAt rest cs w=some w'):w'.drawn=w.drawn:=by
 unfold waitingAt at h
 split at h
 ·split at h
  ·injection h with h;subst h;rfl
  ·cases h
 ·injection h with h;subst h;rfl
theorem ge_communicate {rest:Rest} {gs:Array Goroutine} {i:Nat} {g:Goroutine} {cs:Array CommCase} {b:Bool} {sh:CommShape} (h:d≤w.drawn):geS d (communicate p rest gs i g cs b sh w).1:=by
 unfold communicate
 simp only
 split
 ·trivial
 ·split
  ·split
   ·split
    ·rename_i heq;show d≤World.drawn _;rw [waitingAt_drawn heq];exact h
    ·trivial
   ·exact h
  ·split
   ·trivial
   ·rename_i heq
    have hr:=run_ok h heq
    split
    ·split
     ·rename_i heq2;exact run_halt hr heq2
     ·trivial
    ·exact hr
    ·exact hr
    ·split
     ·exact hr
     ·split
      ·rename_i heq2;have hq:=run_ok hr heq2;exact hq
      ·trivial
    ·exact hr
    ·exact hr
    ·trivial
theorem ge_look {gs:Array Goroutine} {rest:Rest} (h:d≤w.drawn):geS d (look p gs rest w):=by
 unfold look
 split
 ·simp only
  split
  ·trivial
  ·split
   ·trivial
   ·split
    ·rename_i heq;have hq:=run_ok h heq;exact hq
    ·trivial
    ·trivial
 ·trivial
theorem retime_drawn (m:Machine) (k:Nat) (t:Timer) (a b:Nat):(retime m k t a b).2.world.drawn=m.world.drawn:=by
 unfold retime
 simp only
 split
 ·unfold drain;split <;> rfl
 ·rfl
theorem timerOp_drawn {m m':Machine} {op:TimerOp} {v:Value} (h:timerOp m op = .ok (v,m')):m'.world.drawn=m.world.drawn:=by
 unfold timerOp at h
 split at h
 ·split at h
  ·injection h with h;injection h with h1 h2;subst h2;rfl
  ·split at h
   ·split at h
    ·cases h
    ·injection h with h;injection h with h1 h2;subst h2;rfl
   ·cases h
 ·unfold timerOp.named at h
  split at h
  ·injection h with h
   have h2:=congrArg Prod.snd h
   simp only at h2
   rw [← h2,retime_drawn]
  ·cases h
 ·split at h
  ·rename_i m1 heq
   unfold timerOp.named at h
   split at h
   ·injection h with h
    have h2:=congrArg Prod.snd h
    simp only at h2
    rw [← h2,retime_drawn]
    unfold timerOp.opened at heq
    split at heq
    ·split at heq
     ·injection heq with heq;subst heq;rfl
     ·cases heq
    ·injection heq with heq;subst heq;rfl
   ·cases h
  ·cases h
 ·injection h with h;injection h with h1 h2;subst h2;rfl
theorem ge_runT {m:Machine} {i:Nat} {ls:Bool} (h:d≤m.world.drawn):geS d (runT p m i ls).1:=by
 unfold runT
 simp only
 generalize hs:stepG p (i == 0) _ m.world ls=s
 have hg:=ge_stepG (p:=p) (main:=i == 0) (ls:=ls) (w:=m.world) (d:=d) (g:=(m.gs.swapAt! i { (default:Goroutine) with status := .finished }).1) h
 rw [hs] at hg
 clear hs
 cases s with
 |ended o w' es=>trivial
 |comm g cs b sh w' es=>exact ge_communicate hg
 |go g w' es=>exact hg
 |spawn g c w' es=>exact hg
 |count g w' es =>
  simp only
  split
  ·trivial
  ·exact hg
 |alone g on w' es=>exact hg
 |collect g w' es=>exact ge_look hg
 |watch g w' es=>exact hg
 |newcoro g c dd w' es=>exact hg
 |coroswitch g c ex w' es =>
  simp only
  split
  ·exact hg
  ·exact hg
  ·trivial
 |timer g op w' es =>
  simp only
  split
  ·rename_i heq
   have:=timerOp_drawn heq
   show d≤World.drawn _
   rw [this];exact hg
  ·exact hg
  ·trivial
  ·trivial
theorem ge_serve {m:Machine} {k:Nat} (h:d≤m.world.drawn):geS d (serve p m k):=by
 unfold serve
 split
 ·trivial
 ·exact h
 ·simp only
  split
  ·trivial
  ·exact h
def geM (d:Nat):Move→Prop
 |.goroutine m _=>d≤m.world.drawn
 |.machine s _=>geS d s
theorem ge_pick {m:Machine} {rs:List Nat} (h:d≤m.world.drawn):geM d
   (match (choose (.sched rs.length)).run p m.world with
   |.halt _ w => .machine (.ended (.stuck "sched" "") w)
   |.ok k world =>
    if rs.length≤1 then .goroutine { m with world } (rs.getD k 0) else
    match (choose (.extern "sched.slice" 65536)).run p world with
    |.halt _ w => .machine (.ended (.stuck "sched.slice" "") w)
    |.ok n world => .goroutine { m with world,rest:={ m.rest with slice:=if n=0 then none else some (rs.getD k 0,n) } } (rs.getD k 0)):=by
 split
 ·trivial
 ·rename_i heq
  have hq:=run_ok h heq
  split
  ·exact hq
  ·split
   ·trivial
   ·rename_i heq2
    have hq2:=run_ok hq heq2
    exact hq2
theorem ge_askOn {m:Machine} (h:d≤m.world.drawn):geM d (askOn p m):=by
 unfold askOn
 simp only
 generalize hx:Sem.run p (if (due m.rest.timers m.world.os.mono).isEmpty=true then pure 0
   else choose (.extern "timer.serve" ((due m.rest.timers m.world.os.mono).length+(if ((runnable m.gs m.world.os.mono).isEmpty && (ahead m false).isNone)=true then 0 else 1))):Sem Nat) m.world=x
 have hw:d≤(resW x).drawn:=by rw [← hx];exact Nat.le_trans h (run_drawn p _ _)
 clear hx
 cases x with
 |halt a w'=>trivial
 |ok k w' =>
  have hw':d≤w'.drawn:=hw
  simp only
  split
  ·exact ge_serve (m:={ m with world:=w' }) hw'
  ·split
   ·split
    ·exact hw'
    ·split
     ·exact hw'
     ·split
      ·trivial
      ·trivial
   ·split
    ·exact ge_pick (m:={ m with world:=w' }) hw'
    ·split
     ·trivial
     ·rename_i heq;exact ge_pick (m:={ m with world:=_ }) (run_ok hw' heq)
     ·rename_i heq;have hq:=run_ok hw' heq;exact hq
     ·rename_i heq
      have hq:=run_ok hw' heq
      exact ge_pick (m:=Machine.advanceTo { m with world:=_ } _) hq
theorem ge_ask {m:Machine} (h:d≤m.world.drawn):geM d (ask p m):=by
 unfold ask
 split
 ·split
  ·trivial
  ·rename_i heq
   have hl:=ge_look (p:=p) (gs:=m.gs) (rest:=m.rest) (run_ok h heq)
   split
   ·rename_i heq2;rw [heq2] at hl;exact ge_askOn hl
   ·rename_i e _ heq2;exact hl
  ·rename_i heq;exact ge_askOn (m:={ m with world:=_ }) (run_ok h heq)
 ·exact ge_askOn h
theorem ge_move {m:Machine} (h:d≤m.world.drawn):geM d (move p m):=by
 unfold move
 split
 ·split
  ·exact h
  ·trivial
 ·split
  ·split
   ·exact h
   ·exact ge_ask h
  ·exact ge_ask h
theorem ge_step {m:Machine} (h:d≤m.world.drawn):geS d (step p m):=by
 unfold step stepT
 have:=ge_move (p:=p) h
 split
 ·rename_i heq;rw [heq] at this;exact ge_runT this
 ·rename_i heq;rw [heq] at this;exact this
theorem ge_runN:∀ (n:Nat) {m:Machine},d≤m.world.drawn→geS d (runN p n m)
 |0,_,h=>h
 |n+1,m,h=>by
  unfold runN
  have:=ge_step (p:=p) h
  split
  ·rename_i heq;rw [heq] at this;exact ge_runN n this
  ·rename_i e heq;exact this
theorem steps_drawn {m m':Machine} (h:Steps p m m'):m.world.drawn≤m'.world.drawn:=by
 obtain ⟨n,hn⟩:=h
 have:=ge_runN (p:=p) n (Nat.le_refl m.world.drawn)
 rw [hn] at this
 exact this
theorem calls_drawn {f:FuncId} {args:Array Value} {R:Ending→World→Prop} (h:Calls p f args w R):Calls p f args w (fun e w'=>R e w'∧(∀ v,e = .returned v→w.drawn≤w'.drawn)):=by
 intro cs
 obtain ⟨e,w',fr,hR,hc,h1,h2⟩:=h cs
 refine ⟨e,w',fr,⟨hR,?_⟩,hc,h1,h2⟩
 rintro v rfl
 exact steps_drawn hc
end
end
end Go.Proofs.YthgpheopnhajaaaGreatDoor
