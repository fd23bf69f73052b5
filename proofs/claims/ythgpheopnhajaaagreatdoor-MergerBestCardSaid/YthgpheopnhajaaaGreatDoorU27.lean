/- The seat's texts, part U27. -/
import Derived.Test.YthgpheopnhajaaaGreatDoorU21
import Derived.Test.YthgpheopnhajaaaGreatDoorU23
import Derived.Test.YthgpheopnhajaaaGreatDoorU24
import Derived.Test.YthgpheopnhajaaaGreatDoorU26
import Derived.OwnWalkIn
set_option maxRecDepth 100000
set_option maxHeartbeats 8000000
namespace Go.Proofs.YthgpheopnhajaaaGreatDoor
section
open Go.RowKit Go.Shelf
attribute [local go_sem] size_bs toList_bs Oper.semAt_some
def OfEnds (ls:List LotV) (ins:Bs) (w:World) (e:Ending) (w':World):Prop:=∃ A c,e = .returned (.slice A (ofL ls ins).length c)∧OwnL w' w.heap.size (.slice A (ofL ls ins).length c) (ofL ls ins)∧(ofL ls ins).length≤c∧Ext w w'
structure CoAt (w:World) (B:Nat) (lp:Loop) (ls:List LotV) (A:Option Addr) (c:Nat) (ins:Bs) (k:Nat) (W:World):Prop where
 ext:Ext w W
 o:∃ v,Blk W w.heap.size 22 #[v]∧OwnL W w.heap.size v (ofL (ls.take k) ins)
 l:Blk W B 22 #[.slice A ls.length c]
 i:Blk W (B+1) 9 #[.string (bs ins)]
 D:W.heap[w.heap.size+1]? = some (.deferred (some []))
 L:W.heap[w.heap.size+1+1]? = some (.loop lp)
theorem own_put {w:World} {base:Nat} {e:TypeId} {size n l:Nat} {v:Value} {xs:List Value} {lp lp':Loop} (h:w.ownsRow base e size v n xs) (hl:w.heap[l]? = some (.loop lp)):(w.putObj l (.loop lp')).ownsRow base e size v n xs:=by
 refine ⟨h.1,?_⟩
 rcases h.2 with h2 | ⟨g,cap,cur,h1,h2,h3,h4,h5⟩
 ·exact .inl h2
 ·refine .inr ⟨g,cap,cur,h1,h2,?_,h4,h5⟩
  have hne:g≠l:=by rintro rfl;rw [hl] at h3;cases h3
  rw [World.putObj_heap_other hne]
  exact h3
theorem own_lower {w:World} {base b:Nat} {e:TypeId} {size n:Nat} {v:Value} {xs:List Value} (h:w.ownsRow base e size v n xs) (hb:b≤base):w.ownsRow b e size v n xs:=by
 refine ⟨h.1,?_⟩
 rcases h.2 with h2 | ⟨g,cap,cur,h1,h2,h3⟩
 ·exact .inl h2
 ·exact .inr ⟨g,cap,cur,h1,Nat.le_trans hb h2,h3⟩
theorem own_putD {w:World} {base:Nat} {e:TypeId} {size n l:Nat} {v:Value} {xs:List Value} {o:Obj} (h:w.ownsRow base e size v n xs) (hl:w.heap[l]? = some (.deferred (some []))):(w.putObj l o).ownsRow base e size v n xs:=by
 refine ⟨h.1,?_⟩
 rcases h.2 with h2 | ⟨g,cap,cur,h1,h2,h3,h4,h5⟩
 ·exact .inl h2
 ·refine .inr ⟨g,cap,cur,h1,h2,?_,h4,h5⟩
  have hne:g≠l:=by rintro rfl;rw [hl] at h3;cases h3
  rw [World.putObj_heap_other hne]
  exact h3
theorem own_noL {w:World} {base:Nat} {e:TypeId} {size n l:Nat} {v:Value} {xs:List Value} {lp:Loop} (h:w.ownsRow base e size v n xs) (hl:w.heap[l]? = some (.loop lp)):v.ownBlock≠some l:=by
 rcases h.2 with ⟨rfl,_⟩ | ⟨g,cap,cur,rfl,_,h3,_⟩
 ·simp [Value.ownBlock]
 ·intro he
  have:g=l:=by simpa [Value.ownBlock] using he
  subst this
  rw [hl] at h3;cases h3
theorem own_noD {w:World} {base:Nat} {e:TypeId} {size n l:Nat} {v:Value} {xs:List Value} (h:w.ownsRow base e size v n xs) (hl:w.heap[l]? = some (.deferred (some []))):v.ownBlock≠some l:=by
 rcases h.2 with ⟨rfl,_⟩ | ⟨g,cap,cur,rfl,_,h3,_⟩
 ·simp [Value.ownBlock]
 ·intro he
  have:g=l:=by simpa [Value.ownBlock] using he
  subst this
  rw [hl] at h3;cases h3
section
variable {w:World} {B:Nat} {lp lp':Loop} {ls:List LotV} {A:Option Addr} {c:Nat} {ins:Bs} {k:Nat} {W W':World}
theorem CoAt.on (h:CoAt w B lp ls A c ins k W) (hx:Ext W W'):CoAt w B lp ls A c ins k W':=by
 obtain ⟨v,h1,h2⟩:=h.o
 exact ⟨h.ext.trans hx,⟨v,h1.ext hx,own_ext2 h2 hx⟩,h.l.ext hx,h.i.ext hx,ext_heap h.D hx,ext_heap h.L hx⟩
theorem CoAt.put (h:CoAt w B lp ls A c ins k W) (hB:B+1<w.heap.size):CoAt w B lp' ls A c ins k (W.putObj (w.heap.size+1+1) (.loop lp')):=by
 obtain ⟨v,h1,h2⟩:=h.o
 exact ⟨h.ext.putObj (by omega) _,⟨v,h1.put _ (by omega),own_put h2 h.L⟩,h.l.put _ (by omega),h.i.put _ (by omega),put_heap h.D (by omega),World.putObj_heap_same (Array.getElem?_eq_some_iff.1 h.L).1⟩
theorem CoAt.skip (h:CoAt w B lp ls A c ins k W) (hk:k<ls.length) (hne:(ls[k]'hk).ins≠ins):CoAt w B lp ls A c ins (k+1) W :=
 ⟨h.ext,by rw [ofL_take_skip hk hne];exact h.o,h.l,h.i,h.D,h.L⟩
theorem CoAt.hit {x:LotV} {w':World} {v v':Value} (h:CoAt w B lp ls A c ins k W) (hB:B+1<w.heap.size) (hb:Blk W w.heap.size 22 #[v]) (ho:OwnL W w.heap.size v (ofL (ls.take k) ins)) (hgrow:W.grownBy w' v.ownBlock)
  (hown':w'.ownsRow w.heap.size 71 7 v' ((ofL (ls.take k) ins).length+1) (lots (ofL (ls.take k) ins)++lotCells x)) (hq:ofL (ls.take (k+1)) ins=ofL (ls.take k) ins++[x]) :
  CoAt w B lp ls A c ins (k+1) (w'.setCell ⟨w.heap.size,0,none⟩ v'):=by
 have keep:∀ {g:Nat} {t:TypeId} {cs:Array Value},Blk W g t cs→t≠71→Blk w' g t cs:=fun {g t cs} hb hne =>
  (hgrow.block g hb.lt (fun e=>own_ne ho hb hne.symm e.symm)).trans hb
 have hb':=keep hb (by decide)
 have hDl:=(Array.getElem?_eq_some_iff.1 h.D).1
 have hLl:=(Array.getElem?_eq_some_iff.1 h.L).1
 refine ⟨(Ext.grown h.ext hgrow (own_base ho)).setCell (p:=⟨w.heap.size,0,none⟩) (Nat.le_refl _) _,⟨v',hb'.set_ 0 _,?_⟩,(keep h.l (by decide)).far (p:=⟨w.heap.size,0,none⟩) (by dsimp only;omega) _,(keep h.i (by decide)).far (p:=⟨w.heap.size,0,none⟩) (by dsimp only;omega) _,dfar ?_ (by omega),dfar ?_ (by omega)⟩
 ·unfold OwnL
  rw [hq,List.length_append,lots_app]
  have e1:lots [x]=lotCells x:=by simp [lots]
  rw [e1]
  exact own_set hown' (own_ne hown' hb' (by decide)) _
 ·exact (hgrow.block _ hDl (fun e=>own_noD ho h.D e.symm)).trans h.D
 ·exact (hgrow.block _ hLl (fun e=>own_noL ho h.L e.symm)).trans h.L
end
theorem lotSeq (ls:List LotV) (A:Option Addr) (c:Nat) (ins:Bs) (w:World) (B:Nat) (hA:RdL w A ls) (hn:ls.length≤100000) (bl:Blk w B 22 #[.slice A ls.length c]) (bi:Blk w (B+1) 9 #[.string (bs ins)]) :
  Calls Tryz.prog 142 #[.slice none 0 0,.func (.func 141) #[] #[.pointer (some ⟨B,0,none⟩),.pointer (some ⟨B+1,0,none⟩)]] w (OfEnds ls ins w):=by
 have hfn:∀ k,Fence.wide.fn k:=fun _=>trivial
 have hdp:Fence.wide.depth.isSome=false:=rfl
 have HA:=Lib.hid hA
 have BL:=Lib.hid bl
 have BI:=Lib.hid bi
 have hlt:=bi.lt
 obtain ⟨i0,hI,hz0,hz1,hz2⟩:=info_parts lotInfo
 have HI:=Lib.hid hI
 clear hA bl bi hI
 refine (callsIn_wide (n:=5)).1 ?_
 refine callsIn_of_wp_marks Tryz.func142 rfl trivial ?_ rfl
 simp only [Tryz.ntmps142,List.size_toArray,List.length_cons,List.length_nil,Nat.reduceAdd,Nat.reduceSub,Array.replicate_succ,Array.replicate_zero,List.push_toArray,List.append_toArray,List.nil_append,List.cons_append]
 gi_wp2_with fail
 refine range_outer' rfl (by omega) (w.heap.size+1) (by simp) rfl trivial (fun _ _=>by rfl) ?_
 intro fn lp W1 hlp hW1 _
 have h0:CoAt w B lp ls A c ins 0 W1:=by
  subst hW1
  refine ⟨((Ext.new w _).alloc _).alloc _,⟨.slice none 0 0,((Blk.newAt _ _ _ _ rfl).alloc _).alloc _,World.ownsRow_nil _ _ _ _⟩,((BL.out.alloc _).alloc _).alloc _,((BI.out.alloc _).alloc _).alloc _,?_,?_⟩
  ·exact oldAt (newAt _ _ _ (by simp))
  ·exact newAt _ _ _ (by simp)
 refine (lotOf1 4 (w.heap.size+1+1) B w ls A c ins HA.out (by omega) (CoAt w B lp ls A c ins) (fun k W h=>⟨h.ext,h.l,h.i⟩) (fun k W W' h hx=>h.on hx) ?hY (fun k hk W hne h=>h.skip hk hne) W1 h0).mono ?_
 case hY =>
  intro k hk W he h
  have e1:=congrArg Loop.assign hlp
  have e2:=congrArg Loop.body hlp
  have e3:=congrArg Loop.tmps hlp
  have e4:=congrArg Loop.params hlp
  have e5:{ lp with state := .ready,pending:=none }=lp:=by rw [hlp];rfl
  obtain ⟨lb,hlb⟩:∃ lb,{ lp with state := .busy }=lb:=⟨_,rfl⟩
  simp only [recOf] at e1 e2 e3 e4
  refine yield_round' (rec:=lp) h.L (by rw [hlp];rfl) (by rw [hlp];rfl) trivial e1 e2 e4 e3 (zip1 _ _ _) hlb ?_
  clear e1 e2 e3 e4 hlp hW1 h0
  have HXN:Hid (Ext W (W.alloc (.cells (lc (ls[k]'hk)) 71))):=Lib.hid (Ext.new _ _)
  have HL0:=Lib.hid (h.on HXN.out).L
  have HP:=Lib.hid ((h.on HXN.out).put (lp':=lb) hlt)
  have HBX:=Lib.hid ((Blk.new W 71 (lc (ls[k]'hk))).put (.loop lb) (l:=w.heap.size+1+1) (by have:=(Array.getElem?_eq_some_iff.1 h.L).1;omega))
  have HLB:=Lib.hid hlb
  have HE5:=Lib.hid e5
  have HQ:=Lib.hid (ofL_take_hit hk he)
  clear h hlb e5 he
  generalize ls[k]'hk=x at *
  gi_wp2
  refine ⟨HL0.out,?_⟩
  generalize hXX:W.heap.size=X at *
  have hXw:w.heap.size+1<X:=by have:=(Array.getElem?_eq_some_iff.1 HL0.out).1;simp only [World.size_alloc] at this;omega
  clear hXX
  generalize (W.alloc (.cells (lc x) 71)).putObj (w.heap.size+1+1) (.loop lb)=Wb at *
  have HPB:=Lib.hid (HP.out.on (Ext.new Wb (.cells (lc x) 71)))
  obtain ⟨v,ob,ow⟩:=HP.out.o
  have q0:=ob.cell 0
  simp only [List.getElem?_toArray,List.getElem?_cons_zero] at q0
  have OB:=Lib.hid (ob.alloc (.cells (lc x) 71))
  have OW:=Lib.hid (own_ext2 ow (Ext.new Wb (.cells (lc x) 71)))
  have hsz:=HPB.out.ext.size
  have hln:(ofL (ls.take k) ins).length≤100000:=Nat.le_trans ofL_len hn
  clear ob ow
  obtain ⟨x0,x1,x2,x3,x4,x5,x6⟩:=lotBlk HBX.out (Ext.refl Wb)
  gi_wp2_with (gi_at_builtin;refine wpListIn_append_own _ rfl (.tmp 8) (.tmp 10) 22 rfl w.heap.size 71 i0 _ 7 96 Tryz.underlying22 HI.out hz0 hz1 hz2 rfl (by decide) v _ _ rfl OW.out ⟨Wb.heap.size,0,none⟩ 1 1 (lotCells x) rfl rfl (World.news_of_block (heap_alloc_new Wb _)) (one_lot x) (by simp only [maxLen];omega) (by omega) hsz ?_;intro v2 w' hown' hgrow hnil;(obtain ⟨A2,c2,rfl⟩:=own_slice hown');clear hnil;(have HT:=Lib.hid (HPB.out.hit hlt OB.out OW.out hgrow hown' HQ.out));(have hbG:Blk w' w.heap.size 22 #[v]:=(hgrow.block w.heap.size OB.out.lt (fun e=>own_ne OW.out OB.out (by decide) e.symm)).trans OB.out);(have d0:=boxCell hbG);(have d1:=hbG.frozen 0))
  refine ⟨by rw [HLB.out];exact HT.out.L,rfl,?_⟩
  rw [HE5.out]
  exact HT.out.put hlt
 rintro e W ⟨hv,h⟩
 refine ⟨hv,.inl ⟨h.L,?_⟩⟩
 have hP:=h.put (lp':={ lp with state := .exhausted }) hlt
 generalize W.putObj (w.heap.size+1+1) (.loop { lp with state := .exhausted })=W3 at *
 clear h hv hW1 hlp W1 h0
 obtain ⟨v,ob,ow⟩:=hP.o
 rw [List.take_length] at ow
 have q0:=ob.cell 0
 simp only [List.getElem?_toArray,List.getElem?_cons_zero] at q0
 obtain ⟨A2,c2,rfl⟩:=own_slice ow
 have HOW:=Lib.hid ow
 have HP:=Lib.hid hP
 clear hP ow ob
 gi_wp2
 refine ⟨by simp,.inl ⟨_,_,rfl,run_takeDeferred HP.out.D,?_⟩⟩
 refine ⟨.slice A2 (ofL ls ins).length c2,by simp [results,Tryz.results142,go_sem],?_⟩
 exact ⟨A2,c2,rfl,own_putD HOW.out HP.out.D,(own_cap HOW.out).1,HP.out.ext.putObj (by omega) _⟩
theorem lotCollect (ls:List LotV) (A:Option Addr) (c:Nat) (ins:Bs) (w:World) (B:Nat) (hA:RdL w A ls) (hn:ls.length≤100000) (bl:Blk w B 22 #[.slice A ls.length c]) (bi:Blk w (B+1) 9 #[.string (bs ins)]) :
  Calls Tryz.prog 82 #[.func (.func 141) #[] #[.pointer (some ⟨B,0,none⟩),.pointer (some ⟨B+1,0,none⟩)]] w (OfEnds ls ins w):=by
 have HS:=Lib.hid (lotSeq ls A c ins w B hA hn bl bi)
 clear hA bl bi
 go_enter Tryz.func82,Tryz.ntmps82
 go_wp2_with fail
 refine HS.out.mono ?_
 rintro e w1 ⟨A2,c2,rfl,h1,h2,h3⟩
 have HR:=Lib.hid (And.intro h1 (And.intro h2 h3))
 clear h1 h2 h3
 go_wp2_with fail
 go_ret
 exact ⟨A2,c2,rfl,HR.out⟩
theorem lotOfW (ls:List LotV) (A:Option Addr) (c:Nat) (ins:Bs) (w:World) (hA:RdL w A ls) (hn:ls.length≤100000) :
  Calls Tryz.prog 26 #[.slice A ls.length c,.string (bs ins)] w (OfEnds ls ins w):=by
 have HA:=Lib.hid hA
 clear hA
 go_enter Tryz.func26,Tryz.ntmps26
 go_wp2_with fail
 refine (lotOf A _ c ins _).mono ?_
 rintro e w1 ⟨rfl,hw1⟩
 have HX:Hid (Ext w w1):=Lib.hid (by rw [hw1];exact (Ext.new _ _).alloc _)
 have B0:Hid (Blk w1 w.heap.size 22 #[.slice A ls.length c]):=Lib.hid (by rw [hw1];exact (Blk.new _ _ _).alloc _)
 have B1:Hid (Blk w1 (w.heap.size+1) 9 #[.string (bs ins)]):=Lib.hid (by rw [hw1];exact Blk.newAt _ _ _ _ (by simp))
 clear hw1
 go_wp2_with fail
 refine (lotCollect ls A c ins w1 w.heap.size (HA.out.ext HX.out) hn B0.out B1.out).mono ?_
 rintro e w2 ⟨A2,c2,rfl,h1,h2,h3⟩
 have HR:=Lib.hid (And.intro (own_lower h1 HX.out.size) (And.intro h2 (HX.out.trans h3)))
 clear h1 h2 h3
 go_wp2_with fail
 go_ret
 exact ⟨A2,c2,rfl,HR.out⟩
end
section
open Go.RowKit
open Go.Maps (Keyed)
inductive SK | lv | mk | am | wc | nm | mm | kd | ex | sl | sx | no
def exK:Value:=kv [101,120,99,104,97,110,103,101] 1 (setAll [0,11] no13) (.map none) false
theorem MapAt.isMap {W:World} {b n:Nat} {D:DataW Value} (h:MapAt W b n D):Maps.IsMap D:=World.ownsMap.isMap h
structure RC where
 w0:World
 G1:Nat
 G3:Nat
 lvP:Value
abbrev RC.amV (c:RC):Value := .func (.func 152) #[] #[.pointer (some ⟨c.G3,0,none⟩),.pointer (some ⟨c.G1,0,none⟩)]
abbrev wcV:Value := .func (.func 153) #[] #[]
def NMc (c:RC) (f:Nat) (bm:Option Nat) (w:World) (b:Nat):Prop:=c.w0.heap.size≤b∧some b≠bm∧∃ n D,MapAt w b n D∧n+f≤200∧KeyOK D
def SlAt (w:World) (v:Value) (ms:List Nat):Prop:=∃ g,v = .slice (some ⟨g,0,none⟩) ms.length ms.length∧Blk w g 3 (icells ms).toArray
def Fit (c:RC) (f:Nat) (bm:Option Nat) (w:World):SK→Value→Prop
 |.lv,_=>True
 |.mk,v=>v=makerV
 |.am,v=>v=c.amV
 |.wc,v=>v=wcV
 |.nm,v=>∃ b,v = .map (some b)∧NMc c f bm w b
 |.mm,v=>∃ b,v = .map (some b)∧bm=some b
 |.kd,v=>∃ word cl bits num code,bits.length=13∧num.oneCell'=true∧v=kv word cl bits num code
 |.ex,v=>v=exK
 |.sl,v=>∃ ms,(∀ x ∈ ms,x<13)∧ms.length≤1000∧SlAt w v ms
 |.sx,v=>SlAt w v [0,11]
 |.no,_=>True
def Main (c:RC) (i10 f:Nat) (listed:Array Bool) (b:Nat) (w:World):Prop :=
 c.w0.heap.size≤b∧∃ n D,MapAt w b n D∧n+f≤200∧(listed.getD i10 false=true→Maps.has D (.int .i64 10)=true∧∀ z,D.atKey (.int .i64 10) z = .held exK)
def Filled (ops:Array Oper) (listed:Array Bool) (d:Nat):Prop:=(d=2∨d=4∨d=5∨d=6)∨∃ i o,ops[i]? = some o∧listed.getD i false=true∧o.dst=some d
structure RInv (c:RC) (sk:Nat→SK) (i10:Nat) (ops:Array Oper) (f:Nat) (listed:Array Bool) (bm:Option Nat) (a:Act) (w:World):Prop where
 size:listed.size=ops.size
 cnt:listed.toList.count false≤f
 ext:Ext c.w0 w
 tms:a.tmps.size=105
 dfr:a.defers=[]
 t1:a.tmps.getD 1 undef = .pointer (some ⟨c.G1,0,none⟩)
 t3:a.tmps.getD 3 undef = .pointer (some ⟨c.G3,0,none⟩)
 b1:Blk w c.G1 LT2 #[c.lvP]
 b3:Blk w c.G3 FT #[makerV]
 fits:∀ d,Filled ops listed d→Fit c f bm w (sk d) (a.tmps.getD d undef)
 main:∀ b,bm=some b→Main c i10 f listed b w
 fst:listed.getD 0 false=false→bm=none
 ten:listed.getD i10 false=true→bm.isSome=true
def RAt (c:RC) (sk:Nat→SK) (i10:Nat) (ops:Array Oper) (f:Nat) (listed:Array Bool) (a:Act) (w:World):Prop:=∃ bm,RInv c sk i10 ops f listed bm a w
theorem Fit.on {c:RC} {f:Nat} {bm bm':Option Nat} {w w':World} {k:SK} {v:Value} (h:Fit c (f+1) bm w k v) (hblk:∀ g t cs,Blk w g t cs→Blk w' g t cs)
  (hmap:∀ b,NMc c (f+1) bm w b→NMc c f bm' w' b) (hbm:∀ b,bm=some b→bm'=some b):Fit c f bm' w' k v:=by
 cases k
 ·trivial
 ·exact h
 ·exact h
 ·exact h
 ·obtain ⟨b,e,hb⟩:=h;exact ⟨b,e,hmap b hb⟩
 ·obtain ⟨b,e,hb⟩:=h;exact ⟨b,e,hbm b hb⟩
 ·exact h
 ·exact h
 ·obtain ⟨ms,h1,h2,g,e,hg⟩:=h;exact ⟨ms,h1,h2,g,e,hblk _ _ _ hg⟩
 ·obtain ⟨g,e,hg⟩:=h;exact ⟨g,e,hblk _ _ _ hg⟩
 ·trivial
theorem listed_up {listed:Array Bool} {i j:Nat} (h:listed.getD j false=true):(listed.setIfInBounds i true).getD j false=true:=by
 rw [Array.getD_eq_getD_getElem?] at h ⊢
 rw [Array.getElem?_setIfInBounds]
 split
 ·rename_i e
  subst e
  split
  ·rfl
  ·rename_i hge
   rw [Array.getElem?_eq_none (by omega)] at h
   cases h
 ·exact h
theorem getD_put {a:Act} {d:Nat} {v:Value} {x:Nat} (h:x≠d):(a.put (some d) v).tmps.getD x undef=a.tmps.getD x undef:=by
 unfold Act.put
 rw [Array.getD_eq_getD_getElem?,Array.getD_eq_getD_getElem?]
 rw [Array.getElem?_setIfInBounds_ne (by omega)]
theorem getD_new {a:Act} {d:Nat} {v:Value} (h:d<a.tmps.size):(a.put (some d) v).tmps.getD d undef=v:=by
 unfold Act.put
 rw [Array.getD_eq_getD_getElem?,Array.getElem?_setIfInBounds_self_of_lt h]
 rfl
section
variable {c:RC} {sk:Nat→SK} {i10:Nat} {ops:Array Oper} {f:Nat} {listed:Array Bool} {bm:Option Nat} {a:Act} {w:World} {i:Nat} {o:Oper}
theorem RInv.step (h:RInv c sk i10 ops (f+1) listed bm a w) (hi:i ∈ Region.ready .any ops listed) (ho:ops[i]? = some o) (v:Value) (w':World) (bm':Option Nat)
  (hdst:∀ d,o.dst=some d→(d≠1∧d≠3∧d<105)∧Fit c f bm' w' (sk d) v) (hext:Ext c.w0 w') (hblk:∀ g t cs,Blk w g t cs→Blk w' g t cs)
  (hmap:∀ b,NMc c (f+1) bm w b→NMc c f bm' w' b) (hbm:∀ b,bm=some b→bm'=some b) (hmain:∀ b,bm'=some b→Main c i10 f (listed.setIfInBounds i true) b w')
  (hnone:(listed.setIfInBounds i true).getD 0 false=false→bm'=none) (hten:i10=i→bm'.isSome=true):RAt c sk i10 ops f (listed.setIfInBounds i true) (a.put o.dst v) w':=by
 have hc:=count_set (ready_not hi)
 have hcn:=h.cnt
 have hput:∀ x,(∀ d,o.dst=some d→x≠d)→(a.put o.dst v).tmps.getD x undef=a.tmps.getD x undef:=fun x hx=>by
  cases hd:o.dst with
  |none=>rfl
  |some d=>exact getD_put (hx d hd)
 refine ⟨bm',by rw [Array.size_setIfInBounds];exact h.size,by omega,hext,?_,?_,?_,?_,hblk _ _ _ h.b1,hblk _ _ _ h.b3,?_,hmain,hnone,?_⟩
 ·unfold Act.put
  split
  ·rw [← h.tms];exact Array.size_setIfInBounds ..
  ·exact h.tms
 ·unfold Act.put
  split <;> exact h.dfr
 ·rw [hput 1 (fun d hd=>(hdst d hd).1.1.symm)];exact h.t1
 ·rw [hput 3 (fun d hd=>(hdst d hd).1.2.1.symm)];exact h.t3
 ·intro d hf
  by_cases hd:o.dst=some d
  ·rw [hd,getD_new (by rw [h.tms];exact (hdst d hd).1.2.2)]
   exact (hdst d hd).2
  ·rw [hput d (fun d' hd' e=>hd (by rw [hd',e]))]
   refine (h.fits d ?_).on hblk hmap hbm
   rcases hf with hf | ⟨j,oj,hj,hl,hdj⟩
   ·exact .inl hf
   ·rcases listed_set hl with e | e
    ·subst e
     rw [ho] at hj
     cases hj
     exact absurd hdj hd
    ·exact .inr ⟨j,oj,hj,e,hdj⟩
 ·intro hl
  rcases listed_set hl with e | e
  ·exact hten e
  ·obtain ⟨b,eb⟩:=Option.isSome_iff_exists.1 (h.ten e)
   rw [hbm b eb]
   rfl
theorem NMc.ext {w':World} {b:Nat} (h:NMc c (f+1) bm w b) (hx:Ext w w'):NMc c f bm w' b:=by
 obtain ⟨h1,h2,n,D,h3,h4,h5⟩:=h
 exact ⟨h1,h2,n,D,h3.ext hx,by omega,h5⟩
theorem Main.ext {w':World} {b:Nat} (h:Main c i10 (f+1) listed b w) (hx:Ext w w') (hne:i≠i10):Main c i10 f (listed.setIfInBounds i true) b w':=by
 obtain ⟨h1,n,D,h3,h4,h5⟩:=h
 refine ⟨h1,n,D,h3.ext hx,by omega,fun hl=>h5 ?_⟩
 rcases listed_set hl with e | e
 ·exact absurd e.symm hne
 ·exact e
theorem RInv.grow (h:RInv c sk i10 ops (f+1) listed bm a w) (hi:i ∈ Region.ready .any ops listed) (ho:ops[i]? = some o) (hne:i≠i10) (v:Value) (w':World) (hx:Ext w w')
  (hdst:∀ d,o.dst=some d→(d≠1∧d≠3∧d<105)∧Fit c f bm w' (sk d) v):RAt c sk i10 ops f (listed.setIfInBounds i true) (a.put o.dst v) w' :=
 h.step hi ho v w' bm hdst (h.ext.trans hx) (fun _ _ _ hb=>hb.ext hx) (fun _ hb=>hb.ext hx) (fun _ e=>e) (fun b e=>(h.main b e).ext hx hne) (fun hn=>h.fst (by
  cases hl:listed.getD 0 false
  ·rfl
  ·rw [listed_up hl] at hn;cases hn)) (fun e=>absurd e.symm hne)
end
end
section
open Go.RowKit
open Go.Maps (Keyed)
attribute [local go_sem] size_bs toList_bs
theorem wpOp_of {P:Program} {ops:Array Oper} {Q:Exit→Act→World→Prop} {i:Nat} {o:Oper} {K:Act→World→Prop} {a:Act} {w:World} (ho:ops[i]? = some o) (hg:o.guard=none) (h:o.wp P a w K Q):wpOp P ops Q i K a w:=by
 unfold wpOp
 rw [ho]
 dsimp only
 rw [if_pos (by simp [Region.wanted,hg])]
 exact .inl h
theorem filled_pred {ops:Array Oper} {listed:Array Bool} {i:Nat} (hi:i ∈ Region.ready .any ops listed) {o:Oper} (ho:ops[i]? = some o) (p:Nat) (hp:(o.after.toList.any fun e=>e.on == p && Region.binds .any e)=true) {q:Oper} (hq:ops[p]? = some q) {d:Nat} (hd:q.dst=some d):Filled ops listed d :=
 .inr ⟨p,q,hq,ready_pred hi ho hp,hd⟩
theorem bs_data (b:ByteArray):b=bs b.data.toList:=by
 cases b;unfold bs;simp
abbrev DstOK (o:Oper) (d:Nat):Prop:=o.dst=some d∧d≠1∧d≠3∧d<105
section
variable {c:RC} {sk:Nat→SK} {i10:Nat} {ops:Array Oper} {f:Nat} {listed:Array Bool} {bm:Option Nat} {a:Act} {w:World} {i:Nat} {o:Oper} {Q:Exit→Act→World→Prop}
theorem dst_of {d:Nat} {v:Value} {bm':Option Nat} {w':World} (hd:DstOK o d) (hv:Fit c f bm' w' (sk d) v):∀ d,o.dst=some d→(d≠1∧d≠3∧d<105)∧Fit c f bm' w' (sk d) v:=fun d' e=>by
 rw [hd.1] at e
 cases e
 exact ⟨hd.2,hv⟩
theorem Fit.less {k:SK} {v:Value} (h:Fit c (f+1) bm w k v):Fit c f bm w k v:=h.on (fun _ _ _ h=>h) (fun _ h=>h.ext (Ext.refl _)) (fun _ h=>h)
theorem eval_tmp (a:Act) (m:Nat):a.eval (.tmp m)=a.tmps.getD m undef:=rfl
theorem st_move (h:RInv c sk i10 ops (f+1) listed bm a w) (hi:i ∈ Region.ready .any ops listed) (ho:ops[i]? = some o) (hg:o.guard=none) (m d:Nat) (hop:o.op = .move (.tmp m)∨o.op = .assign (.tmp m)) (hne:i≠i10) (hd:DstOK o d) (hf:Filled ops listed m) (hk:sk d=sk m) :
  wpOp Tryz.prog ops Q i (RAt c sk i10 ops f (listed.setIfInBounds i true)) a w:=by
 refine wpOp_of ho hg ?_
 have key:RAt c sk i10 ops f (listed.setIfInBounds i true) (a.put o.dst (a.eval (.tmp m))) w :=
  h.grow hi ho hne _ w (Ext.refl _) (dst_of hd (by rw [hk,eval_tmp];exact (h.fits m hf).less))
 unfold Oper.wp
 rcases hop with hop | hop
 ·simp only [execOp,hop]
  exact key
 ·simp only [execOp,hop]
  exact key
theorem loadOne1 {w:World} {g:Nat} {v:Value} (h:Blk w g LT2 #[v]):(Instr.loadAt 204 (.pointer (some ⟨g,0,none⟩))).run Tryz.prog w = .ok v w:=by
 have q:=h.cell 0
 simp only [List.getElem?_toArray,List.getElem?_cons_zero] at q
 go_simp
theorem loadOne3 {w:World} {g:Nat} {v:Value} (h:Blk w g FT #[v]):(Instr.loadAt 207 (.pointer (some ⟨g,0,none⟩))).run Tryz.prog w = .ok v w:=by
 have q:=h.cell 0
 simp only [List.getElem?_toArray,List.getElem?_cons_zero] at q
 go_simp
theorem st_load1 (h:RInv c sk i10 ops (f+1) listed bm a w) (hi:i ∈ Region.ready .any ops listed) (ho:ops[i]? = some o) (hg:o.guard=none) (d:Nat) (hop:o.op = .load 204 (.tmp 1)) (hne:i≠i10) (hd:DstOK o d) (hk:sk d = .lv) :
  wpOp Tryz.prog ops Q i (RAt c sk i10 ops f (listed.setIfInBounds i true)) a w:=by
 refine wpOp_of ho hg ?_
 unfold Oper.wp
 have hr:=loadOne1 h.b1
 simp [execOp,hop,eval_tmp,h.t1,hr,Result.andThen]
 exact h.grow hi ho hne _ w (Ext.refl _) (dst_of hd (by rw [hk];trivial))
theorem st_load3 (h:RInv c sk i10 ops (f+1) listed bm a w) (hi:i ∈ Region.ready .any ops listed) (ho:ops[i]? = some o) (hg:o.guard=none) (d:Nat) (hop:o.op = .load 207 (.tmp 3)) (hne:i≠i10) (hd:DstOK o d) (hk:sk d = .mk) :
  wpOp Tryz.prog ops Q i (RAt c sk i10 ops f (listed.setIfInBounds i true)) a w:=by
 refine wpOp_of ho hg ?_
 unfold Oper.wp
 have hr:=loadOne3 h.b3
 simp [execOp,hop,eval_tmp,h.t3,hr,Result.andThen]
 exact h.grow hi ho hne _ w (Ext.refl _) (dst_of hd (by rw [hk];rfl))
theorem st_makeN (h:RInv c sk i10 ops (f+1) listed bm a w) (hi:i ∈ Region.ready .any ops listed) (ho:ops[i]? = some o) (hg:o.guard=none) (hf200:f≤190) (t d:Nat) (hop:o.op = .makeMap t none) (hne:i≠i10) (hd:DstOK o d) (hk:sk d = .nm) :
  wpOp Tryz.prog ops Q i (RAt c sk i10 ops f (listed.setIfInBounds i true)) a w:=by
 refine wpOp_of ho hg ?_
 unfold Oper.wp
 have hr:=@run_makeMap Tryz.prog t w
 simp [execOp,hop,hr,Result.andThen]
 refine h.grow hi ho hne _ _ (Ext.new _ _) (dst_of hd ?_)
 rw [hk]
 refine ⟨_,rfl,h.ext.size,fun e=>?_,0,.map [],World.ownsMap_made _ _ _ _,by omega,keyOK_nil⟩
 obtain ⟨_,n,D,hm,_⟩:=h.main _ e.symm
 exact absurd hm.lt (by omega)
theorem st_makeM (h:RInv c sk i10 ops (f+1) listed bm a w) (hi:0 ∈ Region.ready .any ops listed) (ho:ops[0]? = some o) (hg:o.guard=none) (hf200:f≤190) (t d:Nat) (hop:o.op = .makeMap t none) (hne:0≠i10) (hd:DstOK o d) (hk:sk d = .mm) :
  wpOp Tryz.prog ops Q 0 (RAt c sk i10 ops f (listed.setIfInBounds 0 true)) a w:=by
 refine wpOp_of ho hg ?_
 unfold Oper.wp
 have hr:=@run_makeMap Tryz.prog t w
 simp [execOp,hop,hr,Result.andThen]
 have hnone:bm=none:=h.fst (by
  have:=ready_not hi
  rw [Array.getD_eq_getD_getElem?] at this ⊢
  cases e:listed[0]? with
  |none=>rfl
  |some x=>rw [e] at this;exact this)
 refine h.step hi ho _ _ (some w.heap.size) (dst_of hd (by rw [hk];exact ⟨_,rfl,rfl⟩)) (h.ext.trans (Ext.new _ _)) (fun _ _ _ hb=>hb.alloc _) ?_ (fun b e=>by rw [hnone] at e;cases e) ?_ ?_ ?_
 ·intro b hb
  obtain ⟨h1,h2,n,D,h3,h4,h5⟩:=hb
  exact ⟨h1,fun e=>by have:=h3.lt;cases e;omega,n,D,h3.ext (Ext.new _ _),by omega,h5⟩
 ·intro b e
  cases e
  refine ⟨h.ext.size,0,.map [],World.ownsMap_made _ _ _ _,by omega,fun hl=>?_⟩
  rcases listed_set hl with e | e
  ·exact absurd e.symm hne
  ·have:=h.ten e
   rw [hnone] at this;cases this
 ·intro hn
  have:(listed.setIfInBounds 0 true).getD 0 false=true:=by
   have hlt:=ready_lt hi
   rw [← h.size] at hlt
   rw [Array.getD_eq_getD_getElem?,Array.getElem?_setIfInBounds_self_of_lt hlt]
   rfl
  rw [this] at hn;cases hn
 ·intro e;exact absurd e.symm hne
end
end
section
open Go.RowKit
open Go.Maps (Keyed)
attribute [local go_sem] size_bs toList_bs
theorem key10:WideAt.IsKeyLit (.int .i64 10):=by trivial
theorem ne_map {w:World} {g b n:Nat} {t:TypeId} {cs:Array Value} {D:DataW Value} (h:Blk w g t cs) (hm:MapAt w b n D):g≠b:=by
 rintro rfl
 obtain ⟨es,clock,hb,_⟩:=hm
 have h':w.heap[g]? = some (.cells cs t (0,0)):=h
 rw [hb] at h'
 cases h'
theorem blk_only {w w':World} {g b n:Nat} {t:TypeId} {cs:Array Value} {D:DataW Value} (h:Blk w g t cs) (hm:MapAt w b n D) (hg:Only b w w'):Blk w' g t cs :=
 (hg.block _ h.lt (by simpa using ne_map h hm)).trans h
section
variable {c:RC} {sk:Nat→SK} {i10:Nat} {ops:Array Oper} {f:Nat} {listed:Array Bool} {bm:Option Nat} {a:Act} {w:World} {i:Nat} {o:Oper} {Q:Exit→Act→World→Prop}
theorem fst_keep (h:RInv c sk i10 ops (f+1) listed bm a w) (hn:(listed.setIfInBounds i true).getD 0 false=false):bm=none:=h.fst (by
 cases hl:listed.getD 0 false
 ·rfl
 ·rw [listed_up hl] at hn;cases hn)
theorem eval_const (a:Act) (v:Value):a.eval (.const v)=v:=rfl
theorem st_insN (h:RInv c sk i10 ops (f+1) listed bm a w) (hi:i ∈ Region.ready .any ops listed) (ho:ops[i]? = some o) (hg:o.guard=none) (m:Nat) (k:Int) (x:Operand) (hop:o.op = .insert 142 (.tmp m) (.const (.int .i64 k)) x) (hne:i≠i10) (hd:o.dst=none)
  (hf:Filled ops listed m) (hk:sk m = .nm) (hk13:0≤k∧k<13) :
  wpOp Tryz.prog ops Q i (RAt c sk i10 ops f (listed.setIfInBounds i true)) a w:=by
 refine wpOp_of ho hg ?_
 unfold Oper.wp
 have hm:=h.fits m hf
 rw [hk] at hm
 obtain ⟨b,e,h1,h2,n,D,h3,h4,h5⟩:=hm
 obtain ⟨w',hrun,hM,hG⟩:=h3.update (t:=142) (e:=204) keyInt Tryz.underlying142 (by unfold maxLen;omega) (keyMk k (by omega)) (val:=a.eval x) rfl
 simp [execOp,hop,eval_tmp,eval_const,e,hrun,Result.andThen]
 have hG':Only b w w':=hG
 refine h.step hi ho _ w' bm (fun d e=>by rw [hd] at e;cases e) (h.ext.only hG' h1) (fun g t cs hb=>blk_only hb h3 hG') ?_ (fun _ e=>e) ?_ (fst_keep h) (fun e=>absurd e.symm hne)
 ·rintro b' ⟨g1,g2,n',D',g3,g4,g5⟩
  by_cases eb:b'=b
  ·subst eb
   exact ⟨g1,g2,n+1,_,hM,by omega,keyOK_put h5 k hk13 _⟩
  ·exact ⟨g1,g2,n',D',g3.only hG' eb,by omega,g5⟩
 ·intro b' eb
  obtain ⟨g1,n',D',g3,g4,g5⟩:=h.main b' eb
  refine ⟨g1,n',D',g3.only hG' (fun ee=>h2 (by rw [eb,ee])),by omega,fun hl=>g5 ?_⟩
  rcases listed_set hl with e | e
  ·exact absurd e.symm hne
  ·exact e
theorem st_insM (h:RInv c sk i10 ops (f+1) listed bm a w) (hi:i ∈ Region.ready .any ops listed) (ho:ops[i]? = some o) (hg:o.guard=none) (m:Nat) (k:Int) (x:Operand) (hop:o.op = .insert 146 (.tmp m) (.const (.int .i64 k)) x) (hne:i≠i10) (hd:o.dst=none)
  (hf:Filled ops listed m) (hk:sk m = .mm) (hk10:0≤k∧k<100) (hkn:k≠10) :
  wpOp Tryz.prog ops Q i (RAt c sk i10 ops f (listed.setIfInBounds i true)) a w:=by
 refine wpOp_of ho hg ?_
 unfold Oper.wp
 have hm:=h.fits m hf
 rw [hk] at hm
 obtain ⟨b,e,eb⟩:=hm
 obtain ⟨h1,n,D,h3,h4,h5⟩:=h.main b eb
 obtain ⟨w',hrun,hM,hG⟩:=h3.update (t:=146) (e:=144) keyInt Tryz.underlying146 (by unfold maxLen;omega) (keyMk k hk10) (val:=a.eval x) rfl
 simp [execOp,hop,eval_tmp,eval_const,e,hrun,Result.andThen]
 have hG':Only b w w':=hG
 have hkl:(Lit.int .i64 10)≠Lit.int .i64 k:=by simpa using fun e:(10:Int)=k=>hkn e.symm
 refine h.step hi ho _ w' bm (fun d e=>by rw [hd] at e;cases e) (h.ext.only hG' h1) (fun g t cs hb=>blk_only hb h3 hG') ?_ (fun _ e=>e) ?_ (fst_keep h) (fun e=>absurd e.symm hne)
 ·rintro b' ⟨g1,g2,n',D',g3,g4,g5⟩
  exact ⟨g1,g2,n',D',g3.only hG' (fun ee=>g2 (by rw [eb,ee])),by omega,g5⟩
 ·intro b' eb'
  rw [eb] at eb'
  cases eb'
  refine ⟨h1,n+1,_,hM,by omega,fun hl=>?_⟩
  obtain ⟨t1,t2⟩:=h5 (by
   rcases listed_set hl with e | e
   ·exact absurd e.symm hne
   ·exact e)
  exact ⟨(Maps.has_put_other hkl _).trans t1,fun z=>(Maps.atKey_put_other hkl _ z).trans (t2 z)⟩
theorem st_ins10 (h:RInv c sk i10 ops (f+1) listed bm a w) (hi:i10 ∈ Region.ready .any ops listed) (ho:ops[i10]? = some o) (hg:o.guard=none) (m x:Nat) (hop:o.op = .insert 146 (.tmp m) (.const (.int .i64 10)) (.tmp x)) (hd:o.dst=none)
  (hf:Filled ops listed m) (hk:sk m = .mm) (hfx:Filled ops listed x) (hkx:sk x = .ex) :
  wpOp Tryz.prog ops Q i10 (RAt c sk i10 ops f (listed.setIfInBounds i10 true)) a w:=by
 refine wpOp_of ho hg ?_
 unfold Oper.wp
 have hm:=h.fits m hf
 rw [hk] at hm
 obtain ⟨b,e,eb⟩:=hm
 have hx:=h.fits x hfx
 rw [hkx] at hx
 have hx:a.tmps.getD x undef=exK:=hx
 obtain ⟨h1,n,D,h3,h4,h5⟩:=h.main b eb
 obtain ⟨w',hrun,hM,hG⟩:=h3.update (t:=146) (e:=144) keyInt Tryz.underlying146 (by unfold maxLen;omega) (keyMk 10 (by decide)) (val:=exK) rfl
 simp [execOp,hop,eval_tmp,eval_const,e,hx,hrun,Result.andThen]
 have hG':Only b w w':=hG
 refine h.step hi ho _ w' bm (fun d e=>by rw [hd] at e;cases e) (h.ext.only hG' h1) (fun g t cs hb=>blk_only hb h3 hG') ?_ (fun _ e=>e) ?_ (fst_keep h) (fun _=>by rw [eb];rfl)
 ·rintro b' ⟨g1,g2,n',D',g3,g4,g5⟩
  exact ⟨g1,g2,n',D',g3.only hG' (fun ee=>g2 (by rw [eb,ee])),by omega,g5⟩
 ·intro b' eb'
  rw [eb] at eb'
  cases eb'
  exact ⟨h1,n+1,_,hM,by omega,fun _=>⟨Maps.has_put_same h3.isMap key10 _,fun z=>Maps.atKey_put_same h3.isMap key10 _ z⟩⟩
theorem st_sl1 (h:RInv c sk i10 ops (f+1) listed bm a w) (hi:i ∈ Region.ready .any ops listed) (ho:ops[i]? = some o) (hg:o.guard=none) (m0:Nat) (d:Nat) (hop:o.op = .buildSlice 206 1 #[(0,.const (.int .i64 (m0:Nat)))]) (hne:i≠i10) (hd:DstOK o d) (hk:sk d = .sl) (hm:m0<13) :
  wpOp Tryz.prog ops Q i (RAt c sk i10 ops f (listed.setIfInBounds i true)) a w:=by
 refine wpOp_of ho hg ?_
 have key:RAt c sk i10 ops f (listed.setIfInBounds i true) (a.put o.dst (.slice (some ⟨w.heap.size,0,none⟩) 1 1)) (w.alloc (.cells #[.int .i64 (m0:Nat)] 3)) :=
  h.grow hi ho hne _ _ (Ext.new _ _) (dst_of hd (by rw [hk];exact ⟨[m0],by simpa using hm,by simp,_,rfl,Blk.new _ _ _⟩))
 rw [hd.1] at key
 unfold Oper.wp
 simp only [execOp,hop]
 go_simp
 exact key
theorem st_sl2 (h:RInv c sk i10 ops (f+1) listed bm a w) (hi:i ∈ Region.ready .any ops listed) (ho:ops[i]? = some o) (hg:o.guard=none) (m0 m1:Nat) (d:Nat) (hop:o.op = .buildSlice 206 2 #[(0,.const (.int .i64 (m0:Nat))),(1,.const (.int .i64 (m1:Nat)))]) (hne:i≠i10) (hd:DstOK o d) (hk:sk d = .sl) (hm:m0<13∧m1<13) :
  wpOp Tryz.prog ops Q i (RAt c sk i10 ops f (listed.setIfInBounds i true)) a w:=by
 refine wpOp_of ho hg ?_
 have key:RAt c sk i10 ops f (listed.setIfInBounds i true) (a.put o.dst (.slice (some ⟨w.heap.size,0,none⟩) 2 2)) (w.alloc (.cells #[.int .i64 (m0:Nat),.int .i64 (m1:Nat)] 3)) :=
  h.grow hi ho hne _ _ (Ext.new _ _) (dst_of hd (by rw [hk];exact ⟨[m0,m1],by simpa using hm,by simp,_,rfl,Blk.new _ _ _⟩))
 rw [hd.1] at key
 unfold Oper.wp
 simp only [execOp,hop]
 go_simp
 exact key
theorem st_sl3 (h:RInv c sk i10 ops (f+1) listed bm a w) (hi:i ∈ Region.ready .any ops listed) (ho:ops[i]? = some o) (hg:o.guard=none) (m0 m1 m2:Nat) (d:Nat) (hop:o.op = .buildSlice 206 3 #[(0,.const (.int .i64 (m0:Nat))),(1,.const (.int .i64 (m1:Nat))),(2,.const (.int .i64 (m2:Nat)))]) (hne:i≠i10) (hd:DstOK o d) (hk:sk d = .sl) (hm:m0<13∧m1<13∧m2<13) :
  wpOp Tryz.prog ops Q i (RAt c sk i10 ops f (listed.setIfInBounds i true)) a w:=by
 refine wpOp_of ho hg ?_
 have key:RAt c sk i10 ops f (listed.setIfInBounds i true) (a.put o.dst (.slice (some ⟨w.heap.size,0,none⟩) 3 3)) (w.alloc (.cells #[.int .i64 (m0:Nat),.int .i64 (m1:Nat),.int .i64 (m2:Nat)] 3)) :=
  h.grow hi ho hne _ _ (Ext.new _ _) (dst_of hd (by rw [hk];exact ⟨[m0,m1,m2],by simpa using hm,by simp,_,rfl,Blk.new _ _ _⟩))
 rw [hd.1] at key
 unfold Oper.wp
 simp only [execOp,hop]
 go_simp
 exact key
theorem st_slx (h:RInv c sk i10 ops (f+1) listed bm a w) (hi:i ∈ Region.ready .any ops listed) (ho:ops[i]? = some o) (hg:o.guard=none) (d:Nat) (hop:o.op = .buildSlice 206 2 #[(0,.const (.int .i64 0)),(1,.const (.int .i64 11))]) (hne:i≠i10) (hd:DstOK o d) (hk:sk d = .sx) :
  wpOp Tryz.prog ops Q i (RAt c sk i10 ops f (listed.setIfInBounds i true)) a w:=by
 refine wpOp_of ho hg ?_
 have key:RAt c sk i10 ops f (listed.setIfInBounds i true) (a.put o.dst (.slice (some ⟨w.heap.size,0,none⟩) 2 2)) (w.alloc (.cells #[.int .i64 0,.int .i64 11] 3)) :=
  h.grow hi ho hne _ _ (Ext.new _ _) (dst_of hd (by rw [hk];exact ⟨_,rfl,Blk.new _ _ _⟩))
 rw [hd.1] at key
 unfold Oper.wp
 simp only [execOp,hop]
 go_simp
 exact key
theorem SlAt.rdi {w:World} {v:Value} {ms:List Nat} (h:SlAt w v ms):∃ g,v = .slice (some ⟨g,0,none⟩) ms.length ms.length∧RdI w (some ⟨g,0,none⟩) ms:=by
 obtain ⟨g,e,hb⟩:=h
 exact ⟨g,e,by simp [icells],fun _=>⟨g,0,rfl,hb.lt,fun j u hu=>by rw [Nat.zero_add,hb.cell j,List.getElem?_toArray];exact hu⟩⟩
theorem exec_call {fn:Nat} {cb:Array Value} (ek:∀ args w,(callFunc fn args).run Tryz.prog w = .ok (.enter fn args) w) {s:Operand} {args:Array Operand} {tt:Array TypeId} (hop:o.op = .call { callee := .value s,args:=args,argTypes:=tt }) (hs:a.eval s = .func (.func fn) #[] cb) :
  (execOp a.eval o).run Tryz.prog w = .ok (.enter fn (args.map a.eval++cb)) w:=by
 simp only [execOp,hop]
 simp [resolve,invoke,hs,Deferred.ofValue,ek]
theorem kd_fit {c:RC} {f:Nat} {bm:Option Nat} {w w':World} {e:Ending} (h:KindEnds w e w'):∃ v,e = .returned v∧Fit c f bm w' .kd v∧Ext w w':=by
 obtain ⟨word,cl,bits,num,code,h1,h2,rfl,hx⟩:=h
 exact ⟨_,rfl,⟨word,cl,bits,num,code,h1,h2,rfl⟩,hx⟩
theorem st_am (h:RInv c sk i10 ops (f+1) listed bm a w) (hi:i ∈ Region.ready .any ops listed) (ho:ops[i]? = some o) (hg:o.guard=none) (s d:Nat) (x:ByteArray) (tt:Array TypeId) (hop:o.op = .call { callee := .value (.tmp s),args:=#[.const (.string x)],argTypes:=tt }) (hne:i≠i10) (hd:DstOK o d) (hk:sk d = .kd)
  (hf:Filled ops listed s) (hks:sk s = .am) :
  wpOp Tryz.prog ops Q i (RAt c sk i10 ops f (listed.setIfInBounds i true)) a w:=by
 refine wpOp_of ho hg ?_
 have hs:=h.fits s hf
 rw [hks] at hs
 have hs:a.eval (.tmp s)=c.amV:=hs
 have HC:=kinds2 x.data.toList c.G3 c.G1 c.lvP w h.b3 h.b1
 rw [← bs_data] at HC
 unfold Oper.wp
 rw [exec_call (fun _ _=>rfl) hop hs]
 have ea:(#[Operand.const (.string x)]:Array Operand).map a.eval++#[Value.pointer (some ⟨c.G3,0,none⟩),Value.pointer (some ⟨c.G1,0,none⟩)]=#[.string x,.pointer (some ⟨c.G3,0,none⟩),.pointer (some ⟨c.G1,0,none⟩)]:=by
  simp [eval_const]
 rw [ea]
 refine HC.mono ?_
 intro e w' hE
 obtain ⟨v,rfl,hv,hx⟩:=kd_fit (c:=c) (f:=f) (bm:=bm) hE
 exact h.grow hi ho hne v w' hx (dst_of hd (by rw [hk];exact hv))
theorem st_mk (h:RInv c sk i10 ops (f+1) listed bm a w) (hi:i ∈ Region.ready .any ops listed) (ho:ops[i]? = some o) (hg:o.guard=none) (s m l d:Nat) (x:ByteArray) (cl:Int) (tt:Array TypeId) (hop:o.op = .call { callee := .value (.tmp s),args:=#[.const (.string x),.const (.int .i64 cl),.tmp m,.tmp l],argTypes:=tt }) (hne:i≠i10) (hd:DstOK o d) (hk:sk d = .kd)
  (hf:Filled ops listed s) (hks:sk s = .mk) (hfm:Filled ops listed m) (hkm:sk m = .nm) (hfl:Filled ops listed l) (hkl:sk l = .sl) :
  wpOp Tryz.prog ops Q i (RAt c sk i10 ops f (listed.setIfInBounds i true)) a w:=by
 refine wpOp_of ho hg ?_
 have hs:=h.fits s hf
 rw [hks] at hs
 have hs:a.eval (.tmp s)=makerV:=hs
 have hm:=h.fits m hfm
 rw [hkm] at hm
 obtain ⟨b,em,h1,h2,n,D,h3,h4,h5⟩:=hm
 have hl:=h.fits l hfl
 rw [hkl] at hl
 obtain ⟨ms,hms,hml,hsl⟩:=hl
 obtain ⟨g,el,hr⟩:=hsl.rdi
 have HC:=kindsMap x.data.toList cl b n D ms _ ms.length w h3 h5 hr hms hml
 rw [← bs_data] at HC
 unfold Oper.wp
 rw [exec_call (fun _ _=>rfl) hop hs]
 have ea:(#[Operand.const (.string x),.const (.int .i64 cl),.tmp m,.tmp l]:Array Operand).map a.eval++#[]=#[.string x,.int .i64 cl,.map (some b),.slice (some ⟨g,0,none⟩) ms.length ms.length]:=by
  simp [eval_tmp,eval_const,em,el]
 rw [ea]
 refine HC.mono ?_
 rintro e w' ⟨bits,hbl,rfl,hx⟩
 exact h.grow hi ho hne _ w' hx (dst_of hd (by rw [hk];exact ⟨_,_,_,_,_,hbl,rfl,rfl⟩))
theorem st_mkn (h:RInv c sk i10 ops (f+1) listed bm a w) (hi:i ∈ Region.ready .any ops listed) (ho:ops[i]? = some o) (hg:o.guard=none) (s l d:Nat) (x:ByteArray) (cl:Int) (tt:Array TypeId) (hop:o.op = .call { callee := .value (.tmp s),args:=#[.const (.string x),.const (.int .i64 cl),.const (.map none),.tmp l],argTypes:=tt }) (hne:i≠i10) (hd:DstOK o d) (hk:sk d = .kd)
  (hf:Filled ops listed s) (hks:sk s = .mk) (hfl:Filled ops listed l) (hkl:sk l = .sl) :
  wpOp Tryz.prog ops Q i (RAt c sk i10 ops f (listed.setIfInBounds i true)) a w:=by
 refine wpOp_of ho hg ?_
 have hs:=h.fits s hf
 rw [hks] at hs
 have hs:a.eval (.tmp s)=makerV:=hs
 have hl:=h.fits l hfl
 rw [hkl] at hl
 obtain ⟨ms,hms,hml,hsl⟩:=hl
 obtain ⟨g,el,hr⟩:=hsl.rdi
 have HC:=kindsNil x.data.toList cl ms _ ms.length w hr hms hml
 rw [← bs_data] at HC
 unfold Oper.wp
 rw [exec_call (fun _ _=>rfl) hop hs]
 have ea:(#[Operand.const (.string x),.const (.int .i64 cl),.const (.map none),.tmp l]:Array Operand).map a.eval++#[]=#[.string x,.int .i64 cl,.map none,.slice (some ⟨g,0,none⟩) ms.length ms.length]:=by
  simp [eval_tmp,eval_const,el]
 rw [ea]
 refine HC.mono ?_
 rintro e w' ⟨rfl,hx⟩
 exact h.grow hi ho hne _ w' hx (dst_of hd (by rw [hk];exact ⟨_,_,_,_,_,by rw [setAll_len];rfl,rfl,rfl⟩))
theorem st_ex (h:RInv c sk i10 ops (f+1) listed bm a w) (hi:i ∈ Region.ready .any ops listed) (ho:ops[i]? = some o) (hg:o.guard=none) (s l d:Nat) (tt:Array TypeId) (hop:o.op = .call { callee := .value (.tmp s),args:=#[.const (.string (bs [101,120,99,104,97,110,103,101])),.const (.int .i64 1),.const (.map none),.tmp l],argTypes:=tt }) (hne:i≠i10) (hd:DstOK o d) (hk:sk d = .ex)
  (hf:Filled ops listed s) (hks:sk s = .mk) (hfl:Filled ops listed l) (hkl:sk l = .sx) :
  wpOp Tryz.prog ops Q i (RAt c sk i10 ops f (listed.setIfInBounds i true)) a w:=by
 refine wpOp_of ho hg ?_
 have hs:=h.fits s hf
 rw [hks] at hs
 have hs:a.eval (.tmp s)=makerV:=hs
 have hl:=h.fits l hfl
 rw [hkl] at hl
 have hsl:SlAt w (a.tmps.getD l undef) [0,11]:=hl
 obtain ⟨g,el,hr⟩:=hsl.rdi
 have HC:=kindsNil [101,120,99,104,97,110,103,101] 1 [0,11] _ 2 w hr (by decide) (by decide)
 unfold Oper.wp
 rw [exec_call (fun _ _=>rfl) hop hs]
 have ea:(#[Operand.const (.string (bs [101,120,99,104,97,110,103,101])),.const (.int .i64 1),.const (.map none),.tmp l]:Array Operand).map a.eval++#[]=#[.string (bs [101,120,99,104,97,110,103,101]),.int .i64 1,.map none,.slice (some ⟨g,0,none⟩) 2 2]:=by
  simp [eval_tmp,eval_const,el]
 rw [ea]
 refine HC.mono ?_
 rintro e w' ⟨rfl,hx⟩
 exact h.grow hi ho hne _ w' hx (dst_of hd (by rw [hk];rfl))
theorem st_wc (h:RInv c sk i10 ops (f+1) listed bm a w) (hi:i ∈ Region.ready .any ops listed) (ho:ops[i]? = some o) (hg:o.guard=none) (s x d:Nat) (tt:Array TypeId) (hop:o.op = .call { callee := .value (.tmp s),args:=#[.tmp x],argTypes:=tt }) (hne:i≠i10) (hd:DstOK o d) (hk:sk d = .kd)
  (hf:Filled ops listed s) (hks:sk s = .wc) (hfx:Filled ops listed x) (hkx:sk x = .kd) :
  wpOp Tryz.prog ops Q i (RAt c sk i10 ops f (listed.setIfInBounds i true)) a w:=by
 refine wpOp_of ho hg ?_
 have hs:=h.fits s hf
 rw [hks] at hs
 have hs:a.eval (.tmp s)=wcV:=hs
 have hx:=h.fits x hfx
 rw [hkx] at hx
 obtain ⟨word,cl,bits,num,code,h1,h2,ex⟩:=hx
 have HC:=kinds3 word cl bits num code w h1 h2
 unfold Oper.wp
 rw [exec_call (fun _ _=>rfl) hop hs]
 have ea:(#[Operand.tmp x]:Array Operand).map a.eval++#[]=#[kv word cl bits num code]:=by
  simp [eval_tmp,ex]
 rw [ea]
 refine HC.mono ?_
 intro e w' hE
 obtain ⟨v,rfl,hv,hx⟩:=kd_fit (c:=c) (f:=f) (bm:=bm) hE
 exact h.grow hi ho hne v w' hx (dst_of hd (by rw [hk];exact hv))
theorem st_bt (h:RInv c sk i10 ops (f+1) listed bm a w) (hi:i ∈ Region.ready .any ops listed) (ho:ops[i]? = some o) (hg:o.guard=none) (d:Nat) (p q:Bool) (tt:Array TypeId) (hop:o.op = .call { callee := .value (.func 150),args:=#[.const (.bool p),.const (.bool q)],argTypes:=tt }) (hne:i≠i10) (hd:DstOK o d) (hk:sk d = .lv) :
  wpOp Tryz.prog ops Q i (RAt c sk i10 ops f (listed.setIfInBounds i true)) a w:=by
 refine wpOp_of ho hg ?_
 unfold Oper.wp
 rw [exec_call (cb:=#[]) (fun _ _=>rfl) hop rfl]
 have ea:(#[Operand.const (.bool p),.const (.bool q)]:Array Operand).map a.eval++#[]=#[.bool p,.bool q]:=by
  simp [eval_const]
 rw [ea]
 refine (fkBetween p q w).mono ?_
 rintro e w' ⟨rfl,_,_,hx⟩
 exact h.grow hi ho hne _ w' hx (dst_of hd (by rw [hk];trivial))
end
end
end Go.Proofs.YthgpheopnhajaaaGreatDoor
