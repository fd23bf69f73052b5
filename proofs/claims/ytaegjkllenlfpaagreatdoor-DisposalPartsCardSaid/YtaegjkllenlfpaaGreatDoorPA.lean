/- The seat's texts, part PA. -/
import Derived.Test.YtaegjkllenlfpaaGreatDoorP8
import Derived.Test.YtaegjkllenlfpaaGreatDoorP21
import Derived.Test.YtaegjkllenlfpaaGreatDoorP31
import Derived.Test.YtaegjkllenlfpaaGreatDoorP34
import Derived.Test.YtaegjkllenlfpaaGreatDoorPG
import Derived.Test.YtaegjkllenlfpaaGreatDoorPC
set_option maxRecDepth 100000
set_option maxHeartbeats 8000000
namespace Go.Proofs.YtaegjkllenlfpaaGreatDoor
section
open Go.RowKit Go.Shelf
attribute [local go_sem] size_bs toList_bs
theorem qA{fn:Func}{t u v x:Tmp}(h:fn.results=#[.tmp t,.tmp u,.tmp v,.tmp x])(tmps:Array Value)(P:Program)(w:World) :
  (results fn tmps).run P w = .ok (.tuple #[tmps.getD t undef,tmps.getD u undef,tmps.getD v undef,tmps.getD x undef]) w:=by
 simp[results,h]
def bR(g:GainV):Bool:=eE g != 0
theorem FP(g:GainV)(hs:SmallG g)(w:World)(hE:Env w):Calls Tryz.prog 111 (#[nk g]++#[]) w fun e w'=>e = .returned (.bool (bR g))∧Ext w w':=by
 have HE:=qh hE;have HC:=qh (rL g hs);have HWR:Hid ((eE g != 0)=bR g):=qh rfl;have HB:=qh (Blk.new w 60 (dr g));have HX:Hid (Ext w (w.alloc (.cells (dr g) 60))):=qh (Ext.new _ _);obtain⟨g0,g1,g2,g3,g4,g5,g6,g7,g8,g9⟩:=be HB.out (Ext.refl _);clear hE hs;generalize bR g=b at *;generalize eE g=z at *;obtain⟨gk,gl,gi,ga,gc',gq,gp,gco,gd,gr⟩:=g;simp only at *;go_enter Tryz.func111,Tryz.ntmps111;go_wp2_with fail;refine(HC.out _ (HE.out.ext HX.out)).mono ?_;rintro e w1⟨rfl,hx1⟩;replace HX:=HX.qt hx1;clear hx1;go_wp2_with fail;go_ret;exact⟨by rw[←HWR.out];rfl,HX.out⟩
theorem uY(gs:List GainV)(A:Option Addr)(c:Nat)(w:World)(hE:Env w)(hA:fG w A gs)(hs:∀g ∈ gs,SmallG g)(hn:gs.length≤100000) :
  Calls Tryz.prog 31 #[.slice A gs.length c,.func (.func 111) #[] #[]] w fun e w'=>e = .returned (.bool (gs.any bR))∧Ext w w' :=
 lM 111 #[] (fun _ _=>by rfl) bR gs A c w hA (by omega) (fun x hx W hxx=>FP x (hs x hx) W (hE.ext hxx))
def eH(g:GainV):Bs:=af (valI g.p-valI g.c+valI g.d)
def qB(g:GainV):Value:=if eE g≠0 then .tuple #[.string ⟨#[]⟩,.int .i64 1] else .tuple #[.string (bs (eH g)),.int .i64 0]
theorem IE(g:GainV)(hs:SmallG g):cu 44 #[nk g] (qB g):=by
 intro w hE;have HE:=qh hE;have HC:=qh (rL g hs);have hl:=mo (x:=g.p) (y:=g.c) (L:=1000) hs.p hs.c;have C1:=qh (j8 g.p g.c (by have:=hs.p;omega) (by have:=hs.c;omega));have c2:=eS (af (valI g.p-valI g.c)) g.d (by omega) (by have:=hs.d;omega);rw[ah,show af (valI g.p-valI g.c+valI g.d)=eH g from rfl]at c2;have C2:=qh c2;have HV:Hid (qB g=if eE g≠0 then .tuple #[.string ⟨#[]⟩,.int .i64 1] else .tuple #[.string (bs (eH g)),.int .i64 0]):=qh rfl;have HB:=qh (Blk.new w 60 (dr g));have HX:Hid (Ext w (w.alloc (.cells (dr g) 60))):=qh (Ext.new _ _);obtain⟨g0,g1,g2,g3,g4,g5,g6,g7,g8,g9⟩:=be HB.out (Ext.refl _);clear hE hs hl c2;generalize qB g=rv at *;generalize eH g=rb at *;generalize af (valI g.p-valI g.c)=sb at *;generalize eE g=z at *;obtain⟨gk,gl,gi,ga,gc',gq,gp,gco,gd,gr⟩:=g;simp only at *;go_enter Tryz.func44,Tryz.ntmps44;go_wp2_with fail;refine(HC.out _ (HE.out.ext HX.out)).mono ?_;rintro e w1⟨rfl,hx1⟩;replace HB:=qh (HB.out.ext hx1);replace HX:=HX.qt hx1;clear hx1 g0 g1 g2 g3 g4 g5 g6 g7 g8 g9;obtain⟨_,_,_,_,_,_,g6,g7,g8,_⟩:=be HB.out (Ext.refl _);by_cases hz:z=0
 ·have hv:=HV.out;rw[if_neg (by simpa using hz)]at hv;subst hv hz;clear HV HC;go_upto_region 3 with fail;generalize hG:w.heap.size=G at *;have HD:Hid (Ext w1 w1.drew):=qh (Ext.refl w1).drew
  go_region_held3 (fun w'=>w'.cell? ⟨G,6,none⟩=some (.string (bs gp))∧w'.cell? ⟨G,7,none⟩=some (.string (bs gco))∧w'.cell? ⟨G,8,none⟩=some (.string (bs gd)))
   (go_keep)
   (first
    |(go_at_call 18;((with_reducible refine(C1.out _ (HE.out.ext (HX.out.trans HD.out))).mono ?_);rintro e w5⟨rfl,hx⟩);(replace HD:=HD.qt hx);(obtain⟨_,_,_,_,_,_,g6,g7,g8,_⟩:=be HB.out HD.out);clear hx)
    |(go_at_call 19;((with_reducible refine(C2.out _ (HE.out.ext (HX.out.trans HD.out))).mono ?_);rintro e w5⟨rfl,hx⟩);(replace HD:=HD.qt hx);(obtain⟨_,_,_,_,_,_,g6,g7,g8,_⟩:=be HB.out HD.out);clear hx)
    |fail)
  all_goals
   go_wp2_with fail;go_ret2;exact⟨rfl,HX.out.trans HD.out⟩
 ·have hv:=HV.out;rw[if_pos hz]at hv;subst hv;have hz2:(z != 0)=true:=by rw[bne_iff_ne];exact hz
  clear HV HC hz;go_wp2_with fail;go_ret2;exact⟨rfl,HX.out⟩
def uZ(gs:List GainV):Value:=if gs.any bR=true then .tuple #[.string ⟨#[]⟩,.string ⟨#[]⟩,.string ⟨#[]⟩,.int .i64 1] else .tuple #[.string (bs (af (aI (·.p) gs))),.string (bs (af (aI (·.c) gs))),.string (bs (af (aI (·.d) gs))),.int .i64 0]
theorem FQ(gs:List GainV)(A:Option Addr)(c:Nat)(w:World)(hE:Env w)(hA:fG w A gs)(hs:∀g ∈ gs,SmallG g)(hn:gs.length≤100000) :
  Calls Tryz.prog 37 #[.slice A gs.length c] w fun e w'=>e = .returned (uZ gs)∧Ext w w':=by
 have HC:=qh (uY gs A c w hE hA hs hn);have HE:=qh hE;have HA:=qh hA;have HS:=qh hs;have HV:Hid (uZ gs=if gs.any bR=true then .tuple #[.string ⟨#[]⟩,.string ⟨#[]⟩,.string ⟨#[]⟩,.int .i64 1] else .tuple #[.string (bs (af (aI (·.p) gs))),.string (bs (af (aI (·.c) gs))),.string (bs (af (aI (·.d) gs))),.int .i64 0]):=qh rfl;have HL1:=qh (eD (f:=(·.p)) (L:=1000) (fun g hg=>(hs g hg).p) hn);have HL2:=qh (eD (f:=(·.c)) (L:=1000) (fun g hg=>(hs g hg).c) hn);have HL3:=qh (eD (f:=(·.d)) (L:=1000) (fun g hg=>(hs g hg).d) hn);clear hE hA hs;generalize uZ gs=tv at *;generalize gs.any bR=b at *;go_enter Tryz.func37,Tryz.ntmps37;go_wp2_with fail;refine HC.out.mono ?_;rintro e w1⟨rfl,hx1⟩;have HX0:=qh hx1;clear hx1 HC
 cases b;rotate_left
 ·have hv:=HV.out;rw[if_pos rfl]at hv;subst hv;go_wp2_with fail;refine bodyPost_ret (qA rfl _ _ _) rfl ?_;exact⟨rfl,HX0.out⟩
 have hv:=HV.out;rw[if_neg (by decide)]at hv;subst hv;clear HV;go_wp2_with fail;go_loopw [15,6,7,8] (fun i v6 v7 v8 wr=>∃k:Nat,k≤gs.length∧i = .int .i64 k∧v6 = .string (bs (af (aI (·.p) (gs.take k))))∧v7 = .string (bs (af (aI (·.c) (gs.take k))))∧v8 = .string (bs (af (aI (·.d) (gs.take k))))∧Ext w wr) (fun i _ _ _ _=>gs.length-(intOf i).toNat)
 case atStart=>exact⟨0,by omega,rfl,by simp[aI,de.2 rfl];rfl,by simp[aI,de.2 rfl];rfl,by simp[aI,de.2 rfl];rfl,HX0.out⟩
 case round =>
  obtain⟨k,hk,rfl,rfl,rfl,rfl,hx⟩:=hrel;have HX:=qh hx;clear hx;by_cases hlt:k<gs.length
  ·obtain⟨b,o,rfl,hb,c0,c1,c2,c3,c4,c5,c6,c7,c8,c9⟩:=(HA.out.ext HX.out).at_ hlt;have hki:(k:Int)<(gs.length:Int):=by omega
   have hk0:(0:Int)≤(k:Int):=by omega
   have hsm:=HS.out _ (List.getElem_mem hlt);have l1:=HL1.out k;have l2:=HL2.out k;have l3:=HL3.out k;have a1:=eS (af (aI (·.p) (gs.take k))) (gs[k]'hlt).p (by omega) (by have:=hsm.p;omega);have a2:=eS (af (aI (·.c) (gs.take k))) (gs[k]'hlt).c (by omega) (by have:=hsm.c;omega);have a3:=eS (af (aI (·.d) (gs.take k))) (gs[k]'hlt).d (by omega) (by have:=hsm.d;omega);rw[ah,←gD (f:=(·.p)) hlt]at a1;rw[ah,←gD (f:=(·.c)) hlt]at a2;rw[ah,←gD (f:=(·.d)) hlt]at a3;have A1:=qh a1;have A2:=qh a2;have A3:=qh a3;clear hsm l1 l2 l3 a1 a2 a3;have HG:=qh (Blk.new wr 60 (dr (gs[k]'hlt)));replace HX:=qh (HX.out.alloc (.cells (dr (gs[k]'hlt)) 60));generalize (gs[k]'hlt)=x at *;generalize hq1:af (aI (·.p) (gs.take (k+1)))=q1 at *;generalize hq2:af (aI (·.c) (gs.take (k+1)))=q2 at *;generalize hq3:af (aI (·.d) (gs.take (k+1)))=q3 at *;have HQ1:=qh hq1;have HQ2:=qh hq2;have HQ3:=qh hq3;clear hq1 hq2 hq3;generalize af (aI (·.p) (gs.take k))=z1 at *;generalize af (aI (·.c) (gs.take k))=z2 at *;generalize af (aI (·.d) (gs.take k))=z3 at *;obtain⟨gk,gl,gi,ga,gc',gq,gp,gco,gd,gr⟩:=x;simp only at *;go_upto_region 7 with fail;clear c0 c1 c2 c3 c4 c5 c6 c7 c8 c9;generalize wr.alloc (.cells #[.string (bs gk),.string (bs gl),.string (bs gi),.int .i64 ga,.int .i64 gc',.string (bs gq),.string (bs gp),.string (bs gco),.string (bs gd),.string (bs gr)] 60)=W at *;generalize wr.heap.size=G at *;obtain⟨_,_,_,_,_,_,p6,p7,p8,_⟩:=be HG.out (Ext.refl _);have HD:Hid (Ext W W.drew):=qh (Ext.refl W).drew
   go_region_held3 (fun w'=>w'.cell? ⟨G,6,none⟩=some (.string (bs gp))∧w'.cell? ⟨G,7,none⟩=some (.string (bs gco))∧w'.cell? ⟨G,8,none⟩=some (.string (bs gd)))
    (go_keep)
    (first
     |(go_at_call 19;((with_reducible refine(A1.out _ (HE.out.ext (HX.out.trans HD.out))).mono ?_);rintro e w5⟨rfl,hx⟩);(replace HD:=HD.qt hx);(obtain⟨_,_,_,_,_,_,p6,p7,p8,_⟩:=be HG.out HD.out);clear hx)
     |(go_at_call 19;((with_reducible refine(A2.out _ (HE.out.ext (HX.out.trans HD.out))).mono ?_);rintro e w5⟨rfl,hx⟩);(replace HD:=HD.qt hx);(obtain⟨_,_,_,_,_,_,p6,p7,p8,_⟩:=be HG.out HD.out);clear hx)
     |(go_at_call 19;((with_reducible refine(A3.out _ (HE.out.ext (HX.out.trans HD.out))).mono ?_);rintro e w5⟨rfl,hx⟩);(replace HD:=HD.qt hx);(obtain⟨_,_,_,_,_,_,p6,p7,p8,_⟩:=be HG.out HD.out);clear hx)
     |fail)
   all_goals
    go_wp2_with fail;exact⟨⟨k+1,by omega,by go_num,by rw[HQ1.out],by rw[HQ2.out],by rw[HQ3.out],HX.out.trans HD.out⟩,by simp[intOf];omega⟩
  ·have hkk:k=gs.length:=by omega
   subst hkk;rw[List.take_length];go_wp2_with fail;refine bodyPost_ret (qA rfl _ _ _) rfl ?_;exact⟨rfl,HX.out⟩
def yj(w:World)(base:Nat)(v:Value)(gs:List GainV):Prop:=w.ownsRow base 60 10 v gs.length (gs.flatMap bV)
def IG(gs:List GainV)(w:World)(e:Ending)(w':World):Prop:=∃A c,e = .returned (.slice A gs.length c)∧fG w' A gs∧Ext w w'
def fL(gs:List GainV)(ins:Bs):List GainV:=gs.filter (fun x=>decide (x.ins=ins))
theorem jQ{p:GainV→Bool}{gs:List GainV}{k:Nat}(hk:k<gs.length)(h:p (gs[k]'hk)=true):(gs.take (k+1)).filter p=(gs.take k).filter p++[gs[k]'hk]:=by
 rw[List.take_succ_eq_append_getElem hk,List.filter_append];simp[h]
theorem jp{p:GainV→Bool}{gs:List GainV}{k:Nat}(hk:k<gs.length)(h:p (gs[k]'hk)=false):(gs.take (k+1)).filter p=(gs.take k).filter p:=by
 rw[List.take_succ_eq_append_getElem hk,List.filter_append];simp[h]
theorem Lo(gs:List GainV)(A:Option Addr)(c:Nat)(ins:Bs)(w:World)(hA:fG w A gs)(hn:gs.length≤100000) :
  Calls Tryz.prog 42 #[.slice A gs.length c,.string (bs ins)] w (IG (fL gs ins) w):=by
 have HA:=qh hA;obtain⟨i0,hI,hz0,hz1,hz2⟩:=info_parts ph;have HI:=qh hI;clear hA hI;go_enter Tryz.func42,Tryz.ntmps42;go_wp2_with fail;go_loopw [10,5] (fun i v wr=>∃k A5 c5,k≤gs.length∧i = .int .i64 (k:Nat)∧v = .slice A5 (fL (gs.take k) ins).length c5∧yj wr w.heap.size v (fL (gs.take k) ins)∧Ext w wr) (fun i _ _=>gs.length-(intOf i).toNat)
 case atStart=>exact⟨0,none,0,by omega,rfl,rfl,World.ownsRow_nil _ _ _ _,Ext.refl _⟩
 case round =>
  obtain⟨k,A5,c5,hk,rfl,rfl,ho,hx⟩:=hrel;have HX:=qh hx;have HO:=qh ho;clear hx ho;by_cases hlt:k<gs.length
  ·obtain⟨b,o,rfl,hb,d0,d1,d2,d3,d4,d5,d6,d7,d8,d9⟩:=(HA.out.ext HX.out).at_ hlt;have hki:(k:Int)<(gs.length:Int):=by omega
   have hk0:(0:Int)≤(k:Int):=by omega
   have hhit:=fun h=>jQ (p:=fun x=>decide (x.ins=ins)) hlt h
   have hskip:=fun h=>jp (p:=fun x=>decide (x.ins=ins)) hlt h
   have hkl:(fL (gs.take k) ins).length≤100000:=by
    have h1:(fL (gs.take k) ins).length≤(gs.take k).length:=List.length_filter_le _ _;rw[List.length_take]at h1;omega
   generalize (gs[k]'hlt)=x at *;obtain⟨gk,gl,gi,ga,gc',gq,gp,gco,gd,gr⟩:=x;simp only at d0 d1 d2 d3 d4 d5 d6 d7 d8 d9 hhit hskip;have BX:=qh (Blk.new wr 60 (dr ⟨gk,gl,gi,ga,gc',gq,gp,gco,gd,gr⟩));have HX3:=qh (HX.out.trans (Ext.new wr (.cells (dr ⟨gk,gl,gi,ga,gc',gq,gp,gco,gd,gr⟩) 60)));have HO3:=qh (own_ext2 HO.out (Ext.new wr (.cells (dr ⟨gk,gl,gi,ga,gc',gq,gp,gco,gd,gr⟩) 60)));go_upto_region 5 with fail;generalize wr.alloc (.cells #[.string (bs gk),.string (bs gl),.string (bs gi),.int .i64 ga,.int .i64 gc',.string (bs gq),.string (bs gp),.string (bs gco),.string (bs gd),.string (bs gr)] 60)=w5 at *;generalize wr.heap.size=X8 at *;obtain⟨g0,g1,g2,g3,g4,g5,g6,g7,g8,g9⟩:=be BX.out (Ext.refl _);clear d0 d1 d2 d3 d4 d5 d6 d7 d8 d9 HO HX;by_cases hi:gi=ins
   ·have HH:=qh (hhit (by simpa using hi));have hbe:(gi == ins)=true:=by rw[beq_iff_eq];exact hi
    clear hhit hskip hi;have HO4:=qh (own_ext2 HO3.out (Ext.new w5 (.cells #[.string (bs gk),.string (bs gl),.string (bs gi),.int .i64 ga,.int .i64 gc',.string (bs gq),.string (bs gp),.string (bs gco),.string (bs gd),.string (bs gr)] 60)));have HX4:=qh (HX3.out.trans (Ext.new w5 (.cells #[.string (bs gk),.string (bs gl),.string (bs gi),.int .i64 ga,.int .i64 gc',.string (bs gq),.string (bs gp),.string (bs gco),.string (bs gd),.string (bs gr)] 60)));have hsz:=HX4.out.size;have hlow:=mD HO4.out;go_upto_region 6 with fail;go_wp2_with (at_builtin;go_must (refine wpList_append_own _ rfl (.tmp 18) (.tmp 20) 35 rfl w.heap.size 60 i0 _ 10 144 Tryz.underlying35 HI.out hz0 hz1 hz2 rfl (by decide) _ _ _ rfl HO4.out ⟨w5.heap.size,0,none⟩ 1 1 (bV ⟨gk,gl,gi,ga,gc',gq,gp,gco,gd,gr⟩) rfl rfl (World.news_of_block (heap_alloc_new w5 _)) (tP _) (by simp only[maxLen];omega) (by omega) hsz ?_);intro v2 w' hown' hgrow hnil;(obtain⟨A3,c3,rfl⟩:=bz hown');clear hnil;(have HO5:=qh hown');(have HX5:=qh (HX4.out.grown hgrow hlow)));have HE5:Hid (fL (gs.take (k+1)) ins=fL (gs.take k) ins++[⟨gk,gl,gi,ga,gc',gq,gp,gco,gd,gr⟩]):=qh HH.out;go_roundw
    case rel=>exact⟨k+1,A3,c3,by omega,by go_num,by rw[HE5.out,List.length_append];rfl,by unfold yj;rw[HE5.out,qI,List.length_append];exact HO5.out,HX5.out⟩
    case measure=>simp[intOf];omega
   ·have HH:=qh (hskip (by simpa using hi));have hbe:(gi == ins)=false:=by rw[beq_eq_false_iff_ne];exact hi
    clear hhit hskip hi;have HE5:Hid (fL (gs.take (k+1)) ins=fL (gs.take k) ins):=qh HH.out;go_wp2_with fail;go_roundw
    case rel=>exact⟨k+1,A5,c5,by omega,by go_num,by rw[HE5.out],by rw[HE5.out];exact HO3.out,HX3.out⟩
    case measure=>simp[intOf];omega
  ·have hke:k=gs.length:=by omega
   subst hke;have hki:¬ ((gs.length:Int)<(gs.length:Int)):=by omega
   rw[List.take_length]at HO;go_wp2_with fail;go_ret;exact⟨A5,c5,rfl,Reads.own HO.out,HX.out⟩
end
section
open Go.RowKit Go.Shelf
attribute [local go_sem] size_bs toList_bs
def dU(fr to_:Int)(g:GainV):Bool:=decide (fr≤g.clo) && decide (g.clo<to_)
def jL(gs:List GainV)(fr to_:Int):Int:=if gs.any bR=true then 1 else if(aD fr && aD to_)=false then 13 else if to_<fr then 8 else 0
def mF(gs:List GainV)(fr to_:Int)(w:World)(e:Ending)(w':World):Prop :=
 (jL gs fr to_≠0→e = .returned (.tuple #[.slice none 0 0,.int .i64 (jL gs fr to_)])) ∧
 (jL gs fr to_=0→∃A c,e = .returned (.tuple #[.slice A (gs.filter (dU fr to_)).length c,.int .i64 0])∧fG w' A (gs.filter (dU fr to_)))∧Ext w w'
theorem ym{gs:List GainV}{fr to_ r:Int}{w w':World}(h:jL gs fr to_=r)(hr:r≠0)(hx:Ext w w'):mF gs fr to_ w (.returned (.tuple #[.slice none 0 0,.int .i64 r])) w':=by
 subst h;exact⟨fun _=>rfl,fun h=>absurd h hr,hx⟩
theorem KO{gs:List GainV}{fr to_:Int}{w w':World}{A:Option Addr}{c:Nat}(h:jL gs fr to_=0)(hr:fG w' A (gs.filter (dU fr to_)))(hx:Ext w w'):mF gs fr to_ w (.returned (.tuple #[.slice A (gs.filter (dU fr to_)).length c,.int .i64 0])) w' :=
 ⟨fun g=>absurd h g,fun _=>⟨A,c,rfl,hr⟩,hx⟩
theorem lN{w w':World}{g:Nat}{a b:Value}(h:Blk w g 73 #[a,b])(hx:Ext w w'):w'.cell? ⟨g,0,none⟩=some a∧w'.cell? ⟨g,1,none⟩=some b:=by
 have k:=h.ext hx;exact⟨k.cell 0,k.cell 1⟩
theorem DP(gs:List GainV)(A:Option Addr)(c:Nat)(fr to_:Int)(w:World)(hE:Env w)(hA:fG w A gs)(hs:∀g ∈ gs,SmallG g)(hn:gs.length≤100000) :
  Calls Tryz.prog 39 #[.slice A gs.length c,.agg #[.int .i64 fr,.int .i64 to_]] w (mF gs fr to_ w):=by
 have HC:=qh (fun W (hx:Ext w W)=>uY gs A c W (hE.ext hx) (hA.ext hx) hs hn);have HA:=qh hA;have HV:Hid (jL gs fr to_=if gs.any bR=true then 1 else if(aD fr && aD to_)=false then 13 else if to_<fr then 8 else 0):=qh rfl;obtain⟨i0,hI,hz0,hz1,hz2⟩:=info_parts ph;have HI:=qh hI;have HB:=qh (Blk.new w 73 #[.int .i64 fr,.int .i64 to_]);have HX0:Hid (Ext w (w.alloc (.cells #[.int .i64 fr,.int .i64 to_] 73))):=qh (Ext.new _ _);clear hE hA hs hI;generalize gs.any bR=b at *;go_enter Tryz.func39,Tryz.ntmps39;go_wp2_with fail;refine(HC.out _ HX0.out).mono ?_;rintro e w1⟨rfl,hx1⟩;replace HB:=qh (HB.out.ext hx1);replace HX0:=HX0.qt hx1;clear hx1 HC;generalize hF:w.heap.size=F at *
 cases b;rotate_left
 ·have hv:=HV.out;rw[if_pos rfl]at hv;have HVV:=qh hv;clear HV hv;go_wp2_with fail;go_ret2;exact ym HVV.out (by decide) HX0.out
 have hv:=HV.out;rw[if_neg (by decide)]at hv;obtain⟨p0,p1⟩:=lN HB.out (Ext.refl w1);have KD:=qh (wX fr to_ (some ⟨w1.heap.size,0,none⟩) 2 (w1.alloc (.cells #[.int .i64 fr,.int .i64 to_] 23)) (Reads.lit (xs:=[.int .i64 fr,.int .i64 to_]) rfl));have HV2:=qh hv;clear hv HV;generalize (aD fr && aD to_)=dk at *;go_wp2_with fail;refine KD.out.mono ?_;rintro e w2⟨rfl,hx1⟩;replace hx1:=(Ext.new w1 (.cells #[.int .i64 fr,.int .i64 to_] 23)).trans hx1;replace HB:=qh (HB.out.ext hx1);replace HX0:=HX0.qt hx1;clear hx1 KD p0 p1;obtain⟨p0,p1⟩:=lN HB.out (Ext.refl w2)
 cases dk
 ·have hv:=HV2.out;rw[if_pos rfl]at hv;have HVV:=qh hv;clear HV2 hv;go_wp2_with fail;go_ret2;exact ym HVV.out (by decide) HX0.out
 have hv:=HV2.out;rw[if_neg (by decide)]at hv;clear HV2;by_cases hd:to_<fr
 ·rw[if_pos hd]at hv;have HVV:=qh hv;have hd2:decide (to_<fr)=true:=by simpa using hd
  clear hd hv;go_wp2_with fail;go_ret2;exact ym HVV.out (by decide) HX0.out
 rw[if_neg hd]at hv;have HVV:=qh hv;clear hv;have hd2:decide (to_<fr)=false:=by simpa using hd
 clear hd;go_wp2_with fail;clear p0 p1;go_loopw [28,6] (fun i v wr=>∃k A5 c5,k≤gs.length∧i = .int .i64 (k:Nat)∧v = .slice A5 ((gs.take k).filter (dU fr to_)).length c5∧yj wr w2.heap.size v ((gs.take k).filter (dU fr to_))∧Ext w2 wr) (fun i _ _=>gs.length-(intOf i).toNat)
 case atStart=>exact⟨0,none,0,by omega,rfl,rfl,World.ownsRow_nil _ _ _ _,Ext.refl _⟩
 case round =>
  obtain⟨k,A5,c5,hk,rfl,rfl,ho,hx⟩:=hrel;have HX:=qh hx;have HO:=qh ho;clear hx ho;by_cases hlt:k<gs.length
  ·obtain⟨b,o,rfl,hb,d0,d1,d2,d3,d4,d5,d6,d7,d8,d9⟩:=(HA.out.ext (HX0.out.trans HX.out)).at_ hlt;have hki:(k:Int)<(gs.length:Int):=by omega
   have hk0:(0:Int)≤(k:Int):=by omega
   have hhit:=fun h=>jQ (p:=dU fr to_) hlt h
   have hskip:=fun h=>jp (p:=dU fr to_) hlt h
   have hkl:((gs.take k).filter (dU fr to_)).length≤100000:=by
    have h1:((gs.take k).filter (dU fr to_)).length≤(gs.take k).length:=List.length_filter_le _ _;rw[List.length_take]at h1;omega
   generalize (gs[k]'hlt)=x at *;obtain⟨gk,gl,gi,ga,gc',gq,gp,gco,gd,gr⟩:=x;simp only at d0 d1 d2 d3 d4 d5 d6 d7 d8 d9 hhit hskip;have hin:dU fr to_ ⟨gk,gl,gi,ga,gc',gq,gp,gco,gd,gr⟩=(decide (fr≤gc') && decide (gc'<to_)):=rfl;have BX:=qh (Blk.new wr 60 (dr ⟨gk,gl,gi,ga,gc',gq,gp,gco,gd,gr⟩));have HB3:=qh ((HB.out.ext HX.out).alloc (.cells (dr ⟨gk,gl,gi,ga,gc',gq,gp,gco,gd,gr⟩) 60));have HX3:=qh (HX.out.trans (Ext.new wr (.cells (dr ⟨gk,gl,gi,ga,gc',gq,gp,gco,gd,gr⟩) 60)));have HO3:=qh (own_ext2 HO.out (Ext.new wr (.cells (dr ⟨gk,gl,gi,ga,gc',gq,gp,gco,gd,gr⟩) 60)));go_upto_region 11 with fail;generalize wr.alloc (.cells #[.string (bs gk),.string (bs gl),.string (bs gi),.int .i64 ga,.int .i64 gc',.string (bs gq),.string (bs gp),.string (bs gco),.string (bs gd),.string (bs gr)] 60)=w5 at *;generalize wr.heap.size=X8 at *;obtain⟨g0,g1,g2,g3,g4,g5,g6,g7,g8,g9⟩:=be BX.out (Ext.refl _);obtain⟨p0,p1⟩:=lN HB3.out (Ext.refl _);clear d0 d1 d2 d3 d4 d5 d6 d7 d8 d9 HO HX;by_cases h1:fr≤gc'
   ·have e1:decide (fr≤gc')=true:=by simpa using h1
    by_cases h2:gc'<to_
    ·have e2:decide (gc'<to_)=true:=by simpa using h2
     have HH:=qh (hhit (by rw[hin,e1,e2];rfl));clear hhit hskip hin h1 h2;have HO4:=qh (own_ext2 HO3.out (Ext.new w5 (.cells #[.string (bs gk),.string (bs gl),.string (bs gi),.int .i64 ga,.int .i64 gc',.string (bs gq),.string (bs gp),.string (bs gco),.string (bs gd),.string (bs gr)] 60)));have HX4:=qh (HX3.out.trans (Ext.new w5 (.cells #[.string (bs gk),.string (bs gl),.string (bs gi),.int .i64 ga,.int .i64 gc',.string (bs gq),.string (bs gp),.string (bs gco),.string (bs gd),.string (bs gr)] 60)));have hsz:=HX4.out.size;have hlow:=mD HO4.out;go_upto_region 12 with fail;go_wp2_with (at_builtin;go_must (refine wpList_append_own _ rfl (.tmp 44) (.tmp 46) 35 rfl w2.heap.size 60 i0 _ 10 144 Tryz.underlying35 HI.out hz0 hz1 hz2 rfl (by decide) _ _ _ rfl HO4.out ⟨w5.heap.size,0,none⟩ 1 1 (bV ⟨gk,gl,gi,ga,gc',gq,gp,gco,gd,gr⟩) rfl rfl (World.news_of_block (heap_alloc_new w5 _)) (tP _) (by simp only[maxLen];omega) (by omega) hsz ?_);intro v2 w' hown' hgrow hnil;(obtain⟨A3,c3,rfl⟩:=bz hown');clear hnil;(have HO5:=qh hown');(have HX5:=qh (HX4.out.grown hgrow hlow)));go_roundw
     case rel=>exact⟨k+1,A3,c3,by omega,by go_num,by rw[HH.out,List.length_append];rfl,by unfold yj;rw[HH.out,qI,List.length_append];exact HO5.out,HX5.out⟩
     case measure=>simp[intOf];omega
    ·have e2:decide (gc'<to_)=false:=by simpa using h2
     have HH:=qh (hskip (by rw[hin,e1,e2];rfl));clear hhit hskip hin h1 h2;go_wp2_with fail;go_roundw
     case rel=>exact⟨k+1,A5,c5,by omega,by go_num,by rw[HH.out],by rw[HH.out];exact HO3.out,HX3.out⟩
     case measure=>simp[intOf];omega
   ·have e1:decide (fr≤gc')=false:=by simpa using h1
    have HH:=qh (hskip (by rw[hin,e1];rfl));clear hhit hskip hin h1;go_wp2_with fail;go_roundw
    case rel=>exact⟨k+1,A5,c5,by omega,by go_num,by rw[HH.out],by rw[HH.out];exact HO3.out,HX3.out⟩
    case measure=>simp[intOf];omega
  ·have hke:k=gs.length:=by omega
   subst hke;have hki:¬ ((gs.length:Int)<(gs.length:Int)):=by omega
   rw[List.take_length]at HO;go_wp2_with fail;go_ret2;exact KO HVV.out (Reads.own HO.out) (HX0.out.trans HX.out)
end
section
open Go.RowKit Go.Shelf
attribute [local go_sem] size_bs toList_bs
structure FineG (g:GainV):Prop where
 q:g.q.length≤13
 p:g.p.length≤13
 c:g.c.length≤13
 d:g.d.length≤13
 r:g.r.length≤13
 cause:g.cause.length≤24
 lot:g.lot.length≤30
 ins:g.ins.length≤24
theorem FineG.small{g:GainV}(h:FineG g):SmallG g:=⟨by have:=h.cause;omega,by have:=h.lot;omega,by have:=h.ins;omega,by have:=h.q;omega,by have:=h.p;omega,by have:=h.c;omega,by have:=h.d;omega,by have:=h.r;omega⟩
def FSx(gs:List GainV)(w:World)(e:Ending)(w':World):Prop:=(∃b,e = .returned (.bool b)∧(b=false→gs.length≤12∧∀g ∈ gs,FineG g))∧Ext w w'
theorem AF(gs:List GainV)(A:Option Addr)(c:Nat)(w:World)(hA:fG w A gs)(hn:gs.length≤4611686018427387904) :
  Calls Tryz.prog 36 #[.slice A gs.length c] w (FSx gs w):=by
 have HA:=qh hA;clear hA;go_enter Tryz.func36,Tryz.ntmps36;go_wp2_with fail;go_loopw [3] (fun i wr=>∃k:Nat,k≤gs.length∧i = .int .i64 k∧(∀x ∈ gs.take k,FineG x)∧Ext w wr) (fun i _=>gs.length-(intOf i).toNat)
 case atStart=>exact⟨0,by omega,rfl,by simp,Ext.refl _⟩
 case round =>
  obtain⟨k,hk,rfl,hz,hx⟩:=hrel;have HZ:=qh hz;have HX:=qh hx;clear hz hx;by_cases hlt:k<gs.length
  ·obtain⟨b,o,rfl,hb,c0,c1,c2,c3,c4,c5,c6,c7,c8,c9⟩:=(HA.out.ext HX.out).at_ hlt;have hki:(k:Int)<(gs.length:Int):=by omega
   have hk0:(0:Int)≤(k:Int):=by omega
   have HT:Hid (FineG (gs[k]'hlt)→∀x ∈ gs.take (k+1),FineG x):=qh (by
    intro hf x hx;rw[List.take_succ_eq_append_getElem hlt]at hx;rcases List.mem_append.1 hx with h|h
    ·exact HZ.out x h
    ·rw[List.mem_singleton.1 h];exact hf)
   generalize (gs[k]'hlt)=x at *;obtain⟨gk,gl,gi,ga,gc',gq,gp,gco,gd,gr⟩:=x;simp only at c0 c1 c2 c3 c4 c5 c6 c7 c8 c9;have BX:=qh (Blk.new wr 60 (dr ⟨gk,gl,gi,ga,gc',gq,gp,gco,gd,gr⟩));replace HX:=qh (HX.out.trans (Ext.new wr (.cells (dr ⟨gk,gl,gi,ga,gc',gq,gp,gco,gd,gr⟩) 60)));go_upto_region 5 with fail;generalize wr.alloc (.cells #[.string (bs gk),.string (bs gl),.string (bs gi),.int .i64 ga,.int .i64 gc',.string (bs gq),.string (bs gp),.string (bs gco),.string (bs gd),.string (bs gr)] 60)=w5 at *;generalize wr.heap.size=X8 at *;obtain⟨g0,g1,g2,g3,g4,g5,g6,g7,g8,g9⟩:=be BX.out (Ext.refl _);clear c0 c1 c2 c3 c4 c5 c6 c7 c8 c9;go_wp2_with fail;refine(iT gq _).mono ?_;rintro e wy⟨hy1,hy2⟩;subst hy1;subst hy2
   cases n1:decide (13<(gq.length:Int));rotate_left
   ·go_wp2_with fail;go_ret;exact⟨⟨true,rfl,fun h=>by cases h⟩,HX.out⟩
   go_wp2_with fail;refine(iT gp _).mono ?_;rintro e wy⟨hy1,hy2⟩;subst hy1;subst hy2
   cases n2:decide (13<(gp.length:Int));rotate_left
   ·go_wp2_with fail;go_ret;exact⟨⟨true,rfl,fun h=>by cases h⟩,HX.out⟩
   go_wp2_with fail;refine(iT gco _).mono ?_;rintro e wy⟨hy1,hy2⟩;subst hy1;subst hy2
   cases n3:decide (13<(gco.length:Int));rotate_left
   ·go_wp2_with fail;go_ret;exact⟨⟨true,rfl,fun h=>by cases h⟩,HX.out⟩
   go_wp2_with fail;refine(iT gd _).mono ?_;rintro e wy⟨hy1,hy2⟩;subst hy1;subst hy2
   cases n4:decide (13<(gd.length:Int));rotate_left
   ·go_wp2_with fail;go_ret;exact⟨⟨true,rfl,fun h=>by cases h⟩,HX.out⟩
   go_wp2_with fail;refine(iT gr _).mono ?_;rintro e wy⟨hy1,hy2⟩;subst hy1;subst hy2
   cases n5:decide (13<(gr.length:Int));rotate_left
   ·go_wp2_with fail;go_ret;exact⟨⟨true,rfl,fun h=>by cases h⟩,HX.out⟩
   cases n6:decide (24<(gk.length:Int));rotate_left
   ·go_wp2_with fail;go_ret;exact⟨⟨true,rfl,fun h=>by cases h⟩,HX.out⟩
   cases n7:decide (30<(gl.length:Int));rotate_left
   ·go_wp2_with fail;go_ret;exact⟨⟨true,rfl,fun h=>by cases h⟩,HX.out⟩
   cases n8:decide (24<(gi.length:Int));rotate_left
   ·go_wp2_with fail;go_ret;exact⟨⟨true,rfl,fun h=>by cases h⟩,HX.out⟩
   have hf:FineG ⟨gk,gl,gi,ga,gc',gq,gp,gco,gd,gr⟩:=by
    rw[decide_eq_false_iff_not]at n1 n2 n3 n4 n5 n6 n7 n8;exact⟨by show gq.length≤13;omega,by show gp.length≤13;omega,by show gco.length≤13;omega,by show gd.length≤13;omega,by show gr.length≤13;omega,by show gk.length≤24;omega,by show gl.length≤30;omega,by show gi.length≤24;omega⟩
   have HU:=qh (HT.out hf);clear hf;go_wp2_with fail;go_roundw
   case rel=>exact⟨k+1,by omega,by go_num,HU.out,HX.out⟩
   case measure=>simp[intOf];omega
  ·have hke:k=gs.length:=by omega
   subst hke;have hki:¬ ((gs.length:Int)<(gs.length:Int)):=by omega
   rw[List.take_length]at HZ
   cases n9:decide (12<(gs.length:Int))
   ·go_wp2_with fail;go_ret;exact⟨⟨false,rfl,fun _=>⟨by rw[decide_eq_false_iff_not]at n9;omega,HZ.out⟩⟩,HX.out⟩
   ·go_wp2_with fail;go_ret;exact⟨⟨true,rfl,fun h=>by cases h⟩,HX.out⟩
end
section
open Go.RowKit Go.Shelf
attribute [local go_sem] size_bs toList_bs
theorem lO(f:GainV→Bs)(g:GainV)(gs:List GainV):aI f (g :: gs)=valI (f g)+aI f gs:=by simp[aI]
theorem sL:∀gs:List GainV,aI eH gs=aI (·.p) gs-aI (·.c) gs+aI (·.d) gs
 |[]=>rfl
 |g :: r=>by
  rw[lO,lO,lO,lO,sL r];unfold eH;rw[ah];omega
theorem vf{g:GainV}(h:FineG g):(eH g).length≤100:=by
 have h1:=aQ (l:=g.p) (L:=13) h.p;have h2:=aQ (l:=g.c) (L:=13) h.c;have h3:=aQ (l:=g.d) (L:=13) h.d
 have:=bN (z:=valI g.p-valI g.c+valI g.d) (L:=20) (by
  have e1:(10:Nat) ^ 13=10000000000000:=by decide
  have e2:(10:Nat) ^ 20=100000000000000000000:=by decide
  omega)
 unfold eH;omega
def dM(to_:Int)(g:GainV):Bool:=decide (g.clo=84005) && decide (to_≤g.clo)
theorem AG{g:GainV}(h:bR g=false):aD g.clo=true:=by
 have h0:eE g=0:=by simpa[bR] using h
 unfold eE at h0;split at h0
 ·exact absurd h0 (by decide)
 split at h0
 ·exact absurd h0 (by decide)
 rename_i h1
 have:(aD g.acq && aD g.clo)=true:=by simpa using h1
 rw[Bool.and_eq_true]at this
 exact this.2
theorem oV{fr to_:Int}(h:fr≤to_):∀gs:List GainV,(∀g ∈ gs,aD g.clo=true)→(gs.filter (dU (-25567) fr)).length+(gs.filter (dU fr to_)).length+(gs.filter (dU to_ 84005)).length+(gs.filter (dM to_)).length=gs.length
 |[],_=>rfl
 |g :: r,hd=>by
  have ih:=oV h r fun x hx=>hd x (List.mem_cons_of_mem _ hx)
  have hg:=hd g (List.mem_cons_self ..);unfold aD at hg;rw[Bool.and_eq_true,decide_eq_true_iff,decide_eq_true_iff]at hg
  have key:∀(p:GainV→Bool),((g :: r).filter p).length=(if p g=true then 1 else 0)+(r.filter p).length:=by
   intro p;by_cases hp:p g=true
   ·rw[List.filter_cons_of_pos hp,if_pos hp,List.length_cons];omega
   ·rw[List.filter_cons_of_neg hp,if_neg hp];omega
  rw[key,key,key,key,List.length_cons];have e1:(dU (-25567) fr g=true)↔g.clo<fr:=by unfold dU;simp;omega
  have e2:(dU fr to_ g=true)↔(fr≤g.clo∧g.clo<to_):=by unfold dU;simp
  have e3:(dU to_ 84005 g=true)↔(to_≤g.clo∧g.clo<84005):=by unfold dU;simp
  have e4:(dM to_ g=true)↔(g.clo=84005∧to_≤g.clo):=by unfold dM;simp
  simp only[e1,e2,e3,e4];split <;> split <;> split <;> split <;> omega
theorem AH{gs:List GainV}{fr to_:Int}(hw:gs.any bR=false)(h1:aD fr=true)(h2:aD to_=true)(h:fr≤to_):jL gs fr to_=0:=by
 unfold jL;rw[if_neg (by rw[hw];decide),if_neg (by rw[h1,h2];decide),if_neg (by omega)]
theorem IH{gs:List GainV}{fr to_:Int}(h:jL gs fr to_=0):aD fr=true∧aD to_=true∧fr≤to_:=by
 unfold jL at h;split at h
 ·exact absurd h (by decide)
 split at h
 ·exact absurd h (by decide)
 rename_i h2
 split at h
 ·exact absurd h (by decide)
 rename_i h3
 have:(aD fr && aD to_)=true:=by simpa using h2
 rw[Bool.and_eq_true]at this
 exact⟨this.1,this.2,by omega⟩
theorem yp(gs:List GainV):∃ta tb tc te,uZ gs = .tuple #[.string (bs ta),.string (bs tb),.string (bs tc),.int .i64 te]∧(gs.any bR=true→ta=[]∧tb=[]∧tc=[]∧te=1)∧(gs.any bR=false→ta=af (aI (·.p) gs)∧tb=af (aI (·.c) gs)∧tc=af (aI (·.d) gs)∧te=0):=by
 unfold uZ;by_cases h:gs.any bR=true
 ·rw[if_pos h];exact⟨[],[],[],1,rfl,fun _=>⟨rfl,rfl,rfl,rfl⟩,fun g=>by rw[h]at g;cases g⟩
 ·rw[if_neg h];exact⟨_,_,_,0,rfl,fun g=>absurd g h,fun _=>⟨rfl,rfl,rfl,rfl⟩⟩
theorem sM{gs:List GainV}(h:gs.any bR=false):∀g ∈ gs,eE g=0∧bR g=false:=by
 intro g hg;have:=List.any_eq_false.1 h g hg;have h2:bR g=false:=by simpa using this
 exact⟨by simpa[bR] using h2,h2⟩
theorem Lp(x:GainV)(ins:Bs)(X:Nat)(W:World)(hb:Blk W X 9 #[.string (bs ins)]):Calls Tryz.prog 47 (#[nk x]++#[.pointer (some ⟨X,0,none⟩)]) W fun e w'=>e = .returned (.bool (!decide (x.ins=ins)))∧Ext W w':=by
 have HB:=qh (Blk.new W 60 (dr x));have HX:Hid (Ext W (W.alloc (.cells (dr x) 60))):=qh (Ext.new _ _);obtain⟨g0,g1,g2,g3,g4,g5,g6,g7,g8,g9⟩:=be HB.out (Ext.refl _);have q0:=boxCell (hb.alloc (.cells (dr x) 60));have hlt:=hb.lt;obtain⟨gk,gl,gi,ga,gc',gq,gp,gco,gd,gr⟩:=x;simp only at *;clear hb;by_cases h:gi=ins
 ·have e1:(!decide (gi=ins))=false:=by simp[h]
  have e2:(gi == ins)=true:=by rw[beq_iff_eq];exact h
  have e3:(gi != ins)=false:=by rw[bne_eq_false_iff_eq];exact h
  rw[e1];clear h e1;go_enter Tryz.func47,Tryz.ntmps47;go_wp2_with fail;go_ret;exact⟨rfl,HX.out⟩
 ·have e1:(!decide (gi=ins))=true:=by simp[h]
  have e2:(gi == ins)=false:=by rw[beq_eq_false_iff_ne];exact h
  have e3:(gi != ins)=true:=by rw[bne_iff_ne];exact h
  rw[e1];clear h e1;go_enter Tryz.func47,Tryz.ntmps47;go_wp2_with fail;go_ret;exact⟨rfl,HX.out⟩
theorem Lq(g:GainV)(hs:SmallG g)(w:World)(hE:Env w):Calls Tryz.prog 48 (#[nk g]++#[]) w fun e w'=>e = .returned (.bool (bR g))∧Ext w w':=by
 have HE:=qh hE;have HC:=qh (rL g hs);have HWR:Hid ((eE g != 0)=bR g):=qh rfl;have HB:=qh (Blk.new w 60 (dr g));have HX:Hid (Ext w (w.alloc (.cells (dr g) 60))):=qh (Ext.new _ _);obtain⟨g0,g1,g2,g3,g4,g5,g6,g7,g8,g9⟩:=be HB.out (Ext.refl _);clear hE hs;generalize bR g=b at *;generalize eE g=z at *;obtain⟨gk,gl,gi,ga,gc',gq,gp,gco,gd,gr⟩:=g;simp only at *;go_enter Tryz.func48,Tryz.ntmps48;go_wp2_with fail;refine(HC.out _ (HE.out.ext HX.out)).mono ?_;rintro e w1⟨rfl,hx1⟩;replace HX:=HX.qt hx1;clear hx1;go_wp2_with fail;go_ret;exact⟨by rw[←HWR.out];rfl,HX.out⟩
theorem Lr(x:GainV)(fr to_:Int)(X:Nat)(W:World)(hb:Blk W X 73 #[.int .i64 fr,.int .i64 to_]):Calls Tryz.prog 49 (#[nk x]++#[.pointer (some ⟨X,0,none⟩)]) W fun e w'=>e = .returned (.bool (!dU fr to_ x))∧Ext W w':=by
 have HB:=qh (Blk.new W 60 (dr x));have HX:Hid (Ext W (W.alloc (.cells (dr x) 60))):=qh (Ext.new _ _);obtain⟨g0,g1,g2,g3,g4,g5,g6,g7,g8,g9⟩:=be HB.out (Ext.refl _);obtain⟨q0,q1⟩:=lN (hb.alloc (.cells (dr x) 60)) (Ext.refl _);have hlt:=hb.lt;have hin:dU fr to_ x=(decide (fr≤x.clo) && decide (x.clo<to_)):=rfl;rw[hin];obtain⟨gk,gl,gi,ga,gc',gq,gp,gco,gd,gr⟩:=x;simp only at *;clear hb hin;by_cases h1:gc'<fr
 ·have e1:decide (fr≤gc')=false:=by simpa using h1
  have e2:decide (gc'<fr)=true:=by simpa using h1
  rw[e1,Bool.false_and];clear h1;go_enter Tryz.func49,Tryz.ntmps49;go_wp2_with fail;go_ret;exact⟨rfl,HX.out⟩
 ·have e1:decide (fr≤gc')=true:=by simp;omega
  have e2:decide (gc'<fr)=false:=by simpa using h1
  rw[e1,Bool.true_and];clear h1;by_cases h2:gc'<to_
  ·have e3:decide (gc'<to_)=true:=by simpa using h2
   have e4:decide (to_≤gc')=false:=by simp;omega
   rw[e3];clear h2;go_enter Tryz.func49,Tryz.ntmps49;go_wp2_with fail;go_ret;exact⟨rfl,HX.out⟩
  ·have e3:decide (gc'<to_)=false:=by simpa using h2
   have e4:decide (to_≤gc')=true:=by simp;omega
   rw[e3];clear h2;go_enter Tryz.func49,Tryz.ntmps49;go_wp2_with fail;go_ret;exact⟨rfl,HX.out⟩
end
section
open Go.RowKit Go.Shelf
attribute [local go_sem] size_bs toList_bs
theorem AI(gs:List GainV)(A:Option Addr)(c:Nat)(fr to_:Int)(ins:Bs)(w:World)(hE:Env w)(hA:fG w A gs)(hn:gs.length≤4611686018427387904) :
  Calls Tryz.prog 9 #[.slice A gs.length c,.agg #[.int .i64 fr,.int .i64 to_],.string (bs ins)] w fun e w'=>e = .returned (.bool true)∧Ext w w':=by
 have HE:=qh hE;have HA:=qh hA;have GR:=qh (fun W (hx:Ext w W)=>AF gs A c W (hA.ext hx) hn);have HP:=qh ((Blk.new w 73 #[.int .i64 fr,.int .i64 to_]).alloc (.cells #[.string (bs ins)] 9));have HI:=qh (Blk.newAt (w.alloc (.cells #[.int .i64 fr,.int .i64 to_] 73)) 9 #[.string (bs ins)] (w.heap.size+1) (by simp));have HX:Hid (Ext w ((w.alloc (.cells #[.int .i64 fr,.int .i64 to_] 73)).alloc (.cells #[.string (bs ins)] 9))):=qh ((Ext.new _ _).alloc _);clear hE hA hn;go_enter Tryz.func9,Tryz.ntmps9;go_upto_region 1 with fail;generalize (w.alloc (.cells #[.int .i64 fr,.int .i64 to_] 73)).alloc (.cells #[.string (bs ins)] 9)=w0 at *;generalize hX0:w.heap.size=X at *;go_wp2_with fail;refine(GR.out _ HX.out).mono ?_;rintro e w1⟨⟨b,rfl,hb⟩,hx1⟩;replace HX:=HX.qt hx1;replace HP:=qh (HP.out.ext hx1);replace HI:=qh (HI.out.ext hx1);clear hx1 GR
 cases b;rotate_left
 ·clear hb;go_wp2_with fail;refine(fR _ (HE.out.ext HX.out)).mono ?_;rintro e v9⟨rfl,hx1⟩;replace HX:=HX.qt hx1;clear hx1;go_wp2_with fail;go_ret;exact⟨rfl,HX.out⟩
 obtain⟨hl12,hfine⟩:=hb rfl;have HFI:=qh hfine;have hsm:∀g ∈ gs,SmallG g:=fun g hg=>(hfine g hg).small
 have CT:=qh (fun W (hx:Ext w W)=>FQ gs A c W (HE.out.ext hx) (HA.out.ext hx) hsm (by omega));have CO:=qh (fun W (hx:Ext w W)=>Lo gs A c ins W (HA.out.ext hx) (by omega));have CD:=qh (fun fr to_ W (hx:Ext w W)=>DP gs A c fr to_ W (HE.out.ext hx) (HA.out.ext hx) hsm (by omega));have CR:=qh (fun g hg W (hx:Ext w W)=>IE g (hsm g hg) W (HE.out.ext hx));have C2:=qh (fun W (hx:Ext w W)=>lM 48 #[] (fun _ _=>by rfl) bR gs A c W (HA.out.ext hx) (by omega) (fun x hxm W' hxx=>Lq x (hsm x hxm) W' (HE.out.ext (hx.trans hxx))));clear hb hfine hsm;go_wp2_with fail;refine(CT.out _ HX.out).mono ?_;rintro e w2⟨rfl,hx1⟩;replace HX:=HX.qt hx1;replace HP:=qh (HP.out.ext hx1);replace HI:=qh (HI.out.ext hx1);clear hx1 CT;have q0:=boxCell HI.out;obtain⟨ta,tb,tc,te,htv,tw1,tw2⟩:=yp gs;rw[htv];have TW1:=qh tw1;have TW2:=qh tw2;clear htv tw1 tw2;go_wp2_with fail;refine(CO.out _ HX.out).mono ?_;rintro e w3⟨Ao,co,rfl,hro,hx1⟩;replace HX:=HX.qt hx1;replace HP:=qh (HP.out.ext hx1);replace HI:=qh (HI.out.ext hx1);have HRO:=qh hro;clear hx1 hro CO q0;go_wp2_with fail;go_loopw [44,12] (fun i v wr=>∃k:Nat,k≤gs.length∧i = .int .i64 k∧v = .int .i64 ((fL (gs.take k) ins).length:Nat)∧Ext w3 wr) (fun i _ _=>gs.length-(intOf i).toNat)
 case atStart=>exact⟨0,by omega,rfl,rfl,Ext.refl _⟩
 case round =>
  obtain⟨k,hk,rfl,rfl,hx⟩:=hrel;have HXX:=qh hx;clear hx;by_cases hlt:k<gs.length
  ·obtain⟨b,o,rfl,hb,c0,c1,c2,c3,c4,c5,c6,c7,c8,c9⟩:=(HA.out.ext (HX.out.trans HXX.out)).at_ hlt;have hki:(k:Int)<(gs.length:Int):=by omega
   have hk0:(0:Int)≤(k:Int):=by omega
   have hhit:=fun h=>jQ (p:=fun x=>decide (x.ins=ins)) hlt h
   have hskip:=fun h=>jp (p:=fun x=>decide (x.ins=ins)) hlt h
   have hkl:(fL (gs.take k) ins).length≤12:=by
    have h1:(fL (gs.take k) ins).length≤(gs.take k).length:=List.length_filter_le _ _;rw[List.length_take]at h1;omega
   generalize (gs[k]'hlt)=x at *;obtain⟨gk,gl,gi,ga,gc',gq,gp,gco,gd,gr⟩:=x;simp only at c0 c1 c2 c3 c4 c5 c6 c7 c8 c9 hhit hskip;have BX:=qh (Blk.new wr 60 (dr ⟨gk,gl,gi,ga,gc',gq,gp,gco,gd,gr⟩));have HIb:=qh ((HI.out.ext HXX.out).alloc (.cells (dr ⟨gk,gl,gi,ga,gc',gq,gp,gco,gd,gr⟩) 60));replace HXX:=qh (HXX.out.trans (Ext.new wr (.cells (dr ⟨gk,gl,gi,ga,gc',gq,gp,gco,gd,gr⟩) 60)));go_upto_region 9 with fail;generalize wr.alloc (.cells #[.string (bs gk),.string (bs gl),.string (bs gi),.int .i64 ga,.int .i64 gc',.string (bs gq),.string (bs gp),.string (bs gco),.string (bs gd),.string (bs gr)] 60)=w5 at *;generalize wr.heap.size=X8 at *;obtain⟨g0,g1,g2,g3,g4,g5,g6,g7,g8,g9⟩:=be BX.out (Ext.refl _);have q0:=boxCell HIb.out;clear c0 c1 c2 c3 c4 c5 c6 c7 c8 c9;by_cases hi:gi=ins
   ·have HH:Hid ((fL (gs.take (k+1)) ins).length=(fL (gs.take k) ins).length+1):=qh (by unfold fL;rw[hhit (by simpa using hi),List.length_append];rfl);have hbe:(gi == ins)=true:=by rw[beq_iff_eq];exact hi
    clear hhit hskip hi;generalize (fL (gs.take k) ins).length=m at *;go_wp2_with fail;go_roundw
    case rel=>exact⟨k+1,by omega,by go_num,by rw[HH.out];go_num,HXX.out⟩
    case measure=>simp[intOf];omega
   ·have HH:Hid ((fL (gs.take (k+1)) ins).length=(fL (gs.take k) ins).length):=qh (by unfold fL;rw[hskip (by simpa using hi)]);have hbe:(gi == ins)=false:=by rw[beq_eq_false_iff_ne];exact hi
    clear hhit hskip hi;generalize (fL (gs.take k) ins).length=m at *;go_wp2_with fail;go_roundw
    case rel=>exact⟨k+1,by omega,by go_num,by rw[HH.out],HXX.out⟩
    case measure=>simp[intOf];omega
  ·have hke:k=gs.length:=by omega
   subst hke;have hki:¬ ((gs.length:Int)<(gs.length:Int)):=by omega
   rw[List.take_length];have hx1:=HXX.out;replace HX:=HX.qt hx1;replace HP:=qh (HP.out.ext hx1);replace HI:=qh (HI.out.ext hx1);replace HRO:=qh (HRO.out.ext hx1)
   have hol:(fL gs ins).length≤12:=by
    have h1:(fL gs ins).length≤gs.length:=List.length_filter_le _ _;omega
   have hnone:(fL gs ins).any (fun x=>!decide (x.ins=ins))=false:=by
    rw[List.any_eq_false];intro x hx;have:=(List.mem_filter.1 hx).2;simpa using this
   have c1:=lM 47 #[.pointer (some ⟨X+1,0,none⟩)] (fun _ _=>by rfl) (fun x=>!decide (x.ins=ins)) (fL gs ins) Ao co wr HRO.out (by omega) (fun x hxm W' hxx=>Lp x ins (X+1) W' (HI.out.ext hxx));rw[hnone]at c1;have C1:=qh c1;clear c1 hnone hx1 HXX hk hlt;generalize (fL gs ins).length=m at *;go_wp2_with fail;refine C1.out.mono ?_;rintro e w4⟨rfl,hx1⟩;replace HX:=HX.qt hx1;replace HP:=qh (HP.out.ext hx1);replace HI:=qh (HI.out.ext hx1);clear hx1 C1 HRO;by_cases hw:gs.any bR=true
   ·obtain⟨rfl,rfl,rfl,rfl⟩:=TW1.out hw;rw[hw]at C2;clear TW1 TW2 CR CD hw;go_wp2_with fail;refine(C2.out _ HX.out).mono ?_;rintro e w5⟨rfl,hx1⟩;replace HX:=HX.qt hx1;replace HP:=qh (HP.out.ext hx1);replace HI:=qh (HI.out.ext hx1);clear hx1 C2;go_wp2_with fail;refine(fR _ (HE.out.ext HX.out)).mono ?_;rintro e v9⟨rfl,hx1⟩;replace HX:=HX.qt hx1;clear hx1;go_wp2_with fail;go_ret;exact⟨rfl,HX.out⟩
   have hw0:gs.any bR=false:=by simpa using hw
   obtain⟨rfl,rfl,rfl,rfl⟩:=TW2.out hw0;have HNW:=qh (sM hw0);have HW0:=qh hw0;have l1:=eD (f:=(·.p)) (L:=13) (fun g hg=>(HFI.out g hg).p) (by omega:gs.length≤100000) gs.length;have l2:=eD (f:=(·.c)) (L:=13) (fun g hg=>(HFI.out g hg).c) (by omega:gs.length≤100000) gs.length;have l3:=eD (f:=(·.d)) (L:=13) (fun g hg=>(HFI.out g hg).d) (by omega:gs.length≤100000) gs.length;rw[List.take_length]at l1 l2 l3;have HLR:=qh (eD (f:=eH) (L:=100) (fun g hg=>vf (HFI.out g hg)) (by omega:gs.length≤100000));have sb:=j8 (af (aI (·.p) gs)) (af (aI (·.c) gs)) (by omega) (by omega);rw[ah,ah]at sb;have hsl:=mo (x:=af (aI (·.p) gs)) (y:=af (aI (·.c) gs)) (L:=30) (by omega) (by omega);rw[ah,ah]at hsl;have ad:=eS (af (aI (·.p) gs-aI (·.c) gs)) (af (aI (·.d) gs)) (by omega) (by omega);rw[ah,ah,←sL gs]at ad;have SB:=qh sb;have AD:=qh ad;clear TW1 TW2 C2 hw hw0 l1 l2 l3 sb ad hsl;generalize af (aI (·.p) gs-aI (·.c) gs)=sd at *;generalize af (aI (·.p) gs)=ta at *;generalize af (aI (·.c) gs)=tb at *;generalize af (aI (·.d) gs)=tc at *;go_wp2_with fail;go_loopw [85,15] (fun i v wr=>∃k:Nat,k≤gs.length∧i = .int .i64 k∧v = .string (bs (af (aI eH (gs.take k))))∧Ext w4 wr) (fun i _ _=>gs.length-(intOf i).toNat)
   case atStart=>exact⟨0,by omega,rfl,by simp[aI,de.2 rfl];rfl,Ext.refl _⟩
   case round =>
    obtain⟨k,hk,rfl,rfl,hx⟩:=hrel;have HXX:=qh hx;clear hx;by_cases hlt:k<gs.length
    ·obtain⟨b,o,rfl,hb,c0,c1,c2,c3,c4,c5,c6,c7,c8,c9⟩:=(HA.out.ext (HX.out.trans HXX.out)).at_ hlt;have hki:(k:Int)<(gs.length:Int):=by omega
     have hk0:(0:Int)≤(k:Int):=by omega
     have cr:=CR.out (gs[k]'hlt) (List.getElem_mem hlt);have e0:=(HNW.out _ (List.getElem_mem hlt)).1;have erv:qB (gs[k]'hlt) = .tuple #[.string (bs (eH (gs[k]'hlt))),.int .i64 0]:=by unfold qB;rw[if_neg (by simpa using e0)]
     rw[erv]at cr;have C4:=qh cr;have hrl:=vf (HFI.out _ (List.getElem_mem hlt));have hll:=HLR.out k;have ad:=eS (af (aI eH (gs.take k))) (eH (gs[k]'hlt)) (by omega) (by omega);rw[ah,←gD (f:=eH) hlt]at ad;have A4:=qh ad;clear cr e0 erv hrl hll ad;generalize hq4:af (aI eH (gs.take (k+1)))=s1 at *;have HQ4:=qh hq4;clear hq4;generalize af (aI eH (gs.take k))=s0 at *;generalize eH (gs[k]'hlt)=rb at *;generalize (gs[k]'hlt)=x at *;obtain⟨gk,gl,gi,ga,gc',gq,gp,gco,gd,gr⟩:=x;simp only at c0 c1 c2 c3 c4 c5 c6 c7 c8 c9;have BX:=qh (Blk.new wr 60 (dr ⟨gk,gl,gi,ga,gc',gq,gp,gco,gd,gr⟩));replace HXX:=qh (HXX.out.trans (Ext.new wr (.cells (dr ⟨gk,gl,gi,ga,gc',gq,gp,gco,gd,gr⟩) 60)));go_upto_region 20 with fail;generalize wr.alloc (.cells #[.string (bs gk),.string (bs gl),.string (bs gi),.int .i64 ga,.int .i64 gc',.string (bs gq),.string (bs gp),.string (bs gco),.string (bs gd),.string (bs gr)] 60)=w5 at *;generalize wr.heap.size=X8 at *;obtain⟨g0,g1,g2,g3,g4,g5,g6,g7,g8,g9⟩:=be BX.out (Ext.refl _);clear c0 c1 c2 c3 c4 c5 c6 c7 c8 c9;go_wp2_with fail;refine(C4.out _ (HX.out.trans HXX.out)).mono ?_;rintro e w6⟨rfl,hx1⟩;replace HXX:=HXX.qt hx1;clear hx1 g0 g1 g2 g3 g4 g5 g6 g7 g8 g9 C4;go_wp2_with fail;refine(A4.out _ (HE.out.ext (HX.out.trans HXX.out))).mono ?_;rintro e w7⟨rfl,hx1⟩;replace HXX:=HXX.qt hx1;clear hx1 A4;go_wp2_with fail;go_roundw
     case rel=>exact⟨k+1,by omega,by go_num,by rw[HQ4.out],HXX.out⟩
     case measure=>simp[intOf];omega
    ·have hke:k=gs.length:=by omega
     subst hke;have hki:¬ ((gs.length:Int)<(gs.length:Int)):=by omega
     rw[List.take_length];have hx1:=HXX.out;replace HX:=HX.qt hx1;replace HP:=qh (HP.out.ext hx1);replace HI:=qh (HI.out.ext hx1);clear hx1 HXX HLR HNW CR;generalize hsr:af (aI eH gs)=sr at *;clear hsr;go_wp2_with fail;refine(SB.out _ (HE.out.ext HX.out)).mono ?_;rintro e w5⟨rfl,hx1⟩;replace HX:=HX.qt hx1;replace HP:=qh (HP.out.ext hx1);replace HI:=qh (HI.out.ext hx1);clear hx1 SB;go_wp2_with fail;refine(AD.out _ (HE.out.ext HX.out)).mono ?_;rintro e w6⟨rfl,hx1⟩;replace HX:=HX.qt hx1;replace HP:=qh (HP.out.ext hx1);replace HI:=qh (HI.out.ext hx1);clear hx1 AD;obtain⟨p0,p1⟩:=lN HP.out (Ext.refl w6);go_wp2_with fail;refine(CD.out _ _ _ HX.out).mono ?_;rintro e w7⟨hd1,hd2,hx1⟩;replace HX:=HX.qt hx1;replace HP:=qh (HP.out.ext hx1);replace HI:=qh (HI.out.ext hx1);clear hx1 p0 p1;by_cases hdu:jL gs fr to_=0;rotate_left
     ·have he:=hd1 hdu;subst he;have g1:(jL gs fr to_ != 0)=true:=by rw[bne_iff_ne];exact hdu
      generalize jL gs fr to_=z at *;clear hd1 hd2 hdu CD;go_wp2_with fail;refine(fR _ (HE.out.ext HX.out)).mono ?_;rintro e v9⟨rfl,hx1⟩;replace HX:=HX.qt hx1;clear hx1;go_wp2_with fail;go_ret;exact⟨rfl,HX.out⟩
     obtain⟨Ad,cd,rfl,hrd⟩:=hd2 hdu;have HRD:=qh hrd;obtain⟨o1,o2,o3⟩:=IH hdu;have b1:=AH (fr := -25567) (to_:=fr) HW0.out (by decide) o1 (by unfold aD at o1;simp at o1;omega);have b2:=AH (fr:=to_) (to_:=84005) HW0.out o2 (by decide) (by unfold aD at o2;simp at o2;omega);have D1:=qh (fun W (hx:Ext w W)=>(CD.out (-25567) fr W hx).mono (fun e w' (h:mF gs (-25567) fr W e w')=>And.intro (h.2.1 b1) h.2.2));have D2:=qh (fun W (hx:Ext w W)=>(CD.out to_ 84005 W hx).mono (fun e w' (h:mF gs to_ 84005 W e w')=>And.intro (h.2.1 b2) h.2.2));have PC:=qh (oV o3 gs (fun g hg=>AG (sM HW0.out g hg).2));clear hd1 hd2 hdu hrd o1 o2 o3 b1 b2 CD HW0
     have hnone:(gs.filter (dU fr to_)).any (fun x=>!dU fr to_ x)=false:=by
      rw[List.any_eq_false];intro x hx;have:=(List.mem_filter.1 hx).2;simp[this]
     have hdl:(gs.filter (dU fr to_)).length≤12:=Nat.le_trans (List.length_filter_le _ _) hl12;have C5:=qh (fun W (hp:Blk W X 73 #[.int .i64 fr,.int .i64 to_]) (h:fG W Ad (gs.filter (dU fr to_)))=>lM 49 #[.pointer (some ⟨X,0,none⟩)] (fun _ _=>by rfl) (fun x=>!dU fr to_ x) (gs.filter (dU fr to_)) Ad cd W h (by omega) (fun x hxm W' hxx=>Lr x fr to_ X W' (hp.ext hxx)));rw[hnone]at C5;have hbl:(gs.filter (dU (-25567) fr)).length≤12:=Nat.le_trans (List.length_filter_le _ _) hl12;have hal:(gs.filter (dU to_ 84005)).length≤12:=Nat.le_trans (List.length_filter_le _ _) hl12;have hll:(gs.filter (dM to_)).length≤12:=Nat.le_trans (List.length_filter_le _ _) hl12;clear hnone;generalize hfd:gs.filter (dU fr to_)=fd at *;clear hfd;generalize (gs.filter (dU (-25567) fr)).length=nb at *;generalize (gs.filter (dU to_ 84005)).length=na at *;obtain⟨p0,p1⟩:=lN HP.out (Ext.refl w7);go_wp2_with fail;refine(D1.out _ HX.out).mono ?_;rintro e w8⟨⟨Ab,cb,rfl,_⟩,hx1⟩;replace HX:=HX.qt hx1;replace HP:=qh (HP.out.ext hx1);replace HI:=qh (HI.out.ext hx1);replace HRD:=qh (HRD.out.ext hx1);clear hx1 D1 p0 p1;obtain⟨p0,p1⟩:=lN HP.out (Ext.refl w8);go_wp2_with fail;refine(D2.out _ HX.out).mono ?_;rintro e w9⟨⟨Aa,ca,rfl,_⟩,hx1⟩;replace HX:=HX.qt hx1;replace HP:=qh (HP.out.ext hx1);replace HI:=qh (HI.out.ext hx1);replace HRD:=qh (HRD.out.ext hx1);clear hx1 D2 p0 p1;go_wp2_with fail;go_loopw [139,26] (fun i v wr=>∃k:Nat,k≤gs.length∧i = .int .i64 k∧v = .int .i64 (((gs.take k).filter (dM to_)).length:Nat)∧Ext w9 wr) (fun i _ _=>gs.length-(intOf i).toNat)
     case atStart=>exact⟨0,by omega,rfl,rfl,Ext.refl _⟩
     case round =>
      obtain⟨k,hk,rfl,rfl,hx⟩:=hrel;have HXX:=qh hx;clear hx;by_cases hlt:k<gs.length
      ·obtain⟨b,o,rfl,hb,c0,c1,c2,c3,c4,c5,c6,c7,c8,c9⟩:=(HA.out.ext (HX.out.trans HXX.out)).at_ hlt;have hki:(k:Int)<(gs.length:Int):=by omega
       have hk0:(0:Int)≤(k:Int):=by omega
       have hhit:=fun h=>jQ (p:=dM to_) hlt h
       have hskip:=fun h=>jp (p:=dM to_) hlt h
       have hkl:((gs.take k).filter (dM to_)).length≤12:=by
        have h1:((gs.take k).filter (dM to_)).length≤(gs.take k).length:=List.length_filter_le _ _;rw[List.length_take]at h1;omega
       generalize (gs[k]'hlt)=x at *;obtain⟨gk,gl,gi,ga,gc',gq,gp,gco,gd,gr⟩:=x;simp only at c0 c1 c2 c3 c4 c5 c6 c7 c8 c9 hhit hskip;have hin:dM to_ ⟨gk,gl,gi,ga,gc',gq,gp,gco,gd,gr⟩=(decide (gc'=84005) && decide (to_≤gc')):=rfl;have BX:=qh (Blk.new wr 60 (dr ⟨gk,gl,gi,ga,gc',gq,gp,gco,gd,gr⟩));have HPb:=qh ((HP.out.ext HXX.out).alloc (.cells (dr ⟨gk,gl,gi,ga,gc',gq,gp,gco,gd,gr⟩) 60));replace HXX:=qh (HXX.out.trans (Ext.new wr (.cells (dr ⟨gk,gl,gi,ga,gc',gq,gp,gco,gd,gr⟩) 60)));go_upto_region 36 with fail;generalize wr.alloc (.cells #[.string (bs gk),.string (bs gl),.string (bs gi),.int .i64 ga,.int .i64 gc',.string (bs gq),.string (bs gp),.string (bs gco),.string (bs gd),.string (bs gr)] 60)=w5 at *;generalize wr.heap.size=X8 at *;obtain⟨g0,g1,g2,g3,g4,g5,g6,g7,g8,g9⟩:=be BX.out (Ext.refl _);obtain⟨p0,p1⟩:=lN HPb.out (Ext.refl _);clear c0 c1 c2 c3 c4 c5 c6 c7 c8 c9;by_cases h1:gc'=84005
       ·by_cases h2:to_≤gc'
        ·have HH:Hid (((gs.take (k+1)).filter (dM to_)).length=((gs.take k).filter (dM to_)).length+1):=qh (by rw[hhit (by rw[hin];simp[h1];omega),List.length_append];rfl);have e1:(gc' == 84005)=true:=by rw[beq_iff_eq];exact h1
         have e2:decide (to_≤gc')=true:=by simpa using h2
         clear hhit hskip hin h1 h2;generalize ((gs.take k).filter (dM to_)).length=m2 at *;go_wp2_with fail;go_roundw
         case rel=>exact⟨k+1,by omega,by go_num,by rw[HH.out];go_num,HXX.out⟩
         case measure=>simp[intOf];omega
        ·have HH:Hid (((gs.take (k+1)).filter (dM to_)).length=((gs.take k).filter (dM to_)).length):=qh (by rw[hskip (by rw[hin];simp[h2])]);have e1:(gc' == 84005)=true:=by rw[beq_iff_eq];exact h1
         have e2:decide (to_≤gc')=false:=by simpa using h2
         clear hhit hskip hin h1 h2;generalize ((gs.take k).filter (dM to_)).length=m2 at *;go_wp2_with fail;go_roundw
         case rel=>exact⟨k+1,by omega,by go_num,by rw[HH.out],HXX.out⟩
         case measure=>simp[intOf];omega
       ·have HH:Hid (((gs.take (k+1)).filter (dM to_)).length=((gs.take k).filter (dM to_)).length):=qh (by rw[hskip (by rw[hin];simp[h1])]);have e1:(gc' == 84005)=false:=by rw[beq_eq_false_iff_ne];exact h1
        clear hhit hskip hin h1;generalize ((gs.take k).filter (dM to_)).length=m2 at *;go_wp2_with fail;go_roundw
        case rel=>exact⟨k+1,by omega,by go_num,by rw[HH.out],HXX.out⟩
        case measure=>simp[intOf];omega
      ·have hke:k=gs.length:=by omega
       subst hke;have hki:¬ ((gs.length:Int)<(gs.length:Int)):=by omega
       rw[List.take_length];have hx1:=HXX.out;replace HX:=HX.qt hx1;replace HP:=qh (HP.out.ext hx1);replace HI:=qh (HI.out.ext hx1);replace HRD:=qh (HRD.out.ext hx1);clear hx1 HXX;have C6:=qh (C5.out _ HP.out HRD.out);clear C5;have pc:=PC.out;generalize (gs.filter (dM to_)).length=nl at *;generalize fd.length=nd at *;generalize hnn:gs.length=n at *;have t1:IntKind.i64.wrap ((nb:Int)+(nd:Int))=(nb:Int)+(nd:Int):=IntWalk.i64_in _ (by omega);have t2:IntKind.i64.wrap ((nb:Int)+(nd:Int)+(na:Int))=(nb:Int)+(nd:Int)+(na:Int):=IntWalk.i64_in _ (by omega);have t3:IntKind.i64.wrap ((nb:Int)+(nd:Int)+(na:Int)+(nl:Int))=(nb:Int)+(nd:Int)+(na:Int)+(nl:Int):=IntWalk.i64_in _ (by omega);have t4:((nb:Int)+(nd:Int)+(na:Int)+(nl:Int) == (n:Int))=true:=by rw[beq_iff_eq];omega
       go_wp2_with fail;refine C6.out.mono ?_;rintro e w10⟨rfl,hx1⟩;replace HX:=HX.qt hx1;replace HP:=qh (HP.out.ext hx1);replace HI:=qh (HI.out.ext hx1);clear hx1 C6;go_wp2_with fail;refine(fR _ (HE.out.ext HX.out)).mono ?_;rintro e v9⟨rfl,hx1⟩;replace HX:=HX.qt hx1;clear hx1;go_wp2_with fail;go_ret;exact⟨rfl,HX.out⟩
end
section
open Go.ChangeShapes Go.WideShapes Go.ChangeAt Go.RowKit Go.Deep Go.Joins
section
variable {P:Program} {w:World} {base:Nat} {spare:Nat→Bool} {held:Bool} {H:Type} {enc:TypeId × Value→H}
theorem AJ{t t0 t1 t2 t3 t4 t5 t6 t7 t8 t9:TypeId}{n:Nat}{cs:List Value}{y:DataW H × List MemPlace}{f0 f1 f2 f3 f4 f5 f6 f7 f8 f9:Field}(hs:P.underlying t=some (.struct #[f0,f1,f2,f3,f4,f5,f6,f7,f8,f9]))(hone:oneCellFields P #[f0,f1,f2,f3,f4,f5,f6,f7,f8,f9]=true)(hC:P.cellsOf t=10)
  (h0:f0.type=t0) (h1:f1.type=t1) (h2:f2.type=t2) (h3:f3.type=t3) (h4:f4.type=t4) (h5:f5.type=t5) (h6:f6.type=t6) (h7:f7.type=t7) (h8:f8.type=t8) (h9:f9.type=t9)
  (u0:P.underlying t0=some .string) (u1:P.underlying t1=some .string) (u2:P.underlying t2=some .string) (u3:P.underlying t3=some (.int .i64)) (u4:P.underlying t4=some (.int .i64)) (u5:P.underlying t5=some .string) (u6:P.underlying t6=some .string) (u7:P.underlying t7=some .string) (u8:P.underlying t8=some .string) (u9:P.underlying t9=some .string) (h:DataW.trod enc P w base spare held n t cs=some y) :
  ∃a:GainV,cs=bV a:=by
 obtain⟨xs,n,_,_,hlen,hl,hg⟩:=DataW.trod_struct hs h;rw[hC]at hlen;obtain⟨o0,k0⟩:=hone_of hone 0 f0 rfl;obtain⟨o1,k1⟩:=hone_of hone 1 f1 rfl;obtain⟨o2,k2⟩:=hone_of hone 2 f2 rfl;obtain⟨o3,k3⟩:=hone_of hone 3 f3 rfl;obtain⟨o4,k4⟩:=hone_of hone 4 f4 rfl;obtain⟨o5,k5⟩:=hone_of hone 5 f5 rfl;obtain⟨o6,k6⟩:=hone_of hone 6 f6 rfl;obtain⟨o7,k7⟩:=hone_of hone 7 f7 rfl;obtain⟨o8,k8⟩:=hone_of hone 8 f8 rfl;obtain⟨o9,k9⟩:=hone_of hone 9 f9 rfl;match cs,hlen,xs,hl with
 |[c0,c1,c2,c3,c4,c5,c6,c7,c8,c9],_,[y0,y1,y2,y3,y4,y5,y6,y7,y8,y9],_ =>
  have g0:=hg 0 f0 rfl;rw[o0,k0,h0]at g0;have g1:=hg 1 f1 rfl;rw[o1,k1,h1]at g1;have g2:=hg 2 f2 rfl;rw[o2,k2,h2]at g2;have g3:=hg 3 f3 rfl;rw[o3,k3,h3]at g3;have g4:=hg 4 f4 rfl;rw[o4,k4,h4]at g4;have g5:=hg 5 f5 rfl;rw[o5,k5,h5]at g5;have g6:=hg 6 f6 rfl;rw[o6,k6,h6]at g6;have g7:=hg 7 f7 rfl;rw[o7,k7,h7]at g7;have g8:=hg 8 f8 rfl;rw[o8,k8,h8]at g8;have g9:=hg 9 f9 rfl;rw[o9,k9,h9]at g9;obtain⟨s0,e0,_⟩:=DataW.trod_string u0 (x:=y0) (by simpa using g0);obtain⟨s1,e1,_⟩:=DataW.trod_string u1 (x:=y1) (by simpa using g1);obtain⟨s2,e2,_⟩:=DataW.trod_string u2 (x:=y2) (by simpa using g2);obtain⟨s3,e3,_⟩:=DataW.trod_int u3 (x:=y3) (by simpa using g3);obtain⟨s4,e4,_⟩:=DataW.trod_int u4 (x:=y4) (by simpa using g4);obtain⟨s5,e5,_⟩:=DataW.trod_string u5 (x:=y5) (by simpa using g5);obtain⟨s6,e6,_⟩:=DataW.trod_string u6 (x:=y6) (by simpa using g6);obtain⟨s7,e7,_⟩:=DataW.trod_string u7 (x:=y7) (by simpa using g7);obtain⟨s8,e8,_⟩:=DataW.trod_string u8 (x:=y8) (by simpa using g8);obtain⟨s9,e9,_⟩:=DataW.trod_string u9 (x:=y9) (by simpa using g9);simp at e0 e1 e2 e3 e4 e5 e6 e7 e8 e9;subst e0;subst e1;subst e2;subst e3;subst e4;subst e5;subst e6;subst e7;subst e8;subst e9;exact⟨⟨L s0,L s1,L s2,s3,s4,L s5,L s6,L s7,L s8,L s9⟩,by simp[bV,bs_L]⟩
theorem DQ{t t0 t1:TypeId}{n:Nat}{cs:List Value}{y:DataW H × List MemPlace}{f0 f1:Field}(hs:P.underlying t=some (.struct #[f0,f1]))(hone:oneCellFields P #[f0,f1]=true)(hC:P.cellsOf t=2)
  (h0:f0.type=t0) (h1:f1.type=t1)
  (u0:P.underlying t0=some (.int .i64)) (u1:P.underlying t1=some (.int .i64)) (h:DataW.trod enc P w base spare held n t cs=some y) :
  ∃a b:Int,cs=[.int .i64 a,.int .i64 b]:=by
 obtain⟨xs,n,_,_,hlen,hl,hg⟩:=DataW.trod_struct hs h;rw[hC]at hlen;obtain⟨o0,k0⟩:=hone_of hone 0 f0 rfl;obtain⟨o1,k1⟩:=hone_of hone 1 f1 rfl;match cs,hlen,xs,hl with
 |[c0,c1],_,[y0,y1],_ =>
  have g0:=hg 0 f0 rfl;rw[o0,k0,h0]at g0;have g1:=hg 1 f1 rfl;rw[o1,k1,h1]at g1;obtain⟨s0,e0,_⟩:=DataW.trod_int u0 (x:=y0) (by simpa using g0);obtain⟨s1,e1,_⟩:=DataW.trod_int u1 (x:=y1) (by simpa using g1);simp at e0 e1;subst e0;subst e1;exact⟨s0,s1,rfl⟩
end
instance:Inhabited GainV:=⟨⟨[],[],[],0,0,[],[],[],[],[]⟩⟩
theorem open_gains{H:Type}{enc:TypeId × Value→H}{W:World}{r:Reach}{b0 base:Nat}{spare:Nat→Bool}{held:Bool}{v:Value}{d:DataW H}{p:List MemPlace}(hv:Value.okWide Tryz.prog W r b0 35 v)(h:DataW.Trod enc Tryz.prog W base spare held 35 v d p)
  (hw:(d.weights Tryz.prog 35).all (·≤reachBytes)=true) :
  ∃(gs:List GainV) (A:Option Addr) (c:Nat),v = .slice A gs.length c∧fG W A gs∧gs.length≤c∧gs.length≤4611686018427387904:=by
 obtain⟨a,n,c,rfl⟩:=okWide_slice Tryz.underlying35 hv;obtain⟨fuel,hf⟩:=h;obtain⟨A,c',gs,e,hr,hlc,hx⟩:=lL (α:=GainV) bV 10 (by decide) lW Tryz.underlying35 (by kernel_rfl) (fun n cs y hy=>AJ Tryz.underlying60 (by kernel_rfl) (by kernel_rfl) rfl rfl rfl rfl rfl rfl rfl rfl rfl rfl Tryz.underlying9 Tryz.underlying9 Tryz.underlying9 Tryz.underlying23 Tryz.underlying23 Tryz.underlying24 Tryz.underlying24 Tryz.underlying24 Tryz.underlying24 Tryz.underlying24 hy) hf;simp only[Value.cells,List.cons.injEq,and_true]at e;rw[e];exact⟨gs,A,c',rfl,hr,hlc,kB Tryz.underlying35 (by rw[show Tryz.prog.bytesOf 60=144 by kernel_rfl];decide) hw hx⟩
theorem open_per1{H:Type}{enc:TypeId × Value→H}{W:World}{r:Reach}{b0 base:Nat}{spare:Nat→Bool}{held:Bool}{v:Value}{d:DataW H}{p:List MemPlace}(hv:Value.okWide Tryz.prog W r b0 73 v)(h:DataW.Trod enc Tryz.prog W base spare held 73 v d p) :
  ∃a b:Int,v = .agg #[.int .i64 a,.int .i64 b]:=by
 obtain⟨cs,rfl,_⟩:=okWide_struct Tryz.underlying73 hv;obtain⟨fuel,hf⟩:=h;obtain⟨a,b,e⟩:=DQ Tryz.underlying73 (by kernel_rfl) (by kernel_rfl) rfl rfl Tryz.underlying23 Tryz.underlying23 hf;refine⟨a,b,?_⟩;simp only[Value.cells]at e;rw[←Array.toList_inj.1 (e.trans (by simp:[Value.int .i64 a,.int .i64 b]=#[Value.int .i64 a,.int .i64 b].toList))]
end
section
open Go.RowKit Go.Shelf
theorem dlParts(gs:List GainV)(A:Option Addr)(c:Nat)(fr to_:Int)(ins:Bs)(W:World)(hR:fG W A gs)(_:gs.length≤c)(hn:gs.length≤4611686018427387904)(hE:Env W) :
  Calls Tryz.prog 9 #[.slice A gs.length c,.agg #[.int .i64 fr,.int .i64 to_],.string (bs ins)] W fun e w'=>e = .returned (.bool true)∧Ext W w' :=
 AI gs A c fr to_ ins W hE hR hn
end
end Go.Proofs.YtaegjkllenlfpaaGreatDoor
