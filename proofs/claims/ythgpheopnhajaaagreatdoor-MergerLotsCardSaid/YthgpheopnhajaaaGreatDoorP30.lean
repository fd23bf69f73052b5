/- The seat's texts, part P30. -/
import Derived.Test.YthgpheopnhajaaaGreatDoorP18
import Derived.Test.YthgpheopnhajaaaGreatDoorP22
import Derived.Test.YthgpheopnhajaaaGreatDoorP23
import Derived.Test.YthgpheopnhajaaaGreatDoorP24
import Derived.Test.YthgpheopnhajaaaGreatDoorP25
import Derived.Test.YthgpheopnhajaaaGreatDoorP26
import Derived.Test.YthgpheopnhajaaaGreatDoorP27
import Derived.Test.YthgpheopnhajaaaGreatDoorP28
import Derived.Test.YthgpheopnhajaaaGreatDoorP29
import Derived.Deep.MidRow
import Derived.Deep.RegionHeld3
set_option maxRecDepth 100000
set_option maxHeartbeats 8000000
namespace Go.Proofs.YthgpheopnhajaaaGreatDoor
section
open Go.RowKit
open Go.Maps (Keyed)
attribute [local go_sem] size_bs toList_bs
def jL(w:World)(sp:KSp)(v:Value):Prop:=∃num,v=kv sp.word sp.cl sp.bits num sp.code∧match sp.nums with
 |none=>num = .map none
 |some es=>∃b,num = .map (some b)∧CM w b es
theorem jL.ext{w w':World}{sp:KSp}{v:Value}(h:jL w sp v)(hx:Ext w w'):jL w' sp v:=by
 obtain⟨num,h1,h2⟩:=h;refine⟨num,h1,?_⟩
 cases hn:sp.nums with
 |none=>rw[hn]at h2;exact h2
 |some es =>
  rw[hn]at h2;obtain⟨b,h3,h4⟩:=h2;exact⟨b,h3,h4.ext hx⟩
structure KindsAt (w:World) (D:DataW Value):Prop where
 known:gN D (iU.map (·.1))
 at_:∀p ∈ iU,Maps.has D (.int .i64 (p.1:Nat))=true∧∃v,(∀z,D.atKey (.int .i64 (p.1:Nat)) z = .held v)∧jL w p.2 v
def wl(w:World)(e:Ending)(w':World):Prop:=∃b n D,e = .returned (.map (some b))∧bW w' b n D∧KindsAt w' D∧Ext w w'
def tl(sk:Nat→KK):KK→Option KSp
 |.ka word=>some ⟨word,2,eG,false,some [(5,true,false)]⟩
 |.kd word cl bits none code=>some ⟨word,cl,bits,code,none⟩
 |.kd word cl bits (some s) code=>match sk s with
  |.nm es=>some ⟨word,cl,bits,code,some (es.map (·.2))⟩
  |.tm=>some ⟨word,cl,bits,code,some kD⟩
  |_=>none
 |_=>none
section
variable {c:KC} {sk:Nat→KK} {tab:List (Nat × Nat × Nat)} {ops:Array Oper} {f:Nat} {ls:Array Bool} {bm:Option Nat} {a:Act} {w:World}
theorem NM.whole{es:List (Nat × Nat × Bool × Bool)}{b:Nat}(h:NM f ls w es b)(hall:∀e ∈ es,ls.getD e.1 false=true):CM w b (es.map (·.2)):=by
 obtain⟨n,D,h1,h2,h3,h4⟩:=h;refine⟨n,D,h1,by omega,by rw[List.map_map];exact h3,fun e he=>?_⟩;rw[List.mem_map]at he;obtain⟨e2,he2,rfl⟩:=he;exact h4 e2 he2 (hall e2 he2)
theorem KInv.spec(h:KInv c sk tab ops f ls bm a w)(hall:∀s es,sk s = .nm es→∀e ∈ es,ls.getD e.1 false=true){d:Nat}(hf:aY ops ls d){sp:KSp}(hs:tl sk (sk d)=some sp):jL w sp (cK a d):=by
 have hF:=h.fits d hf;generalize cK a d=v at *;generalize hk:sk d=k at *
 cases k with
 |ka word =>
  cases hs;obtain⟨b,rfl,_,_,_,h4⟩:=hF;exact⟨_,rfl,b,rfl,h4⟩
 |kd word cl bits src code =>
  obtain⟨rfl,h2⟩:=hF
  cases src with
  |none =>
   cases hs;exact⟨_,rfl,rfl⟩
  |some s =>
   have hF0:=h.fits s (h2 s rfl);unfold tl at hs;dsimp only at hs;unfold oN;dsimp only;generalize cK a s=v0 at *;generalize hk0:sk s=k0 at *
   cases k0 with
   |nm es =>
    cases hs;obtain⟨b,rfl,_,_,_,hm⟩:=hF0;exact⟨_,rfl,b,rfl,hm.whole (hall s es hk0)⟩
   |tm =>
    cases hs;have:v0 = .map (some c.Bt):=hF0;subst this
    exact⟨_,rfl,c.Bt,rfl,h.tr⟩
   |_=>cases hs
 |_=>cases hs
end
theorem Ax:∀p ∈ iU,∃e ∈ kE,e.2.1=p.1∧tl jN (jN e.2.2)=some p.2:=by
 have h:kE.map (fun e=>(e.2.1,tl jN (jN e.2.2)))=iU.map (fun p=>(p.1,some p.2)):=by rfl
 intro p hp;have:(p.1,some p.2) ∈ kE.map (fun e=>(e.2.1,tl jN (jN e.2.2))):=by rw[h];exact List.mem_map.2 ⟨p,hp,rfl⟩
 obtain⟨e,he,h2⟩:=List.mem_map.1 this
 exact⟨e,he,congrArg Prod.fst h2,congrArg Prod.snd h2⟩
theorem Ew{s:Nat}{es:List (Nat × Nat × Bool × Bool)}(h:jN s = .nm es):∀e ∈ es,e.1<124:=by
 have hb:(lU.all fun p=>match p.2 with | .nm es=>es.all (fun e=>decide (e.1<124)) | _=>true)=true:=by rfl
 rw[List.all_eq_true]at hb;have h1:=hb _ (qd h);dsimp only at h1;rw[List.all_eq_true]at h1;intro e he;simpa using h1 e he
theorem CE{w:World}{v4 v5 v6:Value}{D:DataW Value}(h4:dV w v4 true false)(h5:dV w v5 false false)(h6:dV w v6 false false)(hD:D=(((DataW.map []).put (.int .i64 4) (.held v4)).put (.int .i64 5) (.held v5)).put (.int .i64 6) (.held v6)){b n:Nat}(hM:bW w b n D)(hn:n≤200):CM w b kD:=by
 subst hD;have m0:Maps.IsMap (DataW.map (H:=Value) []):=⟨[],rfl⟩;refine⟨n,_,hM,hn,im (im (im (jZ kY (by simp)) 4 (by simp[kD]) _) 5 (by simp[kD]) _) 6 (by simp[kD]) _,?_⟩;have a4:iK w ((DataW.map []).put (.int .i64 (4:Nat)) (.held v4)) 4 true false:=lQ m0 4 h4;intro e he;simp only[kD,List.mem_cons,List.not_mem_nil,or_false]at he;rcases he with rfl|rfl|rfl
 ·exact kZ (kZ a4 (by decide) _) (by decide) _
 ·exact kZ (lQ (m0.put _ _) 5 h5) (by decide) _
 ·exact lQ ((m0.put _ _).put _ _) 6 h6
theorem xW(w:World):Calls Tryz.prog 89 #[] w (wl w):=by
 have hmm:=@run_makeMap Tryz.prog;go_enter Tryz.func89,Tryz.ntmps89;go_wp2_with fail;refine(d6 true false _).mono ?_;rintro e w1⟨rfl,p1,p2,hx1⟩;have LP:Hid (dV w1 (jK w.heap.size (w.heap.size+1)) true false):=qh ⟨_,_,rfl,p1,p2⟩;have HX:=qh hx1;clear hx1 p1 p2;go_wp2_with fail;refine(d6 false false _).mono ?_;rintro e w2⟨rfl,p1,p2,hx1⟩;have LL:Hid (dV w2 (jK w1.heap.size (w1.heap.size+1)) false false):=qh ⟨_,_,rfl,p1,p2⟩;replace LP:=qh (LP.out.ext hx1);replace HX:=HX.qt hx1;clear hx1 p1 p2;have HX5:Hid (Ext w2 ((w2.alloc (.cells #[jK w.heap.size (w.heap.size+1)] pi)).alloc (.cells #[fw] FT))):=qh ((Ext.new _ _).alloc _);replace LP:=qh (LP.out.ext HX5.out);replace LL:=qh (LL.out.ext HX5.out);have B1:=qh ((Blk.new w2 pi #[jK w.heap.size (w.heap.size+1)]).alloc (.cells #[fw] FT));have B3:=qh (Blk.newAt (w2.alloc (.cells #[jK w.heap.size (w.heap.size+1)] pi)) FT #[fw] (w2.heap.size+1) (by simp));replace HX:=qh (HX.out.trans HX5.out);clear HX5;go_upto_region 5 with fail;generalize hW5:(w2.alloc (.cells #[jK w.heap.size (w.heap.size+1)] pi)).alloc (.cells #[fw] FT)=W5 at *;clear hW5;generalize jK w.heap.size (w.heap.size+1)=lvP at *;generalize jK w1.heap.size (w1.heap.size+1)=lvL at *;generalize w2.heap.size=G at *;have M:bW (W5.alloc (.map #[] 0)) W5.heap.size 0 (.map []):=World.ownsMap_made _ _ _ _;have hxw:Ext W5 (W5.alloc (.map #[] 0)):=Ext.new _ _;have q1:=(B1.out.ext hxw).cell 0;simp only[List.getElem?_toArray,List.getElem?_cons_zero]at q1;go_wp2_with (first|(refine eR _ rfl _ _ _ 142 rfl 3 204 gI Tryz.underlying142 RK W5.heap.size (0) _ rfl M (by unfold maxLen;omega) (.int .i64 4) _ _ rfl rfl (mp 4 (by decide)) _ [] rfl ?_;intro u1 M1 hg;refine bD ?_)|fail);refine aX ?_;replace hxw:=hxw.only hg (Nat.le_refl _);clear hg M;have M:=M1;clear M1;go_wp2_with (first|(refine eR _ rfl _ _ _ 142 rfl 3 204 gI Tryz.underlying142 RK W5.heap.size (0+1) _ rfl M (by unfold maxLen;omega) (.int .i64 5) _ _ rfl rfl (mp 5 (by decide)) _ [] rfl ?_;intro u2 M1 hg;refine bD ?_)|fail);refine aX ?_;replace hxw:=hxw.only hg (Nat.le_refl _);clear hg M;have M:=M1;clear M1;go_wp2_with (first|(refine eR _ rfl _ _ _ 142 rfl 3 204 gI Tryz.underlying142 RK W5.heap.size (0+1+1) _ rfl M (by unfold maxLen;omega) (.int .i64 6) _ _ rfl rfl (mp 6 (by decide)) _ [] rfl ?_;intro u3 M1 hg;refine bD ?_)|fail);refine aX ?_;replace hxw:=hxw.only hg (Nat.le_refl _);clear hg M;have M:=M1;clear M1;clear q1;have HT:=qh (CE (LP.out.ext hxw) (LL.out.ext hxw) (LL.out.ext hxw) rfl M (by omega));have hle:Hid (w.heap.size≤W5.heap.size):=qh HX.out.size;replace HX:=HX.qt hxw;replace B1:=qh (B1.out.ext hxw);replace B3:=qh (B3.out.ext hxw);replace LP:=qh (LP.out.ext hxw);replace LL:=qh (LL.out.ext hxw);clear M hxw hmm;go_wp2_with fail;generalize W5.heap.size=Bt at *;refine wp_region_any (by kernel_rfl) ?_;show wpAny Tryz.prog .any dU _ dU.size (Array.replicate dU.size false) _ _;have hsz:dU.size=124:=by kernel_rfl
 have hacc:((List.range dU.size).all fun i=>match dU[i]? with|some o=>o.after.toList.all (fun e=>decide (e.on<i))|none=>true)=true:=by kernel_rfl
 refine kT (Inv:=fun f listed a w'=>f≤190∧dC ⟨w,G,G+1,lvP,Bt⟩ jN kE dU f listed a w') ?_ ?_ ?_ _ _ _ _ ⟨by rw[hsz];omega,none,?_⟩
 ·rintro f listed a w'⟨hf,bm,h⟩ hr;have hall:=kV hacc hr h.size;have f0:=h.fits 0 (.inr ⟨123,_,rfl,hall 123 (by omega),rfl⟩);obtain⟨b,e0,eb⟩:=f0;obtain⟨h1,_,n,D,h3,h4,h5,h6⟩:=h.main b eb
  have hK:KindsAt w' D:=⟨h5,fun p hp=>by
   obtain⟨e,he,e1,e2⟩:=Ax p hp;have hlt:∀e ∈ kE,e.1<124:=by decide
   obtain⟨g1,g2,g3⟩:=h6 e he (hall e.1 (by have:=hlt e he;omega));rw[e1]at g2 g3;exact⟨g2,_,g3,h.spec (fun s es hs e he=>hall e.1 (by have:=Ew hs e he;omega)) g1 e2⟩⟩
  have hx:=h.ext;have hd:=h.dfr;clear hall h hr hacc HX HT B1 B3 hle LP LL h6;unfold Exit.then;dsimp only;go_wp2_with fail;have e0:a.tmps.getD 0 undef = .map (some b):=e0;refine bodyPost_ret (v := .map (some b)) ?_ hd ⟨b,n,D,rfl,h3,hK,hx⟩;have hres:Tryz.f89.results=#[.tmp 0]:=rfl;unfold results;rw[hres];simp only[List.mapM_toArray,List.mapM_cons,List.mapM_nil,e0];go_simp
 ·rintro listed a w'⟨_,bm,h⟩;exact kU (by have:=h.cnt;omega) h.size
 ·rintro f listed a w' i⟨hf,bm,h⟩ hi;exact wpOp_mono (fun _ _ h=>⟨by omega,h⟩) (Ev i (by have:=cX hi;omega) h hi (by omega))
 ·have hnf:∀j,¬ (Array.replicate dU.size false).getD j false=true:=fun j hl=>by
   rw[Array.getD_eq_getD_getElem?,Array.getElem?_replicate]at hl;split at hl <;> cases hl
  have hb:∀d,aY dU (Array.replicate dU.size false) d→d=2∨d=4∨d=5∨d=6:=fun d hd=>by
   rcases hd with hd | ⟨i,o,ho,hl,hd⟩
   ·exact hd
   ·exact absurd hl (hnf i)
  refine⟨by rw[Array.size_replicate],?_,HX.out.drew,rfl,rfl,rfl,rfl,B1.out.drew,B3.out.drew,LP.out.ext (Ext.refl _).drew,HT.out.ext (Ext.refl _).drew,?_,?_,(fun b e=>by cases e),fun _=>rfl,fun j _ _ _ hl=>absurd hl (hnf j)⟩
  ·rw[Array.toList_replicate,List.count_replicate_self];exact Nat.le_refl _
  ·intro d hd;rcases hb d hd with rfl|rfl|rfl|rfl
   ·exact LL.out.ext (Ext.refl _).drew
   ·rfl
   ·rfl
   ·rfl
  ·intro d d' hne hd hd' h1 h2;rcases hb d hd with rfl|rfl|rfl|rfl <;> cases h1
end
section
open Go.RowKit
open Go.Maps (Keyed)
attribute [local go_sem] size_bs toList_bs
def jf(f:FactV):Nat→Fr
 |4=>⟨f.qty,[]⟩
 |5=>⟨f.amt,[]⟩
 |6=>⟨f.fee,[]⟩
 |7=>f.price
 |8=>f.ratio
 |_=>f.share
def gQ(s:Bs):Int:=if ax s=true then 0 else 23
def ey(f:FactV)(code:Bool):Int:=if code=true then(if gv f.other=false then 12 else if f.other=f.cur then 18 else 0) else(if ax f.other=false then 23 else if f.other=f.ins then 18 else 0)
def Ay(f:FactV):Int:=if gv f.cur=true then 0 else 12
def qg(f:FactV):Int:=if f.choice<0 then 2 else 0
theorem Ex(f:Fr)(h1:f.num.length≤9000)(h2:f.den.length≤9000)(p q:Bool)(hpq:p=false∨q=false)(g1 g2:Nat)(w:World)(hE:Env w)(b1:Blk w g1 4 #[.bool p])(b2:Blk w g2 4 #[.bool q]) :
  Calls Tryz.prog 216 #[.agg #[.string (bs f.num),.string (bs f.den)],.pointer (some ⟨g1,0,none⟩),.pointer (some ⟨g2,0,none⟩)] w fun e w'=>e = .returned (.int .i64 (dj f p q))∧Ext w w':=by
 cases q
 ·rw[pm];exact vX f h1 h2 p g1 g2 w hE b1 b2
 ·obtain rfl:p=false:=by simpa using hpq
  exact DR f h1 h2 g1 g2 w hE b1 b2
theorem Ey{w:World}{b n:Nat}{D:DataW Value}{k:Nat}{v:Value}(hM:bW w b n D)(hk:k<13)(h2:∀z,D.atKey (.int .i64 (k:Nat)) z = .held v) :
  (Instr.lookup MT (.map (some b)) (.int .i64 (k:Nat)) false).run Tryz.prog w = .ok v w:=by
 obtain⟨v',ps,h1,h3⟩:=World.ownsMap.lookup hM (t:=MT) (e:=pi) gI Tryz.underlying142 (Tryz.zeroValue204 w) (zd := .held _) (zp:=[]) rfl (mp (k:Nat) (by omega));rw[h2]at h3;unfold RK at h3;injection h3 with h3
 injection h3 with h3 _
 injection h3 with h3
 subst h3;exact h1
section
variable (f:FactV) (P O:Value) (K:Array Value) (w:World)
theorem Az(hs:f.ins.length≤9000):Calls Tryz.prog 90 #[aB f P O,.agg K,.int .i64 0] w fun e w'=>e = .returned (.int .i64 (gQ f.ins))∧Ext w w':=by
 have HB:=qh (Blk.new w 30 (af f P O));have HX0:Hid (Ext w (w.alloc (.cells (af f P O) 30))):=qh (Ext.new _ _);have HX:Hid (Ext w ((w.alloc (.cells (af f P O) 30)).alloc (.cells K 144))):=qh ((Ext.new _ _).alloc _);replace HB:=qh (HB.out.alloc (.cells K 144));have HN:=qh (fun W=>td f.ins W hs);unfold gQ;generalize (if ax f.ins=true then(0:Int) else 23)=r at *;go_enter Tryz.func90,Tryz.ntmps90;obtain⟨-,-,-,-,-,x5,-⟩:=ae HB.out (Ext.refl _);go_wp2_with fail;refine(HN.out _).mono ?_;rintro e v3⟨rfl,hx1⟩;replace HX:=HX.qt hx1;clear hx1;go_wp2_with fail;go_ret;exact⟨rfl,HX.out⟩
theorem AA(hs:f.tgt.length≤9000):Calls Tryz.prog 90 #[aB f P O,.agg K,.int .i64 3] w fun e w'=>e = .returned (.int .i64 (gQ f.tgt))∧Ext w w':=by
 have HB:=qh (Blk.new w 30 (af f P O));have HX0:Hid (Ext w (w.alloc (.cells (af f P O) 30))):=qh (Ext.new _ _);have HX:Hid (Ext w ((w.alloc (.cells (af f P O) 30)).alloc (.cells K 144))):=qh ((Ext.new _ _).alloc _);replace HB:=qh (HB.out.alloc (.cells K 144));have HN:=qh (fun W=>td f.tgt W hs);unfold gQ;generalize (if ax f.tgt=true then(0:Int) else 23)=r at *;go_enter Tryz.func90,Tryz.ntmps90;obtain⟨-,-,-,-,-,-,-,-,x8,-⟩:=ae HB.out (Ext.refl _);go_wp2_with fail;refine(HN.out _).mono ?_;rintro e v7⟨rfl,hx1⟩;replace HX:=HX.qt hx1;clear hx1;go_wp2_with fail;go_ret;exact⟨rfl,HX.out⟩
theorem AB(hs:f.cur.length≤9000):Calls Tryz.prog 90 #[aB f P O,.agg K,.int .i64 2] w fun e w'=>e = .returned (.int .i64 (Ay f))∧Ext w w':=by
 have HB:=qh (Blk.new w 30 (af f P O));have HX0:Hid (Ext w (w.alloc (.cells (af f P O) 30))):=qh (Ext.new _ _);have HX:Hid (Ext w ((w.alloc (.cells (af f P O) 30)).alloc (.cells K 144))):=qh ((Ext.new _ _).alloc _);replace HB:=qh (HB.out.alloc (.cells K 144));have HN:=qh (fun W=>xK f.cur (by omega) W);unfold Ay;generalize gv f.cur=b at *;go_enter Tryz.func90,Tryz.ntmps90;obtain⟨-,-,-,-,-,-,-,x7,-⟩:=ae HB.out (Ext.refl _);go_wp2_with fail;refine(HN.out _).mono ?_;rintro e v11⟨rfl,hx1⟩;replace HX:=HX.qt hx1;clear hx1
 cases b
 ·skip;go_wp2_with fail;go_ret;exact⟨rfl,HX.out⟩
 ·skip;go_wp2_with fail;go_ret;exact⟨rfl,HX.out⟩
theorem xX:Calls Tryz.prog 90 #[aB f P O,.agg K,.int .i64 12] w fun e w'=>e = .returned (.int .i64 (qg f))∧Ext w w':=by
 have HB:=qh (Blk.new w 30 (af f P O));have HX0:Hid (Ext w (w.alloc (.cells (af f P O) 30))):=qh (Ext.new _ _);have HX:Hid (Ext w ((w.alloc (.cells (af f P O) 30)).alloc (.cells K 144))):=qh ((Ext.new _ _).alloc _);replace HB:=qh (HB.out.alloc (.cells K 144));unfold qg;go_enter Tryz.func90,Tryz.ntmps90;obtain⟨-,-,-,-,-,-,-,-,-,-,-,-,-,-,-,-,-,-,-,-,x20⟩:=ae HB.out (Ext.refl _);by_cases hc:f.choice<0
 ·have g:decide (f.choice<0)=true:=decide_eq_true hc;rw[if_pos hc];go_wp2_with fail;go_ret;exact⟨rfl,HX.out⟩
 ·have g:decide (f.choice<0)=false:=decide_eq_false hc;rw[if_neg hc];go_wp2_with fail;go_ret;exact⟨rfl,HX.out⟩
theorem xY(r:Int)(h:∀W,Ext w W→Calls Tryz.prog 156 #[aB f P O] W fun e w'=>e = .returned (.int .i64 r)∧Ext W w') :
  Calls Tryz.prog 90 #[aB f P O,.agg K,.int .i64 10] w fun e w'=>e = .returned (.int .i64 r)∧Ext w w':=by
 have HB:=qh (Blk.new w 30 (af f P O));have HX0:Hid (Ext w (w.alloc (.cells (af f P O) 30))):=qh (Ext.new _ _);have HX:Hid (Ext w ((w.alloc (.cells (af f P O) 30)).alloc (.cells K 144))):=qh ((Ext.new _ _).alloc _);replace HB:=qh (HB.out.alloc (.cells K 144));have HN:=qh (fun W hx=>h W hx);clear h;have hs1:(Tryz.prog.info? 30).map (·.size)=some (af f P O).toList.length:=by kernel_rfl
 have hrg:=aA HB.out;go_enter Tryz.func90,Tryz.ntmps90;go_wp2_with (first|refine wpList_load_mid rfl 30 _ rfl w.heap.size 0 rfl _ _ hrg Tryz.underlying30 rfl hs1 ?_|fail);refine(HN.out _ HX.out).mono ?_;rintro e v20⟨rfl,hx1⟩;replace HX:=HX.qt hx1;clear hx1;go_wp2_with fail;go_ret;exact⟨rfl,HX.out⟩
theorem xZ(r:Int)(h:∀W,Ext w W→Calls Tryz.prog 157 #[aB f P O] W fun e w'=>e = .returned (.int .i64 r)∧Ext W w') :
  Calls Tryz.prog 90 #[aB f P O,.agg K,.int .i64 11] w fun e w'=>e = .returned (.int .i64 r)∧Ext w w':=by
 have HB:=qh (Blk.new w 30 (af f P O));have HX0:Hid (Ext w (w.alloc (.cells (af f P O) 30))):=qh (Ext.new _ _);have HX:Hid (Ext w ((w.alloc (.cells (af f P O) 30)).alloc (.cells K 144))):=qh ((Ext.new _ _).alloc _);replace HB:=qh (HB.out.alloc (.cells K 144));have HN:=qh (fun W hx=>h W hx);clear h;have hs1:(Tryz.prog.info? 30).map (·.size)=some (af f P O).toList.length:=by kernel_rfl
 have hrg:=aA HB.out;go_enter Tryz.func90,Tryz.ntmps90;go_wp2_with (first|refine wpList_load_mid rfl 30 _ rfl w.heap.size 0 rfl _ _ hrg Tryz.underlying30 rfl hs1 ?_|fail);refine(HN.out _ HX.out).mono ?_;rintro e v24⟨rfl,hx1⟩;replace HX:=HX.qt hx1;clear hx1;go_wp2_with fail;go_ret;exact⟨rfl,HX.out⟩
end
section
variable (f:FactV) (P O:Value) (word:Bs) (cl:Int) (b0 b1 b2 b3 b4 b5 b6 b7 b8 b9 b10 b11 b12:Bool) (num:Value) (code:Bool) (w:World)
abbrev mw(word:Bs)(cl:Int)(b0 b1 b2 b3 b4 b5 b6 b7 b8 b9 b10 b11 b12:Bool)(num:Value)(code:Bool):Array Value:=(aL word cl [b0,b1,b2,b3,b4,b5,b6,b7,b8,b9,b10,b11,b12] num code).toArray
theorem AC(h1:f.other.length≤9000):Calls Tryz.prog 90 #[aB f P O,.agg (mw word cl b0 b1 b2 b3 b4 b5 b6 b7 b8 b9 b10 b11 b12 num code),.int .i64 1] w fun e w'=>e = .returned (.int .i64 (ey f code))∧Ext w w':=by
 have HB:=qh (Blk.new w 30 (af f P O));have HX0:Hid (Ext w (w.alloc (.cells (af f P O) 30))):=qh (Ext.new _ _);have HX:Hid (Ext w ((w.alloc (.cells (af f P O) 30)).alloc (.cells (mw word cl b0 b1 b2 b3 b4 b5 b6 b7 b8 b9 b10 b11 b12 num code) 144))):=qh ((Ext.new _ _).alloc _);replace HB:=qh (HB.out.alloc (.cells (mw word cl b0 b1 b2 b3 b4 b5 b6 b7 b8 b9 b10 b11 b12 num code) 144));have HK:=qh (Blk.newAt (w.alloc (.cells (af f P O) 30)) 144 (mw word cl b0 b1 b2 b3 b4 b5 b6 b7 b8 b9 b10 b11 b12 num code) (w.heap.size+1) (by simp));have HN:Hid (∀W,Calls Tryz.prog 154 #[.string (bs f.other)] W fun e w'=>e = .returned (.int .i64 (gQ f.other))∧Ext W w'):=qh (fun W=>td f.other W h1);have HC:=qh (fun W=>xK f.other (by omega) W);have R0:Hid (code=true→gv f.other=false→ey f code=12):=qh (fun a b=>by unfold ey;rw[if_pos a,if_pos b]);have R1:Hid (code=true→gv f.other=true→f.other=f.cur→ey f code=18):=qh (fun a b c=>by unfold ey;rw[if_pos a,if_neg (by rw[b];decide),if_pos c]);have R2:Hid (code=true→gv f.other=true→f.other≠f.cur→ey f code=0):=qh (fun a b c=>by unfold ey;rw[if_pos a,if_neg (by rw[b];decide),if_neg c]);have S0:Hid (code=false→ax f.other=false→ey f code=23∧gQ f.other=23):=qh (fun a b=>by unfold ey gQ;rw[if_neg (by rw[a];decide),if_pos b,if_neg (by rw[b];decide)];exact⟨rfl,rfl⟩);have S1:Hid (code=false→ax f.other=true→gQ f.other=0∧(f.other=f.ins→ey f code=18)∧(f.other≠f.ins→ey f code=0)):=qh (fun a b=>⟨by unfold gQ;rw[if_pos b],fun c=>by unfold ey;rw[if_neg (by rw[a];decide),if_neg (by rw[b];decide),if_pos c],fun c=>by unfold ey;rw[if_neg (by rw[a];decide),if_neg (by rw[b];decide),if_neg c]⟩);generalize ey f code=r at *;generalize gQ f.other=ne at *;generalize ax f.other=nm at *;generalize gv f.other=cd at *;go_enter Tryz.func90,Tryz.ntmps90;obtain⟨-,-,-,-,-,x5,x6,x7,-⟩:=ae HB.out (Ext.refl _);obtain⟨_,_,_,_,_,_,_,_,_,_,_,_,_,_,_,_,k16⟩:=qa HK.out
 cases code
 ·clear R0 R1 R2 HC
  cases nm
  ·obtain⟨e0,e1⟩:=S0.out (by trivial) (by trivial);subst e0;subst e1;clear S0 S1;go_wp2_with fail;refine(HN.out _).mono ?_;rintro e v28⟨rfl,hx1⟩;replace HX:=HX.qt hx1;clear hx1;go_wp2_with fail;go_ret;exact⟨rfl,HX.out⟩
  ·obtain⟨e1,E2,E3⟩:=S1.out (by trivial) (by trivial);subst e1;have G2:=qh E2;have G3:=qh E3;clear S0 S1 E2 E3;go_wp2_with fail;refine(HN.out _).mono ?_;rintro e v30⟨rfl,hx1⟩;replace HB:=qh (HB.out.ext hx1);replace HX:=HX.qt hx1;clear hx1;clear x5 x6 x7 k16;obtain⟨-,-,-,-,-,x5,x6,-⟩:=ae HB.out (Ext.refl _);by_cases ho:f.other=f.ins
   ·have g:(f.other == f.ins)=true:=beq_iff_eq.2 ho;have e0:=G2.out ho;subst e0;clear ho G2 G3;go_wp2_with fail;go_ret;exact⟨rfl,HX.out⟩
   ·have g:(f.other == f.ins)=false:=beq_eq_false_iff_ne.2 ho;have e0:=G3.out ho;subst e0;clear ho G2 G3;go_wp2_with fail;go_ret;exact⟨rfl,HX.out⟩
 ·clear S0 S1 HN
  cases cd
  ·have e0:=R0.out (by trivial) (by trivial);subst e0;clear R0 R1 R2;go_wp2_with fail;refine(HC.out _).mono ?_;rintro e v34⟨rfl,hx1⟩;replace HX:=HX.qt hx1;clear hx1;go_wp2_with fail;go_ret;exact⟨rfl,HX.out⟩
  ·replace R1:=qh (R1.out (by trivial) (by trivial));replace R2:=qh (R2.out (by trivial) (by trivial));clear R0;go_wp2_with fail;refine(HC.out _).mono ?_;rintro e v36⟨rfl,hx1⟩;replace HB:=qh (HB.out.ext hx1);replace HX:=HX.qt hx1;clear hx1;clear x5 x6 x7 k16;obtain⟨-,-,-,-,-,-,x6,x7,-⟩:=ae HB.out (Ext.refl _);by_cases ho:f.other=f.cur
   ·have g:(f.other == f.cur)=true:=beq_iff_eq.2 ho;have e0:=R1.out ho;subst e0;clear ho R1 R2;go_wp2_with fail;go_ret;exact⟨rfl,HX.out⟩
   ·have g:(f.other == f.cur)=false:=beq_eq_false_iff_ne.2 ho;have e0:=R2.out ho;subst e0;clear ho R1 R2;go_wp2_with fail;go_ret;exact⟨rfl,HX.out⟩
theorem nw(k:Nat)(hk:k<13)(t:((k:Int) == 0)=false∧((k:Int) == 1)=false∧((k:Int) == 2)=false∧((k:Int) == 3)=false∧((k:Int) == 10)=false∧((k:Int) == 11)=false∧((k:Int) == 12)=false)(FR:Fr)(hix:qZ f k (.string (bs FR.num)) (.string (bs FR.den)))(b:Nat)(es:lB)(p q:Bool)(hCM:CM w b es)(hin:(k,p,q) ∈ es)(hpq:p=false∨q=false)(h1:FR.num.length≤9000)(h2:FR.den.length≤9000)(hE:Env w) :
  Calls Tryz.prog 90 #[aB f P O,.agg (mw word cl b0 b1 b2 b3 b4 b5 b6 b7 b8 b9 b10 b11 b12 (.map (some b)) code),(.int .i64 (k:Nat))] w fun e w'=>e = .returned (.int .i64 (dj FR p q))∧Ext w w':=by
 have HB:=qh (Blk.new w 30 (af f P O));have HX0:Hid (Ext w (w.alloc (.cells (af f P O) 30))):=qh (Ext.new _ _);have HX:Hid (Ext w ((w.alloc (.cells (af f P O) 30)).alloc (.cells (mw word cl b0 b1 b2 b3 b4 b5 b6 b7 b8 b9 b10 b11 b12 (.map (some b)) code) 144))):=qh ((Ext.new _ _).alloc _);replace HB:=qh (HB.out.alloc (.cells (mw word cl b0 b1 b2 b3 b4 b5 b6 b7 b8 b9 b10 b11 b12 (.map (some b)) code) 144));have HK:=qh (Blk.newAt (w.alloc (.cells (af f P O) 30)) 144 (mw word cl b0 b1 b2 b3 b4 b5 b6 b7 b8 b9 b10 b11 b12 (.map (some b)) code) (w.heap.size+1) (by simp));obtain⟨t0,t1,t2,t3,t10,t11,t12⟩:=t;have HE:=qh hE;have LIM:Hid (∀g1 g2 W,Env W→Blk W g1 4 #[.bool p]→Blk W g2 4 #[.bool q]→Calls Tryz.prog 216 #[.agg #[.string (bs FR.num),.string (bs FR.den)],.pointer (some ⟨g1,0,none⟩),.pointer (some ⟨g2,0,none⟩)] W fun e w'=>e = .returned (.int .i64 (dj FR p q))∧Ext W w'):=qh (fun g1 g2 W hE b1 b2=>Ex FR h1 h2 p q hpq g1 g2 W hE b1 b2);have GV:=qh (je f P O (k:Nat) (bs FR.num) (bs FR.den) hix);generalize dj FR p q=r at *;obtain⟨n,D,hM,_,_,hent⟩:=hCM.ext HX.out;obtain⟨_,v0,hat,g1,g2,rfl,c1,c2⟩:=hent _ hin;have HM:=qh hM;have HAT:=qh hat;have C1:=qh c1;have C2:=qh c2;clear hM hat c1 c2 hent hCM h1 h2 hpq hin hE;have hs1:(Tryz.prog.info? 30).map (·.size)=some (af f P O).toList.length:=by kernel_rfl
 go_enter Tryz.func90,Tryz.ntmps90;go_upto_region 3 with fail;generalize (w.alloc (.cells (af f P O) 30)).alloc (.cells (mw word cl b0 b1 b2 b3 b4 b5 b6 b7 b8 b9 b10 b11 b12 (.map (some b)) code) 144)=W0 at *;refine wp_region_held_drew (S:=fun w'=>Ext W0 w') (by kernel_rfl) (Ext.refl _).drew (fun hHeld=>?_);have HD:Hid (Ext W0 W0.drew):=qh (Ext.refl W0).drew;refine tk 0 (.pointer (some ⟨w.heap.size+1,15,none⟩)) rfl (by kernel_rfl) (fun _ _ _ h=>h) (Or.inl ⟨by kernel_rfl,?_⟩) (by assumption) ?_
 ·intro W hSw;(try dsimp only at hSw)
  skip;go_simp
 (try simp only[p4])
 refine tk 1 (.map (some b)) rfl (by kernel_rfl) (fun _ _ _ h=>h) (Or.inl ⟨by kernel_rfl,?_⟩) (by assumption) ?_
 ·intro W hSw;(try dsimp only at hSw)
  obtain⟨_,_,_,_,_,_,_,_,_,_,_,_,_,_,_,k15,_⟩:=qa (HK.out.ext hSw);go_simp
 (try simp only[p4])
 refine tk 2 ((.int .i64 (k:Nat))) rfl (by kernel_rfl) (fun _ _ _ h=>h) (Or.inl ⟨by kernel_rfl,?_⟩) (by assumption) ?_
 ·intro W hSw;(try dsimp only at hSw)
  skip;go_simp
 (try simp only[p4])
 refine tk 3 (jK g1 g2) rfl (by kernel_rfl) (fun _ _ _ h=>h) (Or.inl ⟨by kernel_rfl,?_⟩) (by assumption) ?_
 ·intro W hSw;(try dsimp only at hSw)
  have hl:(Instr.lookup 142 (.map (some b)) (.int .i64 (k:Nat)) false).run Tryz.prog W = .ok (jK g1 g2) W:=Ey (HM.out.ext hSw) (k:=k) hk HAT.out;go_simp
 (try simp only[p4])
 refine tk 4 (.agg (af f P O).toList.toArray) rfl (by kernel_rfl) (fun _ _ _ h=>h) (yieldsIf_load_mid (by kernel_rfl) 30 _ rfl w.heap.size 0 rfl (af f P O).toList _ (fun W hSw=>aA (HB.out.ext hSw)) Tryz.underlying30 rfl hs1) (by assumption) ?_;(try simp only)
 refine tk 5 ((.int .i64 (k:Nat))) rfl (by kernel_rfl) (fun _ _ _ h=>h) (Or.inl ⟨by kernel_rfl,?_⟩) (by assumption) ?_
 ·intro W hSw;(try dsimp only at hSw)
  skip;go_simp
 (try simp only[p4])
 refine wpAnyH_ready (rs:=[6]) (by kernel_rfl) (by simp) ?_;refine AllReadyH.cons rfl (fun K hK=>?_) (AllReadyH.nil);go_simp;refine(GV.out _).mono ?_;rintro e w5⟨rfl,hx5⟩;replace HD:=HD.qt hx5;clear hx5;refine hK.out _ _ HD.out (fun hHeld=>?_);clear hK K;(try simp only[p4])
 refine wpAnyH_ready (rs:=[7]) (by kernel_rfl) (by simp) ?_;refine AllReadyH.cons rfl (fun K hK=>?_) (AllReadyH.nil);go_simp;refine(LIM.out _ _ _ (HE.out.ext (HX.out.trans HD.out)) (C1.out.ext HD.out) (C2.out.ext HD.out)).mono ?_;rintro e w7⟨rfl,hx7⟩;replace HD:=HD.qt hx7;clear hx7;refine hK.out _ _ HD.out (fun hHeld=>?_);clear hK K;(try simp only[p4])
 refine tk 8 (.int .i64 r) rfl (by kernel_rfl) (fun _ _ _ h=>h) (Or.inl ⟨by kernel_rfl,?_⟩) (by assumption) ?_
 ·intro W hSw;(try dsimp only at hSw)
  skip;go_simp
 (try simp only[p4])
 refine wpAnyH_done (by kernel_rfl) ?_ _;replace HX:=qh (HX.out.trans HD.out);go_wp2_with fail;go_ret;exact⟨rfl,HX.out⟩
end
end
section
open Go.RowKit
open Go.Maps (Keyed)
attribute [local go_sem] size_bs toList_bs
def eV(k:Int):Option KSp:=(iU.find? fun p=>((p.1:Nat):Int) == k).map (·.2)
def mx(f:FactV)(ps:List Fr)(os:List OptV)(sp:KSp):Nat→Int
 |0=>gQ f.ins
 |1=>ey f sp.code
 |2=>Ay f
 |3=>gQ f.tgt
 |10=>jw ps f.qty
 |11=>iR f.ins os
 |12=>qg f
 |k=>match (sp.nums.getD []).lookup k with
  |some pq=>dj (jf f k) pq.1 pq.2
  |none=>0
def fY(f:FactV)(ps:List Fr)(os:List OptV)(sp:KSp)(k:Nat):Int:=if sp.bits.getD k false=true then mx f ps os sp k else if br f ps.length os.length k=true then 0 else 1
def cP(f:FactV)(ps:List Fr)(os:List OptV):Int :=
 if ax f.key=false then 23 else if f.stamp<0 then 2
 else if f.canc=true then(if bj f.day f.kind f.choice f.ins f.other f.cur f.tgt f.qty f.amt f.fee f.price.num f.price.den f.ratio.num f.ratio.den f.share.num f.share.den ps.length os.length=true then 0 else 1)
 else if f.day < -25567∨84005<f.day then 13
 else match eV f.kind with
  |none=>7
  |some sp=>ej (fY f ps os sp) 13
structure FactSm (f:FactV):Prop where
 key:f.key.length≤9000
 ins:f.ins.length≤9000
 other:f.other.length≤9000
 cur:f.cur.length≤9000
 tgt:f.tgt.length≤9000
 qty:f.qty.length≤9000
 amt:f.amt.length≤9000
 fee:f.fee.length≤9000
 pn:f.price.num.length≤9000
 pd:f.price.den.length≤9000
 rn:f.ratio.num.length≤9000
 rd:f.ratio.den.length≤9000
 sn:f.share.num.length≤9000
 sd:f.share.den.length≤9000
structure FactAt (w:World) (f:FactV) (ps:List Fr) (os:List OptV) (pa oa:Option Addr) (pc:Nat):Prop where
 sm:FactSm f
 rp:iM w pa ps
 sp:∀p ∈ ps,p.num.length≤9000∧p.den.length≤9000
 np:ps.length≤100000
 cp:ps.length≤pc
 ro:k9 w oa os
 so:∀o ∈ os,eP 9000 o
 no:os.length≤100000
theorem FactAt.ext{w w':World}{f:FactV}{ps:List Fr}{os:List OptV}{pa oa:Option Addr}{pc:Nat}(h:FactAt w f ps os pa oa pc)(hx:Ext w w'):FactAt w' f ps os pa oa pc:=⟨h.sm,h.rp.ext hx,h.sp,h.np,h.cp,h.ro.ext hx,h.so,h.no⟩
def lV(sp:KSp):Bool:=sp.bits.length == 13 && (List.range 13).all fun k=>!(sp.bits.getD k false) || (k<4 || 9<k) || (match (sp.nums.getD []).lookup k with|some pq=>!pq.1 || !pq.2|none=>false)
theorem tp:∀p ∈ iU,lV p.2=true:=by decide
theorem nQ{k:Int}{sp:KSp}(h:eV k=some sp):∃n:Nat,(n:Int)=k∧(n,sp) ∈ iU:=by
 unfold eV at h
 cases e:iU.find? fun p=>((p.1:Nat):Int) == k with
 |none=>rw[e]at h;cases h
 |some p =>
  rw[e]at h
  cases h;exact⟨p.1,by simpa using List.find?_some e,List.mem_of_find?_eq_some e⟩
theorem tu{k:Int}(h:eV k=none):∀p ∈ iU,((p.1:Nat):Int)≠k:=by
 unfold eV at h;rw[Option.map_eq_none_iff,List.find?_eq_none]at h;intro p hp e;exact h p hp (by simpa using e)
theorem rf:∀ {es:lB} {k:Nat} {pq:Bool × Bool},es.lookup k=some pq→(k,pq.1,pq.2) ∈ es
 |[],_,_,h=>by cases h
 |(x,y) :: r,k,pq,h=>by
  rw[List.lookup_cons]at h
  cases e:k == x
  ·rw[e]at h;exact .tail _ (rf h)
  ·rw[e]at h
   cases h;have:k=x:=by simpa using e
   subst this
   exact .head _
section
variable {f:FactV} {ps:List Fr} {os:List OptV} {pa oa:Option Addr} {pc oc:Nat} {sp:KSp} {w:World}
abbrev ya(f:FactV)(P O:Value)(cs:Array Value)(k:Nat)(r:Int)(w:World):Prop:=Calls Tryz.prog 90 #[aB f P O,.agg cs,.int .i64 (k:Nat)] w fun e w'=>e = .returned (.int .i64 r)∧Ext w w'
theorem yb(hA:FactAt w f ps os pa oa pc)(hE:Env w)(hok:lV sp=true){v:Value}(hS:jL w sp v){cs:Array Value}(hv:v = .agg cs){k:Nat}(hk:k<13)(hb:sp.bits.getD k false=true) :
  ya f (ac pa ps.length pc) (ac oa os.length oc) cs k (mx f ps os sp k) w:=by
 obtain⟨num,hkv,hnum⟩:=hS;rw[hv]at hkv
 cases hkv;unfold lV at hok;rw[Bool.and_eq_true,beq_iff_eq,List.all_eq_true]at hok;obtain⟨h13,hall⟩:=hok;have h4:=hall k (List.mem_range.2 hk);rw[hb]at h4;simp only[Bool.not_true,Bool.false_or,Bool.or_eq_true,decide_eq_true_eq]at h4;obtain⟨b0,b1,b2,b3,b4,b5,b6,b7,b8,b9,b10,b11,b12,hbits⟩:=vY h13;rw[hbits];have hm:=hA.sm
 have num_case:¬ (k<4∨9<k)→∃(b:Nat) (es:lB) (pq:Bool × Bool),num = .map (some b)∧CM w b es∧(k,pq.1,pq.2) ∈ es∧(pq.1=false∨pq.2=false)∧(sp.nums.getD []).lookup k=some pq:=by
  intro hn;rcases h4 with h4|h4
  ·exact absurd h4 hn
  ·cases hl:(sp.nums.getD []).lookup k with
   |none=>rw[hl]at h4;cases h4
   |some pq =>
    rw[hl]at h4;dsimp only at h4
    cases hq:sp.nums with
    |none=>rw[hq]at hl;cases hl
    |some es =>
     rw[hq]at hnum hl;obtain⟨b,h5,h6⟩:=hnum;exact⟨b,es,pq,h5,h6,rf hl,by simpa using h4,rfl⟩
 obtain rfl|rfl|rfl|rfl|rfl|rfl|rfl|rfl|rfl|rfl|rfl|rfl|rfl:k=0∨k=1∨k=2∨k=3∨k=4∨k=5∨k=6∨k=7∨k=8∨k=9∨k=10∨k=11∨k=12:=by omega
 ·exact Az f _ _ _ w hm.ins
 ·exact AC f _ _ sp.word sp.cl b0 b1 b2 b3 b4 b5 b6 b7 b8 b9 b10 b11 b12 num sp.code w hm.other
 ·exact AB f _ _ _ w hm.cur
 ·exact AA f _ _ _ w hm.tgt
 ·obtain⟨b,es,pq,rfl,h6,h7,h8,h9⟩:=num_case (by omega);have:=nw f (ac pa ps.length pc) (ac oa os.length oc) sp.word sp.cl b0 b1 b2 b3 b4 b5 b6 b7 b8 b9 b10 b11 b12 sp.code w 4 (by decide) (by decide) ⟨f.qty,[]⟩ (Bp f) b es pq.1 pq.2 h6 h7 h8 hm.qty (by simp) hE
  have e9:mx f ps os sp 4=dj (jf f 4) pq.1 pq.2:=by
   show(match (sp.nums.getD []).lookup 4 with|some pq=>dj (jf f 4) pq.1 pq.2|none=>0)=_;rw[h9]
  rw[e9];exact this
 ·obtain⟨b,es,pq,rfl,h6,h7,h8,h9⟩:=num_case (by omega);have:=nw f (ac pa ps.length pc) (ac oa os.length oc) sp.word sp.cl b0 b1 b2 b3 b4 b5 b6 b7 b8 b9 b10 b11 b12 sp.code w 5 (by decide) (by decide) ⟨f.amt,[]⟩ (Bq f) b es pq.1 pq.2 h6 h7 h8 hm.amt (by simp) hE
  have e9:mx f ps os sp 5=dj (jf f 5) pq.1 pq.2:=by
   show(match (sp.nums.getD []).lookup 5 with|some pq=>dj (jf f 5) pq.1 pq.2|none=>0)=_;rw[h9]
  rw[e9];exact this
 ·obtain⟨b,es,pq,rfl,h6,h7,h8,h9⟩:=num_case (by omega);have:=nw f (ac pa ps.length pc) (ac oa os.length oc) sp.word sp.cl b0 b1 b2 b3 b4 b5 b6 b7 b8 b9 b10 b11 b12 sp.code w 6 (by decide) (by decide) ⟨f.fee,[]⟩ (Br f) b es pq.1 pq.2 h6 h7 h8 hm.fee (by simp) hE
  have e9:mx f ps os sp 6=dj (jf f 6) pq.1 pq.2:=by
   show(match (sp.nums.getD []).lookup 6 with|some pq=>dj (jf f 6) pq.1 pq.2|none=>0)=_;rw[h9]
  rw[e9];exact this
 ·obtain⟨b,es,pq,rfl,h6,h7,h8,h9⟩:=num_case (by omega);have:=nw f (ac pa ps.length pc) (ac oa os.length oc) sp.word sp.cl b0 b1 b2 b3 b4 b5 b6 b7 b8 b9 b10 b11 b12 sp.code w 7 (by decide) (by decide) f.price (Bu f) b es pq.1 pq.2 h6 h7 h8 hm.pn hm.pd hE
  have e9:mx f ps os sp 7=dj (jf f 7) pq.1 pq.2:=by
   show(match (sp.nums.getD []).lookup 7 with|some pq=>dj (jf f 7) pq.1 pq.2|none=>0)=_;rw[h9]
  rw[e9];exact this
 ·obtain⟨b,es,pq,rfl,h6,h7,h8,h9⟩:=num_case (by omega);have:=nw f (ac pa ps.length pc) (ac oa os.length oc) sp.word sp.cl b0 b1 b2 b3 b4 b5 b6 b7 b8 b9 b10 b11 b12 sp.code w 8 (by decide) (by decide) f.ratio (Bv f) b es pq.1 pq.2 h6 h7 h8 hm.rn hm.rd hE
  have e9:mx f ps os sp 8=dj (jf f 8) pq.1 pq.2:=by
   show(match (sp.nums.getD []).lookup 8 with|some pq=>dj (jf f 8) pq.1 pq.2|none=>0)=_;rw[h9]
  rw[e9];exact this
 ·obtain⟨b,es,pq,rfl,h6,h7,h8,h9⟩:=num_case (by omega);have:=nw f (ac pa ps.length pc) (ac oa os.length oc) sp.word sp.cl b0 b1 b2 b3 b4 b5 b6 b7 b8 b9 b10 b11 b12 sp.code w 9 (by decide) (by decide) f.share (Bw f) b es pq.1 pq.2 h6 h7 h8 hm.sn hm.sd hE
  have e9:mx f ps os sp 9=dj (jf f 9) pq.1 pq.2:=by
   show(match (sp.nums.getD []).lookup 9 with|some pq=>dj (jf f 9) pq.1 pq.2|none=>0)=_;rw[h9]
  rw[e9];exact this
 ·exact xY f _ _ _ w _ (fun W hx=>Cp f _ ps pa pc W (hA.rp.ext hx) hA.sp hA.np hA.cp hm.qty (hE.ext hx))
 ·exact xZ f _ _ _ w _ (fun W hx=>xT f _ os oa oc W (hA.ro.ext hx) hA.so hA.no (hE.ext hx))
 ·exact xX f _ _ _ w
theorem uo(f:FactV)(pa oa:Option Addr)(pn pc on oc:Nat)(w:World){k:Nat}(hk:k<13) :
  Calls Tryz.prog 91 #[aB f (ac pa pn pc) (ac oa on oc),.int .i64 (k:Nat)] w fun e w'=>e = .returned (.bool (br f pn on k))∧Ext w w':=by
 obtain rfl|rfl|rfl|rfl|rfl|rfl|rfl|rfl|rfl|rfl|rfl|rfl|rfl:k=0∨k=1∨k=2∨k=3∨k=4∨k=5∨k=6∨k=7∨k=8∨k=9∨k=10∨k=11∨k=12:=by omega
 ·exact zO f pa oa pn pc on oc w
 ·exact zP f pa oa pn pc on oc w
 ·exact zQ f pa oa pn pc on oc w
 ·exact zR f pa oa pn pc on oc w
 ·exact zS f pa oa pn pc on oc w
 ·exact zT f pa oa pn pc on oc w
 ·exact zU f pa oa pn pc on oc w
 ·exact zV f pa oa pn pc on oc w
 ·exact zW f pa oa pn pc on oc w
 ·exact zX f pa oa pn pc on oc w
 ·exact xL f pa oa pn pc on oc w
 ·exact xM f pa oa pn pc on oc w
 ·exact xN f pa oa pn pc on oc w
end
end
section
open Go.RowKit
attribute [local go_sem] size_bs toList_bs
theorem Ez(f:FactV)(pa oa:Option Addr)(n pc m oc:Nat)(hc:f.canc=true)(w:World):Calls Tryz.prog 88 #[aB f (ac pa n pc) (ac oa m oc),.agg (cT f.key f.stamp)] w fun e w'=>e = .returned (.bool (bj f.day f.kind f.choice f.ins f.other f.cur f.tgt f.qty f.amt f.fee f.price.num f.price.den f.ratio.num f.ratio.den f.share.num f.share.den n m))∧Ext w w':=by
 obtain⟨key,stamp,canc,day,kind,ins,other,cur,tgt,qty,amt,fee,⟨pn,pd⟩,⟨rn,rd⟩,⟨sn,sd⟩,choice⟩:=f;dsimp only at hc ⊢;subst hc;by_cases h:day=0;rotate_left
 ·have e:bj day kind choice ins other cur tgt qty amt fee pn pd rn rd sn sd n m=false:=by unfold bj;simp[h]
  rw[e];exact Ct key stamp pa oa pc oc day kind ins other cur tgt qty amt fee pn pd rn rd sn sd n m choice h w
 subst h;by_cases h:kind=0;rotate_left
 ·have e:bj 0 kind choice ins other cur tgt qty amt fee pn pd rn rd sn sd n m=false:=by unfold bj;simp[h]
  rw[e];exact Cu key stamp pa oa pc oc kind ins other cur tgt qty amt fee pn pd rn rd sn sd n m choice h w
 subst h;by_cases h:ins=[];rotate_left
 ·have e:bj 0 0 choice ins other cur tgt qty amt fee pn pd rn rd sn sd n m=false:=by unfold bj;simp[h]
  rw[e];exact Cv key stamp pa oa pc oc ins other cur tgt qty amt fee pn pd rn rd sn sd n m choice h w
 subst h;by_cases h:other=[];rotate_left
 ·have e:bj 0 0 choice [] other cur tgt qty amt fee pn pd rn rd sn sd n m=false:=by unfold bj;simp[h]
  rw[e];exact Cw key stamp pa oa pc oc other cur tgt qty amt fee pn pd rn rd sn sd n m choice h w
 subst h;by_cases h:cur=[];rotate_left
 ·have e:bj 0 0 choice [] [] cur tgt qty amt fee pn pd rn rd sn sd n m=false:=by unfold bj;simp[h]
  rw[e];exact Cx key stamp pa oa pc oc cur tgt qty amt fee pn pd rn rd sn sd n m choice h w
 subst h;by_cases h:tgt=[];rotate_left
 ·have e:bj 0 0 choice [] [] [] tgt qty amt fee pn pd rn rd sn sd n m=false:=by unfold bj;simp[h]
  rw[e];exact Cy key stamp pa oa pc oc tgt qty amt fee pn pd rn rd sn sd n m choice h w
 subst h;by_cases h:qty=[];rotate_left
 ·have e:bj 0 0 choice [] [] [] [] qty amt fee pn pd rn rd sn sd n m=false:=by unfold bj;simp[h]
  rw[e];exact Cz key stamp pa oa pc oc qty amt fee pn pd rn rd sn sd n m choice h w
 subst h;by_cases h:amt=[];rotate_left
 ·have e:bj 0 0 choice [] [] [] [] [] amt fee pn pd rn rd sn sd n m=false:=by unfold bj;simp[h]
  rw[e];exact CB key stamp pa oa pc oc amt fee pn pd rn rd sn sd n m choice h w
 subst h;by_cases h:fee=[];rotate_left
 ·have e:bj 0 0 choice [] [] [] [] [] [] fee pn pd rn rd sn sd n m=false:=by unfold bj;simp[h]
  rw[e];exact CC key stamp pa oa pc oc fee pn pd rn rd sn sd n m choice h w
 subst h;by_cases h:pn=[];rotate_left
 ·have e:bj 0 0 choice [] [] [] [] [] [] [] pn pd rn rd sn sd n m=false:=by unfold bj;simp[h]
  rw[e];exact CD key stamp pa oa pc oc pn pd rn rd sn sd n m choice h w
 subst h;by_cases h:pd=[];rotate_left
 ·have e:bj 0 0 choice [] [] [] [] [] [] [] [] pd rn rd sn sd n m=false:=by unfold bj;simp[h]
  rw[e];exact Ae key stamp pa oa pc oc pd rn rd sn sd n m choice h w
 subst h;by_cases h:rn=[];rotate_left
 ·have e:bj 0 0 choice [] [] [] [] [] [] [] [] [] rn rd sn sd n m=false:=by unfold bj;simp[h]
  rw[e];exact Ah key stamp pa oa pc oc rn rd sn sd n m choice h w
 subst h;by_cases h:rd=[];rotate_left
 ·have e:bj 0 0 choice [] [] [] [] [] [] [] [] [] [] rd sn sd n m=false:=by unfold bj;simp[h]
  rw[e];exact Ai key stamp pa oa pc oc rd sn sd n m choice h w
 subst h;by_cases h:sn=[];rotate_left
 ·have e:bj 0 0 choice [] [] [] [] [] [] [] [] [] [] [] sn sd n m=false:=by unfold bj;simp[h]
  rw[e];exact Aj key stamp pa oa pc oc sn sd n m choice h w
 subst h;by_cases h:sd=[];rotate_left
 ·have e:bj 0 0 choice [] [] [] [] [] [] [] [] [] [] [] [] sd n m=false:=by unfold bj;simp[h]
  rw[e];exact Ap key stamp pa oa pc oc sd n m choice h w
 subst h;by_cases h:n=0;rotate_left
 ·have e:bj 0 0 choice [] [] [] [] [] [] [] [] [] [] [] [] [] n m=false:=by unfold bj;simp[h]
  rw[e];exact Ar key stamp pa oa pc oc n m choice h w
 subst h;by_cases h:m=0;rotate_left
 ·have e:bj 0 0 choice [] [] [] [] [] [] [] [] [] [] [] [] [] 0 m=false:=by unfold bj;simp[h]
  rw[e];exact Au key stamp pa oa pc oc m choice h w
 subst h;by_cases h:choice=0;rotate_left
 ·have e:bj 0 0 choice [] [] [] [] [] [] [] [] [] [] [] [] [] 0 0=false:=by unfold bj;simp[h]
  rw[e];exact Av key stamp pa oa pc oc choice h w
 subst h;exact Aw key stamp pa oa pc oc w
end
end Go.Proofs.YthgpheopnhajaaaGreatDoor
