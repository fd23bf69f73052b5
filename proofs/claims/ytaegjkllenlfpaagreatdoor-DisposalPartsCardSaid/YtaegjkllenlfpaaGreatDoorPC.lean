/- The seat's texts, part PC. -/
import Derived.Test.YtaegjkllenlfpaaGreatDoorP15
import Derived.Test.YtaegjkllenlfpaaGreatDoorPG
import Derived.Deep.RegionHeld3
set_option maxRecDepth 100000
set_option maxHeartbeats 8000000
namespace Go.Proofs.YtaegjkllenlfpaaGreatDoor
section
open Go.RowKit Go.Shelf
attribute [local go_sem] size_bs toList_bs
def jo(g:GainV):List Bs:=[g.q,g.p,g.c,g.d,g.r]
def pF(g:GainV):Prop:=valI g.d<0∨valI (kC g)<valI g.d∨(g.r=[]∧g.d≠[])
instance (g:GainV):Decidable (pF g):=by unfold pF;infer_instance
def eE(g:GainV):Int :=
 if aB g.cause=false∨cR g.lot=false∨aB g.ins=false then 23
 else if(aD g.acq && aD g.clo)=false then 13 else if g.clo<g.acq then 8
 else if ∃x ∈ jo g,checkI x≠0 then 1
 else if valI g.q<0∨valI g.c<0∨valI g.r<0∨valI g.q<valI g.r then 2
 else if pF g then 2 else 0
structure CkG (g:GainV) (r:Int):Prop where
 n:(aB g.cause=false∨cR g.lot=false∨aB g.ins=false)→r=23
 d:aB g.cause=true→cR g.lot=true→aB g.ins=true→(aD g.acq && aD g.clo)=false→r=13
 o:aB g.cause=true→cR g.lot=true→aB g.ins=true→(aD g.acq && aD g.clo)=true→g.clo<g.acq→r=8
 i:aB g.cause=true→cR g.lot=true→aB g.ins=true→(aD g.acq && aD g.clo)=true→¬ g.clo<g.acq→(∃x ∈ jo g,checkI x≠0)→r=1
 v:aB g.cause=true→cR g.lot=true→aB g.ins=true→(aD g.acq && aD g.clo)=true→¬ g.clo<g.acq→(∀x ∈ jo g,checkI x=0)→(valI g.q<0∨valI g.c<0∨valI g.r<0∨valI g.q<valI g.r)→r=2
 b:aB g.cause=true→cR g.lot=true→aB g.ins=true→(aD g.acq && aD g.clo)=true→¬ g.clo<g.acq→(∀x ∈ jo g,checkI x=0)→¬ (valI g.q<0∨valI g.c<0∨valI g.r<0∨valI g.q<valI g.r)→pF g→r=2
 k:aB g.cause=true→cR g.lot=true→aB g.ins=true→(aD g.acq && aD g.clo)=true→¬ g.clo<g.acq→(∀x ∈ jo g,checkI x=0)→¬ (valI g.q<0∨valI g.c<0∨valI g.r<0∨valI g.q<valI g.r)→¬ pF g→r=0
theorem LB(g:GainV):CkG g (eE g):=by
 have nn:aB g.cause=true→cR g.lot=true→aB g.ins=true→¬ (aB g.cause=false∨cR g.lot=false∨aB g.ins=false):=by
  intro a b c;rw[a,b,c];simp
 have mm:(∀x ∈ jo g,checkI x=0)→¬ ∃x ∈ jo g,checkI x≠0:=fun h ⟨x,hx,e⟩=>e (h x hx)
 unfold eE;refine⟨fun h=>if_pos h,fun a b c d=>?_,fun a b c d e=>?_,fun a b c d e f=>?_,fun a b c d e f h=>?_,fun a b c d e f h i=>?_,fun a b c d e f h i=>?_⟩
 ·rw[if_neg (nn a b c),if_pos d]
 ·rw[if_neg (nn a b c),if_neg (by rw[d];decide),if_pos e]
 ·rw[if_neg (nn a b c),if_neg (by rw[d];decide),if_neg e,if_pos f]
 ·rw[if_neg (nn a b c),if_neg (by rw[d];decide),if_neg e,if_neg (mm f),if_pos h]
 ·rw[if_neg (nn a b c),if_neg (by rw[d];decide),if_neg e,if_neg (mm f),if_neg h,if_pos i]
 ·rw[if_neg (nn a b c),if_neg (by rw[d];decide),if_neg e,if_neg (mm f),if_neg h,if_neg i]
theorem bD{P:Program}{ops:Array Oper}{Q:Exit→Act→World→Prop}{i:Nat}{o:Oper}{K:Act→World→Prop}{a:Act}{w:World}(ho:ops[i]? = some o)(hw:Region.wanted o (yielded ops a.tmps)=false)(hK:K (a.put o.dst undef) w):wpOp P ops Q i K a w:=by
 unfold wpOp;rw[ho];dsimp only;rw[if_neg (by rw[hw];decide)];exact hK
theorem dw{ops:Array Oper}{tmps:Array Value}{o oj:Oper}{j d:Nat}(hj:ops[j]? = some oj)(hd:oj.dst=some d)(ht:tmps.getD d undef = .bool true)(hg:o.guard=some (j,false)):Region.wanted o (yielded ops tmps)=false:=by
 have h:tmps[d]? = some (.bool true):=by
  rw[Array.getD_eq_getD_getElem?]at ht
  cases hq:tmps[d]? with
  |none=>rw[hq]at ht;exact absurd ht (by simp[undef])
  |some v=>rw[hq]at ht;simp at ht;rw[ht]
 simp[Region.wanted,hg,yielded,hj,hd,h]
theorem cj{P:Program}{ops:Array Oper}{Q:Exit→Act→World→Prop}{i:Nat}{o:Oper}{K:Act→World→Prop}{a:Act}{w w':World}(ho:ops[i]? = some o)(hw:Region.wanted o (yielded ops a.tmps)=true)(v:Value)(hrun:(execOp a.eval o).run P w = .ok (.value v) w')(hK:K (a.put o.dst v) w'):wpOp P ops Q i K a w:=by
 unfold wpOp;rw[ho];dsimp only;rw[if_pos hw];refine .inl ?_;unfold Oper.wp;rw[hrun];exact hK
theorem jP{P:Program}{ops:Array Oper}{Q:Exit→Act→World→Prop}{i:Nat}{o:Oper}{a:Act}{w:World}{K:Act→World→Prop}{fn:Nat}{args:Array Value}{post:Ending→World→Prop}(ho:ops[i]? = some o)(hw:Region.wanted o (yielded ops a.tmps)=true)(hrun:(execOp a.eval o).run P w = .ok (.enter fn args) w)(hC:Calls P fn args w post)(hK:∀e w',post e w'→∃v,e = .returned v∧K (a.put o.dst v) w'):wpOp P ops Q i K a w:=by
 unfold wpOp;rw[ho];dsimp only;rw[if_pos hw];refine .inl ?_;unfold Oper.wp;rw[hrun];refine hC.mono ?_;intro e w' he;obtain⟨v,rfl,hk⟩:=hK e w' he;exact hk
theorem cE{ops:Array Oper}{tmps:Array Value}{o oj:Oper}{j d:Nat}{b:Bool}(hj:ops[j]? = some oj)(hd:oj.dst=some d)(ht:tmps.getD d undef = .bool b)(hg:o.guard=some (j,b)):Region.wanted o (yielded ops tmps)=true:=by
 have h:tmps[d]? = some (.bool b):=by
  rw[Array.getD_eq_getD_getElem?]at ht
  cases hq:tmps[d]? with
  |none=>rw[hq]at ht;exact absurd ht (by simp[undef])
  |some v=>rw[hq]at ht;simp at ht;rw[ht]
 simp[Region.wanted,hg,yielded,hj,hd,h]
theorem pG{ops:Array Oper}{tmps:Array Value}{o oj:Oper}{j d:Nat}(hj:ops[j]? = some oj)(hd:oj.dst=some d)(ht:tmps.getD d undef = .bool false)(hg:o.guard=some (j,true)):Region.wanted o (yielded ops tmps)=false:=by
 have h:tmps[d]? = some (.bool false):=by
  rw[Array.getD_eq_getD_getElem?]at ht
  cases hq:tmps[d]? with
  |none=>rw[hq]at ht;exact absurd ht (by simp[undef])
  |some v=>rw[hq]at ht;simp at ht;rw[ht]
 simp[Region.wanted,hg,yielded,hj,hd,h]
theorem jK{ops:Array Oper}{tmps:Array Value}{o oj:Oper}{j d:Nat}(hj:ops[j]? = some oj)(hd:oj.dst=some d)(ht:tmps.getD d undef=undef)(hg:o.guard=some (j,true)):Region.wanted o (yielded ops tmps)=false:=by
 cases hq:tmps[d]? with
 |none=>simp[Region.wanted,hg,yielded,hj,hd,hq]
 |some v =>
  rw[Array.getD_eq_getD_getElem?,hq]at ht;simp at ht;subst ht;simp[Region.wanted,hg,yielded,hj,hd,hq,undef]
theorem RdS.lit5(w:World)(a b c d e:Bs):RdS (w.alloc (.cells #[.string (bs a),.string (bs b),.string (bs c),.string (bs d),.string (bs e)] 24)) (some ⟨w.heap.size,0,none⟩) [a,b,c,d,e]:=Reads.lit (xs:=scells [a,b,c,d,e]) rfl
theorem rL(g:GainV)(hs:SmallG g):cu 35 #[nk g] (.int .i64 (eE g)):=by
 intro w hE;obtain⟨s1,s2,s3,s4,s5,s6,s7,s8⟩:=hs;have HE:=qh hE;have HK:=qh (LB g);have K1:=qh (fun W (_:Env W)=>gL g.cause W (by omega));have K2:=qh (KN g.lot (by omega));have K3:=qh (fun W (_:Env W)=>gL g.ins W (by omega))
 have KI:Hid (∀x ∈ jo g,cu 72 #[.string (bs x)] (.int .i64 (checkI x))):=qh (fun x hx=>dR x (by
  simp only[jo,List.mem_cons,List.not_mem_nil,or_false]at hx;rcases hx with rfl|rfl|rfl|rfl|rfl <;> omega))
 have NQ:=qh (qz g.q (by omega));have NC:=qh (qz g.c (by omega));have NR:=qh (qz g.r (by omega));have CQ:=qh (cmpP g.r g.q (by omega) (by omega));have ND:=qh (qz g.d (by omega));have LO:=qh (IC g ⟨s1,s2,s3,s4,s5,s6,s7,s8⟩)
 have hll:(kC g).length≤2000:=by
  have:=mo (x:=g.c) (y:=g.p) (L:=1000) (by omega) (by omega);unfold kC;split
  ·simp
  ·omega
 have CL:=qh (cmpP g.d (kC g) (by omega) (by omega));clear hE s1 s2 s3 s4 s5 s6 s7 s8 hll;have HBG:Hid (pF g↔valI g.d<0∨valI (kC g)<valI g.d∨(g.r=[]∧g.d≠[])):=qh Iff.rfl;have HNG:Hid (jo g=[g.q,g.p,g.c,g.d,g.r]):=qh rfl;obtain⟨HN,HDD,HO,HI,HV,HH,HKK⟩:=HK.out;replace HN:=qh HN;replace HDD:=qh HDD;replace HO:=qh HO;replace HI:=qh HI;replace HV:=qh HV;replace HH:=qh HH;replace HKK:=qh HKK;clear HK;generalize eE g=r at *;generalize kC g=lo at *;generalize pF g=bad at *;generalize jo g=ns at *;have HB:=qh (Blk.new w 60 (dr g));have HX:Hid (Ext w (w.alloc (.cells (dr g) 60))):=qh (Ext.new _ _);obtain⟨gk,gl,gi,ga,gc',gq,gp,gco,gd,gr⟩:=g;simp only at *;go_enter Tryz.func35,Tryz.ntmps35;go_upto_region 1 with fail;generalize hG:w.heap.size=G at *;generalize w.alloc (.cells #[.string (bs gk),.string (bs gl),.string (bs gi),.int .i64 ga,.int .i64 gc',.string (bs gq),.string (bs gp),.string (bs gco),.string (bs gd),.string (bs gr)] 60)=w0 at *;clear hG;obtain⟨g0,g1,g2,g3,g4,g5,g6,g7,g8,g9⟩:=be HB.out (Ext.refl _);go_wp2_with fail;refine(K1.out _ (HE.out.ext HX.out)).mono ?_;rintro e v9⟨rfl,hx1⟩;replace HB:=qh (HB.out.ext hx1);replace HX:=HX.qt hx1;clear hx1;clear g0 g1 g2 g3 g4 g5 g6 g7 g8 g9;obtain⟨g0,g1,g2,g3,g4,g5,g6,g7,g8,g9⟩:=be HB.out (Ext.refl _)
 cases hk:aB gk
 ·obtain rfl:=HN.out (.inl hk);clear HN HDD HO HI HV HH HKK hk;go_wp2_with fail;go_ret;exact⟨rfl,HX.out⟩
 have BK:=qh hk;clear hk K1;go_wp2_with fail;refine(K2.out _ (HE.out.ext HX.out)).mono ?_;rintro e v9⟨rfl,hx1⟩;replace HB:=qh (HB.out.ext hx1);replace HX:=HX.qt hx1;clear hx1;clear g0 g1 g2 g3 g4 g5 g6 g7 g8 g9;obtain⟨g0,g1,g2,g3,g4,g5,g6,g7,g8,g9⟩:=be HB.out (Ext.refl _)
 cases hl:cR gl
 ·obtain rfl:=HN.out (.inr (.inl hl));clear HN HDD HO HI HV HH HKK hl;go_wp2_with fail;go_ret;exact⟨rfl,HX.out⟩
 have BL:=qh hl;clear hl K2;go_wp2_with fail;refine(K3.out _ (HE.out.ext HX.out)).mono ?_;rintro e v9⟨rfl,hx1⟩;replace HB:=qh (HB.out.ext hx1);replace HX:=HX.qt hx1;clear hx1;clear g0 g1 g2 g3 g4 g5 g6 g7 g8 g9;obtain⟨g0,g1,g2,g3,g4,g5,g6,g7,g8,g9⟩:=be HB.out (Ext.refl _)
 cases hi:aB gi
 ·obtain rfl:=HN.out (.inr (.inr hi));clear HN HDD HO HI HV HH HKK hi;go_wp2_with fail;go_ret;exact⟨rfl,HX.out⟩
 have BI:=qh hi;clear hi K3 HN;replace HDD:=qh (HDD.out BK.out BL.out BI.out);replace HO:=qh (HO.out BK.out BL.out BI.out);replace HI:=qh (HI.out BK.out BL.out BI.out);replace HV:=qh (HV.out BK.out BL.out BI.out);replace HH:=qh (HH.out BK.out BL.out BI.out);replace HKK:=qh (HKK.out BK.out BL.out BI.out);clear BK BL BI;have KD:=qh (wX ga gc' (some ⟨v9.heap.size,0,none⟩) 2 (v9.alloc (.cells #[.int .i64 ga,.int .i64 gc'] 23)) (Reads.lit (xs:=[.int .i64 ga,.int .i64 gc']) rfl));generalize (aD ga && aD gc')=dk at *;go_wp2_with fail;refine KD.out.mono ?_;rintro e v8⟨rfl,hx1⟩;replace hx1:=(Ext.new v9 (.cells #[.int .i64 ga,.int .i64 gc'] 23)).trans hx1;replace HB:=qh (HB.out.ext hx1);replace HX:=HX.qt hx1;clear g0 g1 g2 g3 g4 g5 g6 g7 g8 g9;clear hx1 KD;generalize v9.heap.size=SD at *;obtain⟨g0,g1,g2,g3,g4,g5,g6,g7,g8,g9⟩:=be HB.out (Ext.refl _)
 cases dk
 ·obtain rfl:=HDD.out rfl;clear HDD HO HI HV HH HKK;go_wp2_with fail;go_ret;exact⟨rfl,HX.out⟩
 by_cases hd:gc'<ga
 ·obtain rfl:=HO.out rfl hd;clear HDD HO HI HV HH HKK;go_wp2_with fail;go_ret;exact⟨rfl,HX.out⟩
 replace HI:=qh (HI.out rfl (Int.not_lt.1 hd));replace HV:=qh (HV.out rfl (Int.not_lt.1 hd));replace HH:=qh (HH.out rfl (Int.not_lt.1 hd));replace HKK:=qh (HKK.out rfl (Int.not_lt.1 hd));clear HDD HO;have hd2:decide (gc'<ga)=false:=by simpa using hd
 have HL:=qh (RdS.lit5 v8 gq gp gco gd gr);rw[←HNG.out]at HL;have HXW:Hid (Ext v8 (v8.alloc (.cells #[.string (bs gq),.string (bs gp),.string (bs gco),.string (bs gd),.string (bs gr)] 24))):=qh (Ext.new _ _);replace HB:=qh (HB.out.ext HXW.out);replace HX:=qh (HX.out.trans HXW.out);have HN5:Hid (ns.length=5):=qh (by rw[HNG.out];rfl);clear HXW;go_upto_region 8 with fail;generalize v8.alloc (.cells #[.string (bs gq),.string (bs gp),.string (bs gco),.string (bs gd),.string (bs gr)] 24)=w5 at *;generalize v8.heap.size=S at *;clear g0 g1 g2 g3 g4 g5 g6 g7 g8 g9;go_loopw [45,4] (fun i _ wr=>∃k:Nat,k≤5∧i = .int .i64 k∧(∀x ∈ ns.take k,checkI x=0)∧Ext w5 wr) (fun i _ _=>5-(intOf i).toNat)
 case atStart=>exact⟨0,by omega,rfl,by simp,Ext.refl _⟩
 case round =>
  obtain⟨k,hk,rfl,hall,hxx⟩:=hrel;have HAL:=qh hall;have HXX:=qh hxx;clear hall hxx;by_cases hlt:k<5
  ·have hlt5:k<ns.length:=by rw[HN5.out];exact hlt
   obtain⟨b,o,hA2,hbl,c0⟩:=(HL.out.ext HXX.out).at_ hlt5;injection hA2 with hA2
   injection hA2 with e1 e2
   subst e1 e2;simp only[Nat.zero_add]at c0;have KX:=qh (KI.out _ (List.getElem_mem hlt5))
   have HNX:Hid (checkI (ns[k]'hlt5)=0→∀x ∈ ns.take (k+1),checkI x=0):=qh (fun h x hx=>by
    rw[List.take_succ_eq_append_getElem hlt5]at hx;rcases List.mem_append.1 hx with hx|hx
    ·exact HAL.out x hx
    ·simp at hx;rw[hx];exact h)
   have HBD:Hid (checkI (ns[k]'hlt5)≠0→r=1):=qh (fun h=>HI.out ⟨_,List.getElem_mem hlt5,h⟩);have hki:(k:Int)<5:=by omega
   have hk0:(0:Int)≤(k:Int):=by omega
   generalize ns[k]'hlt5=x at *;generalize checkI x=z at *;go_wp2_with fail;refine(KX.out _ (HE.out.ext (HX.out.trans HXX.out))).mono ?_;rintro e v7⟨rfl,hx1⟩;replace HXX:=HXX.qt hx1;clear hx1;by_cases hz:z=0
   ·have HNY:=qh (HNX.out hz);subst hz;clear HNX HBD;go_wp2_with fail;go_roundw
    case rel=>exact⟨k+1,by omega,by go_num,HNY.out,HXX.out⟩
    case measure=>simp[intOf];omega
   ·obtain rfl:=HBD.out hz;have hz2:(z != 0)=true:=by rw[bne_iff_ne];exact hz
    clear HNX HBD HI HV HH HKK;go_wp2_with fail;go_ret;exact⟨rfl,HX.out.trans HXX.out⟩
  ·have hke:k=5:=by omega
   subst hke
   have hall5:∀x ∈ ns,checkI x=0:=by
    have:=HAL.out;rwa[List.take_of_length_le (by rw[HN5.out];exact Nat.le_refl _)]at this
   replace HV:=qh (HV.out hall5);replace HH:=qh (HH.out hall5);replace HKK:=qh (HKK.out hall5);replace HB:=qh (HB.out.ext HXX.out);replace HX:=qh (HX.out.trans HXX.out);clear hall5 HAL HXX HI HL KI HNG HN5;obtain⟨g0,g1,g2,g3,g4,g5,g6,g7,g8,g9⟩:=be HB.out (Ext.refl _);go_wp2_with fail;refine(NQ.out _ (HE.out.ext HX.out)).mono ?_;rintro e v9⟨rfl,hx1⟩;replace HB:=qh (HB.out.ext hx1);replace HX:=HX.qt hx1;clear hx1;clear g0 g1 g2 g3 g4 g5 g6 g7 g8 g9;obtain⟨g0,g1,g2,g3,g4,g5,g6,g7,g8,g9⟩:=be HB.out (Ext.refl _);by_cases hq:valI gq<0
   ·obtain rfl:=HV.out (.inl hq);have t1:decide (valI gq<0)=true:=by simpa using hq
    rw[t1];clear HV HH HKK hq t1;go_wp2_with fail;go_ret;exact⟨rfl,HX.out⟩
   have t1:decide (valI gq<0)=false:=by simpa using hq
   rw[t1];have Q1:=qh hq;clear hq t1 NQ;go_wp2_with fail;refine(NC.out _ (HE.out.ext HX.out)).mono ?_;rintro e v9⟨rfl,hx1⟩;replace HB:=qh (HB.out.ext hx1);replace HX:=HX.qt hx1;clear hx1;clear g0 g1 g2 g3 g4 g5 g6 g7 g8 g9;obtain⟨g0,g1,g2,g3,g4,g5,g6,g7,g8,g9⟩:=be HB.out (Ext.refl _);by_cases hq:valI gco<0
   ·obtain rfl:=HV.out (.inr (.inl hq));have t1:decide (valI gco<0)=true:=by simpa using hq
    rw[t1];clear HV HH HKK hq t1;go_wp2_with fail;go_ret;exact⟨rfl,HX.out⟩
   have t1:decide (valI gco<0)=false:=by simpa using hq
   rw[t1];have Q2:=qh hq;clear hq t1 NC;go_wp2_with fail;refine(NR.out _ (HE.out.ext HX.out)).mono ?_;rintro e v9⟨rfl,hx1⟩;replace HB:=qh (HB.out.ext hx1);replace HX:=HX.qt hx1;clear hx1;clear g0 g1 g2 g3 g4 g5 g6 g7 g8 g9;obtain⟨g0,g1,g2,g3,g4,g5,g6,g7,g8,g9⟩:=be HB.out (Ext.refl _);by_cases hq:valI gr<0
   ·obtain rfl:=HV.out (.inr (.inr (.inl hq)));have t1:decide (valI gr<0)=true:=by simpa using hq
    rw[t1];clear HV HH HKK hq t1;go_wp2_with fail;go_ret;exact⟨rfl,HX.out⟩
   have t1:decide (valI gr<0)=false:=by simpa using hq
   rw[t1];have Q3:=qh hq;clear hq t1 NR;go_wp2_with fail;refine(CQ.out _ (HE.out.ext HX.out)).mono ?_;rintro e v9⟨rfl,hx1⟩;replace HB:=qh (HB.out.ext hx1);replace HX:=HX.qt hx1;clear hx1;clear g0 g1 g2 g3 g4 g5 g6 g7 g8 g9;obtain⟨g0,g1,g2,g3,g4,g5,g6,g7,g8,g9⟩:=be HB.out (Ext.refl _);by_cases hq:valI gq<valI gr
   ·obtain rfl:=HV.out (.inr (.inr (.inr hq)));have t1:decide (0<cmpI (valI gr) (valI gq))=true:=by rw[decide_eq_true_iff,cK];exact hq
    generalize cmpI (valI gr) (valI gq)=z at *;clear HV HH HKK hq;go_wp2_with fail;go_ret;exact⟨rfl,HX.out⟩
   have t1:decide (0<cmpI (valI gr) (valI gq))=false:=by rw[decide_eq_false_iff_not,cK];exact hq
   generalize cmpI (valI gr) (valI gq)=z at *
   have HQ:Hid (¬ (valI gq<0∨valI gco<0∨valI gr<0∨valI gq<valI gr)):=qh (by
    have q1:=Q1.out;have q2:=Q2.out;have q3:=Q3.out;omega)
   replace HH:=qh (HH.out HQ.out);replace HKK:=qh (HKK.out HQ.out);clear HQ Q1 Q2 Q3 hq CQ HV;by_cases d1:valI gd<0
   ·obtain rfl:=HH.out (HBG.out.2 (.inl d1));have t2:decide (valI gd<0)=true:=by simpa using d1
    rw[t2]at ND;clear HH HKK HBG d1 t2 LO CL;go_upto_region 15 with fail;refine wp_region_any (by kernel_rfl) ?_;change wpAny _ _ _ _ _ _ _ (World.drew v9);replace HB:=qh HB.out.drew;replace HX:=qh HX.out.drew;generalize World.drew v9=Wd at *;clear g0 g1 g2 g3 g4 g5 g6 g7 g8 g9
    have l8':∀W,Ext Wd W→(Instr.loadAt 24 (.pointer (some ⟨G,8,none⟩))).run Tryz.prog W = .ok (Value.string (bs gd)) W:=fun W hx=>by
     obtain⟨g0,g1,g2,g3,g4,g5,g6,g7,g8,g9⟩:=be HB.out hx;go_simp
    have f8:∀W:World,(Instr.fieldAt 60 (.pointer (some ⟨G,0,none⟩)) 8).run Tryz.prog W = .ok (.pointer (some ⟨G,8,none⟩)) W:=fun W=>by go_simp
    have cn:∀W,Ext Wd W→Calls Tryz.prog 108 #[.string (bs gd)] W fun e w'=>e = .returned (.bool true)∧Ext W w':=fun W hx=>ND.out W (HE.out.ext (HX.out.trans hx))
    refine iI (Inv:=GrInv _ _ (fun s=>(#[Value.pointer (some ⟨G,8,none⟩),Value.string (bs gd),Value.bool true,Value.bool true,undef,undef,undef,undef,undef,undef,Value.bool true,Value.bool true,undef,undef,undef,undef,undef,undef,undef,undef,Value.bool true]:Array Value).getD (s-74) undef) 74 20 (fun W=>Ext Wd W) (fun W=>Ext Wd W)) ?hend ?hz ?hstep _ _ _ _ (GrInv.start _ (Ext.refl Wd))
    case hz=>exact fun listed a w' h=>iJ (by have:=h.cnt;omega) h.size
    case hend =>
     intro f listed a w' h hr;obtain⟨ha,hj⟩:=h.fin (by decide) hr (by kernel_rfl);have ha2:a=({ tmps:=#[nk ⟨gk,gl,gi,ga,gc',gq,gp,gco,gd,gr⟩,Value.pointer (some ⟨G,0,none⟩),u2,undef,u4,Value.pointer (some ⟨G,0,none⟩),Value.string (bs gk),Value.bool true,Value.bool false,Value.bool false,Value.pointer (some ⟨G,1,none⟩),Value.string (bs gl),Value.bool true,Value.bool false,Value.bool false,Value.bool false,Value.pointer (some ⟨G,2,none⟩),Value.string (bs gi),Value.bool true,Value.bool false,Value.bool false,Value.pointer (some ⟨G,3,none⟩),Value.int .i64 ga,Value.pointer (some ⟨G,4,none⟩),Value.int .i64 gc',Value.slice (some ⟨SD,0,none⟩) 2 2,Value.bool true,Value.bool false,Value.pointer (some ⟨G,3,none⟩),Value.int .i64 ga,Value.pointer (some ⟨G,4,none⟩),Value.int .i64 gc',Value.bool false,Value.pointer (some ⟨G,5,none⟩),Value.string (bs gq),Value.pointer (some ⟨G,6,none⟩),Value.string (bs gp),Value.pointer (some ⟨G,7,none⟩),Value.string (bs gco),Value.pointer (some ⟨G,8,none⟩),Value.string (bs gd),Value.pointer (some ⟨G,9,none⟩),Value.string (bs gr),Value.slice (some ⟨S,0,none⟩) 5 5,Value.int .i64 5,Value.int .i64 5,Value.bool false,u47,u48,u49,u50,u51,u52,Value.pointer (some ⟨G,5,none⟩),Value.string (bs gq),Value.bool false,Value.bool false,Value.pointer (some ⟨G,7,none⟩),Value.string (bs gco),Value.bool false,Value.bool false,Value.bool false,Value.pointer (some ⟨G,9,none⟩),Value.string (bs gr),Value.bool false,Value.bool false,Value.bool false,Value.pointer (some ⟨G,9,none⟩),Value.string (bs gr),Value.pointer (some ⟨G,5,none⟩),Value.string (bs gq),Value.int .i64 z,Value.bool false,Value.bool false,Value.pointer (some ⟨G,8,none⟩),Value.string (bs gd),Value.bool true,Value.bool true,undef,undef,undef,undef,undef,undef,Value.bool true,Value.bool true,undef,undef,undef,undef,undef,undef,undef,undef,Value.bool true],defers:=[] }:Act):=ha.trans (by kernel_rfl);clear ha;subst ha2;have HJ:=qh hj;clear h hr hj l8' f8 cn;go_wp2_with fail;go_ret;exact⟨rfl,HX.out.trans HJ.out⟩
    case hstep =>
     intro f listed a w' i h hi;have hW:Ext Wd w':=by rcases h.wld with ⟨_,h2⟩ | ⟨_,h2⟩ <;> exact h2
     have hlt:i<21:=db hi;have hbz:∀s,s<74→a.tmps.getD s undef=_:=fun s hs=>h.base' (s:=s) (by show s<95;omega) (.inl hs)
     obtain rfl|rfl|rfl|rfl|rfl|rfl|rfl|rfl|rfl|rfl|rfl|rfl|rfl|rfl|rfl|rfl|rfl|rfl|rfl|rfl|rfl:i=0∨i=1∨i=2∨i=3∨i=4∨i=5∨i=6∨i=7∨i=8∨i=9∨i=10∨i=11∨i=12∨i=13∨i=14∨i=15∨i=16∨i=17∨i=18∨i=19∨i=20:=by omega
     all_goals have e1:a.tmps.getD 1 undef=Value.pointer (some ⟨G,0,none⟩):=hbz 1 (by omega)
     all_goals try have e74:a.tmps.getD 74 undef=Value.pointer (some ⟨G,8,none⟩):=h.need hi rfl 0 (by show 0<21;decide) (by show 74+0<95;decide) rfl
     all_goals try have e75:a.tmps.getD 75 undef=Value.string (bs gd):=h.need hi rfl 1 (by show 1<21;decide) (by show 74+1<95;decide) rfl
     all_goals try have e76:a.tmps.getD 76 undef=Value.bool true:=h.need hi rfl 2 (by show 2<21;decide) (by show 74+2<95;decide) rfl
     all_goals try have e77:a.tmps.getD 77 undef=Value.bool true:=h.need hi rfl 3 (by show 3<21;decide) (by show 74+3<95;decide) rfl
     all_goals try have e78:a.tmps.getD 78 undef=undef:=h.need hi rfl 4 (by show 4<21;decide) (by show 74+4<95;decide) rfl
     all_goals try have e79:a.tmps.getD 79 undef=undef:=h.need hi rfl 5 (by show 5<21;decide) (by show 74+5<95;decide) rfl
     all_goals try have e80:a.tmps.getD 80 undef=undef:=h.need hi rfl 6 (by show 6<21;decide) (by show 74+6<95;decide) rfl
     all_goals try have e81:a.tmps.getD 81 undef=undef:=h.need hi rfl 7 (by show 7<21;decide) (by show 74+7<95;decide) rfl
     all_goals try have e82:a.tmps.getD 82 undef=undef:=h.need hi rfl 8 (by show 8<21;decide) (by show 74+8<95;decide) rfl
     all_goals try have e83:a.tmps.getD 83 undef=undef:=h.need hi rfl 9 (by show 9<21;decide) (by show 74+9<95;decide) rfl
     all_goals try have e84:a.tmps.getD 84 undef=Value.bool true:=h.need hi rfl 10 (by show 10<21;decide) (by show 74+10<95;decide) rfl
     all_goals try have e85:a.tmps.getD 85 undef=Value.bool true:=h.need hi rfl 11 (by show 11<21;decide) (by show 74+11<95;decide) rfl
     all_goals try have e86:a.tmps.getD 86 undef=undef:=h.need hi rfl 12 (by show 12<21;decide) (by show 74+12<95;decide) rfl
     all_goals try have e87:a.tmps.getD 87 undef=undef:=h.need hi rfl 13 (by show 13<21;decide) (by show 74+13<95;decide) rfl
     all_goals try have e88:a.tmps.getD 88 undef=undef:=h.need hi rfl 14 (by show 14<21;decide) (by show 74+14<95;decide) rfl
     all_goals try have e89:a.tmps.getD 89 undef=undef:=h.need hi rfl 15 (by show 15<21;decide) (by show 74+15<95;decide) rfl
     all_goals try have e90:a.tmps.getD 90 undef=undef:=h.need hi rfl 16 (by show 16<21;decide) (by show 74+16<95;decide) rfl
     all_goals try have e91:a.tmps.getD 91 undef=undef:=h.need hi rfl 17 (by show 17<21;decide) (by show 74+17<95;decide) rfl
     all_goals try have e92:a.tmps.getD 92 undef=undef:=h.need hi rfl 18 (by show 18<21;decide) (by show 74+18<95;decide) rfl
     all_goals try have e93:a.tmps.getD 93 undef=undef:=h.need hi rfl 19 (by show 19<21;decide) (by show 74+19<95;decide) rfl
     all_goals try have e94:a.tmps.getD 94 undef=Value.bool true:=h.need hi rfl 20 (by show 20<21;decide) (by show 74+20<95;decide) rfl
     all_goals first
      |exact bD rfl (dw rfl rfl e77 rfl) (h.step hi rfl rfl _ (.inl ⟨by decide,fun h=>h,fun h=>h⟩))
      |exact bD rfl (dw rfl rfl e85 rfl) (h.step hi rfl rfl _ (.inl ⟨by decide,fun h=>h,fun h=>h⟩))
      |exact bD rfl (jK rfl rfl e89 rfl) (h.step hi rfl rfl _ (.inl ⟨by decide,fun h=>h,fun h=>h⟩))
      |(refine gU (fn:=108) (args:=#[.string (bs gd)]) rfl rfl ?_ (cn _ hW) ?_
        ·simp[execOp,aw, *,resolve,invoke,Deferred.ofValue];rfl
        ·rintro e W3⟨rfl,hx⟩;exact⟨_,rfl,h.step hi rfl rfl _ (.inl ⟨by decide,fun h=>h.trans hx,fun h=>h.trans hx⟩)⟩)
      |(refine aE rfl rfl _ ?_ (h.step hi rfl rfl _ (by first|exact .inl ⟨by decide,fun h=>h,fun h=>h⟩|exact .inr ⟨rfl,hW⟩));simp[execOp,aw, *];try go_simp)
   have t2:decide (valI gd<0)=false:=by simpa using d1
   rw[t2]at ND;by_cases d2:valI lo<valI gd
   ·obtain rfl:=HH.out (HBG.out.2 (.inr (.inl d2)));have t3:decide (0<cmpI (valI gd) (valI lo))=true:=by rw[decide_eq_true_iff,cK];exact d2
    generalize cmpI (valI gd) (valI lo)=y at *;clear HH HKK HBG d1 d2 t2;go_upto_region 15 with fail;refine wp_region_any (by kernel_rfl) ?_;change wpAny _ _ _ _ _ _ _ (World.drew v9);replace HB:=qh HB.out.drew;replace HX:=qh HX.out.drew;generalize World.drew v9=Wd at *;clear g0 g1 g2 g3 g4 g5 g6 g7 g8 g9
    have l8':∀W,Ext Wd W→(Instr.loadAt 24 (.pointer (some ⟨G,8,none⟩))).run Tryz.prog W = .ok (Value.string (bs gd)) W:=fun W hx=>by
     obtain⟨g0,g1,g2,g3,g4,g5,g6,g7,g8,g9⟩:=be HB.out hx;go_simp
    have f8:∀W:World,(Instr.fieldAt 60 (.pointer (some ⟨G,0,none⟩)) 8).run Tryz.prog W = .ok (.pointer (some ⟨G,8,none⟩)) W:=fun W=>by go_simp
    have cn:∀W,Ext Wd W→Calls Tryz.prog 108 #[.string (bs gd)] W fun e w'=>e = .returned (.bool false)∧Ext W w':=fun W hx=>ND.out W (HE.out.ext (HX.out.trans hx))
    have l60:∀W,Ext Wd W→(Instr.loadAt 60 (.pointer (some ⟨G,0,none⟩))).run Tryz.prog W = .ok (Value.agg #[.string (bs gk),.string (bs gl),.string (bs gi),.int .i64 ga,.int .i64 gc',.string (bs gq),.string (bs gp),.string (bs gco),.string (bs gd),.string (bs gr)]) W:=fun W hx=>by
     obtain⟨g0,g1,g2,g3,g4,g5,g6,g7,g8,g9⟩:=be HB.out hx;go_simp
    have cl:∀W,Ext Wd W→Calls Tryz.prog 109 #[Value.agg #[.string (bs gk),.string (bs gl),.string (bs gi),.int .i64 ga,.int .i64 gc',.string (bs gq),.string (bs gp),.string (bs gco),.string (bs gd),.string (bs gr)]] W fun e w'=>e = .returned (.string (bs lo))∧Ext W w':=fun W hx=>LO.out W (HE.out.ext (HX.out.trans hx))
    have cc:∀W,Ext Wd W→Calls Tryz.prog 16 #[.string (bs gd),.string (bs lo)] W fun e w'=>e = .returned (.int .i64 y)∧Ext W w':=fun W hx=>CL.out W (HE.out.ext (HX.out.trans hx))
    refine iI (Inv:=GrInv _ _ (fun s=>(#[Value.pointer (some ⟨G,8,none⟩),Value.string (bs gd),Value.bool false,Value.bool false,Value.pointer (some ⟨G,8,none⟩),Value.string (bs gd),Value.agg #[.string (bs gk),.string (bs gl),.string (bs gi),.int .i64 ga,.int .i64 gc',.string (bs gq),.string (bs gp),.string (bs gco),.string (bs gd),.string (bs gr)],Value.string (bs lo),Value.int .i64 y,Value.bool true,Value.bool true,Value.bool true,undef,undef,undef,undef,undef,undef,undef,undef,Value.bool true]:Array Value).getD (s-74) undef) 74 20 (fun W=>Ext Wd W) (fun W=>Ext Wd W)) ?hend ?hz ?hstep _ _ _ _ (GrInv.start _ (Ext.refl Wd))
    case hz=>exact fun listed a w' h=>iJ (by have:=h.cnt;omega) h.size
    case hend =>
     intro f listed a w' h hr;obtain⟨ha,hj⟩:=h.fin (by decide) hr (by kernel_rfl);have ha2:a=({ tmps:=#[nk ⟨gk,gl,gi,ga,gc',gq,gp,gco,gd,gr⟩,Value.pointer (some ⟨G,0,none⟩),u2,undef,u4,Value.pointer (some ⟨G,0,none⟩),Value.string (bs gk),Value.bool true,Value.bool false,Value.bool false,Value.pointer (some ⟨G,1,none⟩),Value.string (bs gl),Value.bool true,Value.bool false,Value.bool false,Value.bool false,Value.pointer (some ⟨G,2,none⟩),Value.string (bs gi),Value.bool true,Value.bool false,Value.bool false,Value.pointer (some ⟨G,3,none⟩),Value.int .i64 ga,Value.pointer (some ⟨G,4,none⟩),Value.int .i64 gc',Value.slice (some ⟨SD,0,none⟩) 2 2,Value.bool true,Value.bool false,Value.pointer (some ⟨G,3,none⟩),Value.int .i64 ga,Value.pointer (some ⟨G,4,none⟩),Value.int .i64 gc',Value.bool false,Value.pointer (some ⟨G,5,none⟩),Value.string (bs gq),Value.pointer (some ⟨G,6,none⟩),Value.string (bs gp),Value.pointer (some ⟨G,7,none⟩),Value.string (bs gco),Value.pointer (some ⟨G,8,none⟩),Value.string (bs gd),Value.pointer (some ⟨G,9,none⟩),Value.string (bs gr),Value.slice (some ⟨S,0,none⟩) 5 5,Value.int .i64 5,Value.int .i64 5,Value.bool false,u47,u48,u49,u50,u51,u52,Value.pointer (some ⟨G,5,none⟩),Value.string (bs gq),Value.bool false,Value.bool false,Value.pointer (some ⟨G,7,none⟩),Value.string (bs gco),Value.bool false,Value.bool false,Value.bool false,Value.pointer (some ⟨G,9,none⟩),Value.string (bs gr),Value.bool false,Value.bool false,Value.bool false,Value.pointer (some ⟨G,9,none⟩),Value.string (bs gr),Value.pointer (some ⟨G,5,none⟩),Value.string (bs gq),Value.int .i64 z,Value.bool false,Value.bool false,Value.pointer (some ⟨G,8,none⟩),Value.string (bs gd),Value.bool false,Value.bool false,Value.pointer (some ⟨G,8,none⟩),Value.string (bs gd),Value.agg #[.string (bs gk),.string (bs gl),.string (bs gi),.int .i64 ga,.int .i64 gc',.string (bs gq),.string (bs gp),.string (bs gco),.string (bs gd),.string (bs gr)],Value.string (bs lo),Value.int .i64 y,Value.bool true,Value.bool true,Value.bool true,undef,undef,undef,undef,undef,undef,undef,undef,Value.bool true],defers:=[] }:Act):=ha.trans (by kernel_rfl);clear ha;subst ha2;have HJ:=qh hj;clear h hr hj l8' f8 cn l60 cl cc;go_wp2_with fail;go_ret;exact⟨rfl,HX.out.trans HJ.out⟩
    case hstep =>
     intro f listed a w' i h hi;have hW:Ext Wd w':=by rcases h.wld with ⟨_,h2⟩ | ⟨_,h2⟩ <;> exact h2
     have hlt:i<21:=db hi;have hbz:∀s,s<74→a.tmps.getD s undef=_:=fun s hs=>h.base' (s:=s) (by show s<95;omega) (.inl hs)
     obtain rfl|rfl|rfl|rfl|rfl|rfl|rfl|rfl|rfl|rfl|rfl|rfl|rfl|rfl|rfl|rfl|rfl|rfl|rfl|rfl|rfl:i=0∨i=1∨i=2∨i=3∨i=4∨i=5∨i=6∨i=7∨i=8∨i=9∨i=10∨i=11∨i=12∨i=13∨i=14∨i=15∨i=16∨i=17∨i=18∨i=19∨i=20:=by omega
     all_goals have e1:a.tmps.getD 1 undef=Value.pointer (some ⟨G,0,none⟩):=hbz 1 (by omega)
     all_goals try have e74:a.tmps.getD 74 undef=Value.pointer (some ⟨G,8,none⟩):=h.need hi rfl 0 (by show 0<21;decide) (by show 74+0<95;decide) rfl
     all_goals try have e75:a.tmps.getD 75 undef=Value.string (bs gd):=h.need hi rfl 1 (by show 1<21;decide) (by show 74+1<95;decide) rfl
     all_goals try have e76:a.tmps.getD 76 undef=Value.bool false:=h.need hi rfl 2 (by show 2<21;decide) (by show 74+2<95;decide) rfl
     all_goals try have e77:a.tmps.getD 77 undef=Value.bool false:=h.need hi rfl 3 (by show 3<21;decide) (by show 74+3<95;decide) rfl
     all_goals try have e78:a.tmps.getD 78 undef=Value.pointer (some ⟨G,8,none⟩):=h.need hi rfl 4 (by show 4<21;decide) (by show 74+4<95;decide) rfl
     all_goals try have e79:a.tmps.getD 79 undef=Value.string (bs gd):=h.need hi rfl 5 (by show 5<21;decide) (by show 74+5<95;decide) rfl
     all_goals try have e80:a.tmps.getD 80 undef=Value.agg #[.string (bs gk),.string (bs gl),.string (bs gi),.int .i64 ga,.int .i64 gc',.string (bs gq),.string (bs gp),.string (bs gco),.string (bs gd),.string (bs gr)]:=h.need hi rfl 6 (by show 6<21;decide) (by show 74+6<95;decide) rfl
     all_goals try have e81:a.tmps.getD 81 undef=Value.string (bs lo):=h.need hi rfl 7 (by show 7<21;decide) (by show 74+7<95;decide) rfl
     all_goals try have e82:a.tmps.getD 82 undef=Value.int .i64 y:=h.need hi rfl 8 (by show 8<21;decide) (by show 74+8<95;decide) rfl
     all_goals try have e83:a.tmps.getD 83 undef=Value.bool true:=h.need hi rfl 9 (by show 9<21;decide) (by show 74+9<95;decide) rfl
     all_goals try have e84:a.tmps.getD 84 undef=Value.bool true:=h.need hi rfl 10 (by show 10<21;decide) (by show 74+10<95;decide) rfl
     all_goals try have e85:a.tmps.getD 85 undef=Value.bool true:=h.need hi rfl 11 (by show 11<21;decide) (by show 74+11<95;decide) rfl
     all_goals try have e86:a.tmps.getD 86 undef=undef:=h.need hi rfl 12 (by show 12<21;decide) (by show 74+12<95;decide) rfl
     all_goals try have e87:a.tmps.getD 87 undef=undef:=h.need hi rfl 13 (by show 13<21;decide) (by show 74+13<95;decide) rfl
     all_goals try have e88:a.tmps.getD 88 undef=undef:=h.need hi rfl 14 (by show 14<21;decide) (by show 74+14<95;decide) rfl
     all_goals try have e89:a.tmps.getD 89 undef=undef:=h.need hi rfl 15 (by show 15<21;decide) (by show 74+15<95;decide) rfl
     all_goals try have e90:a.tmps.getD 90 undef=undef:=h.need hi rfl 16 (by show 16<21;decide) (by show 74+16<95;decide) rfl
     all_goals try have e91:a.tmps.getD 91 undef=undef:=h.need hi rfl 17 (by show 17<21;decide) (by show 74+17<95;decide) rfl
     all_goals try have e92:a.tmps.getD 92 undef=undef:=h.need hi rfl 18 (by show 18<21;decide) (by show 74+18<95;decide) rfl
     all_goals try have e93:a.tmps.getD 93 undef=undef:=h.need hi rfl 19 (by show 19<21;decide) (by show 74+19<95;decide) rfl
     all_goals try have e94:a.tmps.getD 94 undef=Value.bool true:=h.need hi rfl 20 (by show 20<21;decide) (by show 74+20<95;decide) rfl
     all_goals first
      |exact bD rfl (dw rfl rfl e85 rfl) (h.step hi rfl rfl _ (.inl ⟨by decide,fun h=>h,fun h=>h⟩))
      |exact bD rfl (jK rfl rfl e89 rfl) (h.step hi rfl rfl _ (.inl ⟨by decide,fun h=>h,fun h=>h⟩))
      |(refine gU (fn:=108) (args:=#[.string (bs gd)]) rfl rfl ?_ (cn _ hW) ?_
        ·simp[execOp,aw, *,resolve,invoke,Deferred.ofValue];rfl
        ·rintro e W3⟨rfl,hx⟩;exact⟨_,rfl,h.step hi rfl rfl _ (.inl ⟨by decide,fun h=>h.trans hx,fun h=>h.trans hx⟩)⟩)
      |(refine jP (fn:=109) (args:=#[Value.agg #[.string (bs gk),.string (bs gl),.string (bs gi),.int .i64 ga,.int .i64 gc',.string (bs gq),.string (bs gp),.string (bs gco),.string (bs gd),.string (bs gr)]]) rfl (cE rfl rfl e77 rfl) ?_ (cl _ hW) ?_
        ·simp[execOp,aw, *,resolve,invoke,Deferred.ofValue];rfl
        ·rintro e W3⟨rfl,hx⟩;exact⟨_,rfl,h.step hi rfl rfl _ (.inl ⟨by decide,fun h=>h.trans hx,fun h=>h.trans hx⟩)⟩)
      |(refine jP (fn:=16) (args:=#[.string (bs gd),.string (bs lo)]) rfl (cE rfl rfl e77 rfl) ?_ (cc _ hW) ?_
        ·simp[execOp,aw, *,resolve,invoke,Deferred.ofValue];rfl
        ·rintro e W3⟨rfl,hx⟩;exact⟨_,rfl,h.step hi rfl rfl _ (.inl ⟨by decide,fun h=>h.trans hx,fun h=>h.trans hx⟩)⟩)
      |(refine cj rfl (cE rfl rfl e77 rfl) _ ?_ (h.step hi rfl rfl _ (by first|exact .inl ⟨by decide,fun h=>h,fun h=>h⟩|exact .inr ⟨rfl,hW⟩));simp[execOp,aw, *];try go_simp)
      |(refine aE rfl rfl _ ?_ (h.step hi rfl rfl _ (by first|exact .inl ⟨by decide,fun h=>h,fun h=>h⟩|exact .inr ⟨rfl,hW⟩));simp[execOp,aw, *];try go_simp)
   have t3:decide (0<cmpI (valI gd) (valI lo))=false:=by rw[decide_eq_false_iff_not,cK];exact d2
   generalize cmpI (valI gd) (valI lo)=y at *;by_cases d3:gr=[]
   ·by_cases d4:gd=[]
    ·obtain rfl:=HKK.out (fun h=>by
      rcases HBG.out.1 h with h|h|h
      ·exact d1 h
      ·exact d2 h
      ·exact h.2 d4)
     have u1:gr.isEmpty=true:=by rw[d3];rfl
     have u2:(!gd.isEmpty)=false:=by rw[d4];rfl
     clear HH HKK HBG d1 d2 d3 d4 t2;go_upto_region 15 with fail;have HD:Hid (Ext v9 v9.drew):=qh (Ext.refl _).drew
     go_region_held3 (fun w'=>w'.cell? ⟨G,0,none⟩=some (.string (bs gk))∧w'.cell? ⟨G,1,none⟩=some (.string (bs gl))∧w'.cell? ⟨G,2,none⟩=some (.string (bs gi))∧w'.cell? ⟨G,3,none⟩=some (.int .i64 ga)∧w'.cell? ⟨G,4,none⟩=some (.int .i64 gc')∧w'.cell? ⟨G,5,none⟩=some (.string (bs gq))∧w'.cell? ⟨G,6,none⟩=some (.string (bs gp))∧w'.cell? ⟨G,7,none⟩=some (.string (bs gco))∧w'.cell? ⟨G,8,none⟩=some (.string (bs gd))∧w'.cell? ⟨G,9,none⟩=some (.string (bs gr)))
      (go_keep)
      (first
       |(go_at_call 108;((with_reducible refine(ND.out _ (HE.out.ext (HX.out.trans HD.out))).mono ?_);rintro e w5⟨rfl,hx⟩);(replace HD:=HD.qt hx);(obtain⟨g0,g1,g2,g3,g4,g5,g6,g7,g8,g9⟩:=be HB.out HD.out);clear hx)
       |(go_at_call 109;((with_reducible refine(LO.out _ (HE.out.ext (HX.out.trans HD.out))).mono ?_);rintro e w5⟨rfl,hx⟩);(replace HD:=HD.qt hx);(obtain⟨g0,g1,g2,g3,g4,g5,g6,g7,g8,g9⟩:=be HB.out HD.out);clear hx)
       |(go_at_call 16;((with_reducible refine(CL.out _ (HE.out.ext (HX.out.trans HD.out))).mono ?_);rintro e w5⟨rfl,hx⟩);(replace HD:=HD.qt hx);(obtain⟨g0,g1,g2,g3,g4,g5,g6,g7,g8,g9⟩:=be HB.out HD.out);clear hx)
       |fail)
     all_goals
      go_wp2_with fail;go_ret;exact⟨rfl,HX.out.trans HD.out⟩
    ·obtain rfl:=HH.out (HBG.out.2 (.inr (.inr ⟨d3,d4⟩)));have u1:gr.isEmpty=true:=by rw[d3];rfl
     have u2:(!gd.isEmpty)=true:=by simpa using d4
     clear HH HKK HBG d1 d2 d3 d4 t2;go_upto_region 15 with fail;have HD:Hid (Ext v9 v9.drew):=qh (Ext.refl _).drew
     go_region_held3 (fun w'=>w'.cell? ⟨G,0,none⟩=some (.string (bs gk))∧w'.cell? ⟨G,1,none⟩=some (.string (bs gl))∧w'.cell? ⟨G,2,none⟩=some (.string (bs gi))∧w'.cell? ⟨G,3,none⟩=some (.int .i64 ga)∧w'.cell? ⟨G,4,none⟩=some (.int .i64 gc')∧w'.cell? ⟨G,5,none⟩=some (.string (bs gq))∧w'.cell? ⟨G,6,none⟩=some (.string (bs gp))∧w'.cell? ⟨G,7,none⟩=some (.string (bs gco))∧w'.cell? ⟨G,8,none⟩=some (.string (bs gd))∧w'.cell? ⟨G,9,none⟩=some (.string (bs gr)))
      (go_keep)
      (first
       |(go_at_call 108;((with_reducible refine(ND.out _ (HE.out.ext (HX.out.trans HD.out))).mono ?_);rintro e w5⟨rfl,hx⟩);(replace HD:=HD.qt hx);(obtain⟨g0,g1,g2,g3,g4,g5,g6,g7,g8,g9⟩:=be HB.out HD.out);clear hx)
       |(go_at_call 109;((with_reducible refine(LO.out _ (HE.out.ext (HX.out.trans HD.out))).mono ?_);rintro e w5⟨rfl,hx⟩);(replace HD:=HD.qt hx);(obtain⟨g0,g1,g2,g3,g4,g5,g6,g7,g8,g9⟩:=be HB.out HD.out);clear hx)
       |(go_at_call 16;((with_reducible refine(CL.out _ (HE.out.ext (HX.out.trans HD.out))).mono ?_);rintro e w5⟨rfl,hx⟩);(replace HD:=HD.qt hx);(obtain⟨g0,g1,g2,g3,g4,g5,g6,g7,g8,g9⟩:=be HB.out HD.out);clear hx)
       |fail)
     all_goals
      go_wp2_with fail;go_ret;exact⟨rfl,HX.out.trans HD.out⟩
   ·obtain rfl:=HKK.out (fun h=>by
     rcases HBG.out.1 h with h|h|h
     ·exact d1 h
     ·exact d2 h
     ·exact d3 h.1)
    have u1:gr.isEmpty=false:=by simpa using d3
    clear HH HKK HBG d1 d2 d3 t2;go_upto_region 15 with fail;refine wp_region_any (by kernel_rfl) ?_;change wpAny _ _ _ _ _ _ _ (World.drew v9);replace HB:=qh HB.out.drew;replace HX:=qh HX.out.drew;generalize World.drew v9=Wd at *;clear g0 g1 g2 g3 g4 g5 g6 g7 g8 g9
    have l8':∀W,Ext Wd W→(Instr.loadAt 24 (.pointer (some ⟨G,8,none⟩))).run Tryz.prog W = .ok (Value.string (bs gd)) W:=fun W hx=>by
     obtain⟨g0,g1,g2,g3,g4,g5,g6,g7,g8,g9⟩:=be HB.out hx;go_simp
    have f8:∀W:World,(Instr.fieldAt 60 (.pointer (some ⟨G,0,none⟩)) 8).run Tryz.prog W = .ok (.pointer (some ⟨G,8,none⟩)) W:=fun W=>by go_simp
    have cn:∀W,Ext Wd W→Calls Tryz.prog 108 #[.string (bs gd)] W fun e w'=>e = .returned (.bool false)∧Ext W w':=fun W hx=>ND.out W (HE.out.ext (HX.out.trans hx))
    have l60:∀W,Ext Wd W→(Instr.loadAt 60 (.pointer (some ⟨G,0,none⟩))).run Tryz.prog W = .ok (Value.agg #[.string (bs gk),.string (bs gl),.string (bs gi),.int .i64 ga,.int .i64 gc',.string (bs gq),.string (bs gp),.string (bs gco),.string (bs gd),.string (bs gr)]) W:=fun W hx=>by
     obtain⟨g0,g1,g2,g3,g4,g5,g6,g7,g8,g9⟩:=be HB.out hx;go_simp
    have cl:∀W,Ext Wd W→Calls Tryz.prog 109 #[Value.agg #[.string (bs gk),.string (bs gl),.string (bs gi),.int .i64 ga,.int .i64 gc',.string (bs gq),.string (bs gp),.string (bs gco),.string (bs gd),.string (bs gr)]] W fun e w'=>e = .returned (.string (bs lo))∧Ext W w':=fun W hx=>LO.out W (HE.out.ext (HX.out.trans hx))
    have cc:∀W,Ext Wd W→Calls Tryz.prog 16 #[.string (bs gd),.string (bs lo)] W fun e w'=>e = .returned (.int .i64 y)∧Ext W w':=fun W hx=>CL.out W (HE.out.ext (HX.out.trans hx))
    have l9':∀W,Ext Wd W→(Instr.loadAt 24 (.pointer (some ⟨G,9,none⟩))).run Tryz.prog W = .ok (Value.string (bs gr)) W:=fun W hx=>by
     obtain⟨g0,g1,g2,g3,g4,g5,g6,g7,g8,g9⟩:=be HB.out hx;go_simp
    have f9:∀W:World,(Instr.fieldAt 60 (.pointer (some ⟨G,0,none⟩)) 9).run Tryz.prog W = .ok (.pointer (some ⟨G,9,none⟩)) W:=fun W=>by go_simp
    refine iI (Inv:=GrInv _ _ (fun s=>(#[Value.pointer (some ⟨G,8,none⟩),Value.string (bs gd),Value.bool false,Value.bool false,Value.pointer (some ⟨G,8,none⟩),Value.string (bs gd),Value.agg #[.string (bs gk),.string (bs gl),.string (bs gi),.int .i64 ga,.int .i64 gc',.string (bs gq),.string (bs gp),.string (bs gco),.string (bs gd),.string (bs gr)],Value.string (bs lo),Value.int .i64 y,Value.bool false,Value.bool false,Value.bool false,Value.pointer (some ⟨G,9,none⟩),Value.string (bs gr),Value.bool false,Value.bool false,undef,undef,undef,Value.bool false,Value.bool false]:Array Value).getD (s-74) undef) 74 20 (fun W=>Ext Wd W) (fun W=>Ext Wd W)) ?hend ?hz ?hstep _ _ _ _ (GrInv.start _ (Ext.refl Wd))
    case hz=>exact fun listed a w' h=>iJ (by have:=h.cnt;omega) h.size
    case hend =>
     intro f listed a w' h hr;obtain⟨ha,hj⟩:=h.fin (by decide) hr (by kernel_rfl);have ha2:a=({ tmps:=#[nk ⟨gk,gl,gi,ga,gc',gq,gp,gco,gd,gr⟩,Value.pointer (some ⟨G,0,none⟩),u2,undef,u4,Value.pointer (some ⟨G,0,none⟩),Value.string (bs gk),Value.bool true,Value.bool false,Value.bool false,Value.pointer (some ⟨G,1,none⟩),Value.string (bs gl),Value.bool true,Value.bool false,Value.bool false,Value.bool false,Value.pointer (some ⟨G,2,none⟩),Value.string (bs gi),Value.bool true,Value.bool false,Value.bool false,Value.pointer (some ⟨G,3,none⟩),Value.int .i64 ga,Value.pointer (some ⟨G,4,none⟩),Value.int .i64 gc',Value.slice (some ⟨SD,0,none⟩) 2 2,Value.bool true,Value.bool false,Value.pointer (some ⟨G,3,none⟩),Value.int .i64 ga,Value.pointer (some ⟨G,4,none⟩),Value.int .i64 gc',Value.bool false,Value.pointer (some ⟨G,5,none⟩),Value.string (bs gq),Value.pointer (some ⟨G,6,none⟩),Value.string (bs gp),Value.pointer (some ⟨G,7,none⟩),Value.string (bs gco),Value.pointer (some ⟨G,8,none⟩),Value.string (bs gd),Value.pointer (some ⟨G,9,none⟩),Value.string (bs gr),Value.slice (some ⟨S,0,none⟩) 5 5,Value.int .i64 5,Value.int .i64 5,Value.bool false,u47,u48,u49,u50,u51,u52,Value.pointer (some ⟨G,5,none⟩),Value.string (bs gq),Value.bool false,Value.bool false,Value.pointer (some ⟨G,7,none⟩),Value.string (bs gco),Value.bool false,Value.bool false,Value.bool false,Value.pointer (some ⟨G,9,none⟩),Value.string (bs gr),Value.bool false,Value.bool false,Value.bool false,Value.pointer (some ⟨G,9,none⟩),Value.string (bs gr),Value.pointer (some ⟨G,5,none⟩),Value.string (bs gq),Value.int .i64 z,Value.bool false,Value.bool false,Value.pointer (some ⟨G,8,none⟩),Value.string (bs gd),Value.bool false,Value.bool false,Value.pointer (some ⟨G,8,none⟩),Value.string (bs gd),Value.agg #[.string (bs gk),.string (bs gl),.string (bs gi),.int .i64 ga,.int .i64 gc',.string (bs gq),.string (bs gp),.string (bs gco),.string (bs gd),.string (bs gr)],Value.string (bs lo),Value.int .i64 y,Value.bool false,Value.bool false,Value.bool false,Value.pointer (some ⟨G,9,none⟩),Value.string (bs gr),Value.bool false,Value.bool false,undef,undef,undef,Value.bool false,Value.bool false],defers:=[] }:Act):=ha.trans (by kernel_rfl);clear ha;subst ha2;have HJ:=qh hj;clear h hr hj l8' f8 cn l60 cl cc l9' f9;go_wp2_with fail;go_ret;exact⟨rfl,HX.out.trans HJ.out⟩
    case hstep =>
     intro f listed a w' i h hi;have hW:Ext Wd w':=by rcases h.wld with ⟨_,h2⟩ | ⟨_,h2⟩ <;> exact h2
     have hlt:i<21:=db hi;have hbz:∀s,s<74→a.tmps.getD s undef=_:=fun s hs=>h.base' (s:=s) (by show s<95;omega) (.inl hs)
     obtain rfl|rfl|rfl|rfl|rfl|rfl|rfl|rfl|rfl|rfl|rfl|rfl|rfl|rfl|rfl|rfl|rfl|rfl|rfl|rfl|rfl:i=0∨i=1∨i=2∨i=3∨i=4∨i=5∨i=6∨i=7∨i=8∨i=9∨i=10∨i=11∨i=12∨i=13∨i=14∨i=15∨i=16∨i=17∨i=18∨i=19∨i=20:=by omega
     all_goals have e1:a.tmps.getD 1 undef=Value.pointer (some ⟨G,0,none⟩):=hbz 1 (by omega)
     all_goals try have e74:a.tmps.getD 74 undef=Value.pointer (some ⟨G,8,none⟩):=h.need hi rfl 0 (by show 0<21;decide) (by show 74+0<95;decide) rfl
     all_goals try have e75:a.tmps.getD 75 undef=Value.string (bs gd):=h.need hi rfl 1 (by show 1<21;decide) (by show 74+1<95;decide) rfl
     all_goals try have e76:a.tmps.getD 76 undef=Value.bool false:=h.need hi rfl 2 (by show 2<21;decide) (by show 74+2<95;decide) rfl
     all_goals try have e77:a.tmps.getD 77 undef=Value.bool false:=h.need hi rfl 3 (by show 3<21;decide) (by show 74+3<95;decide) rfl
     all_goals try have e78:a.tmps.getD 78 undef=Value.pointer (some ⟨G,8,none⟩):=h.need hi rfl 4 (by show 4<21;decide) (by show 74+4<95;decide) rfl
     all_goals try have e79:a.tmps.getD 79 undef=Value.string (bs gd):=h.need hi rfl 5 (by show 5<21;decide) (by show 74+5<95;decide) rfl
     all_goals try have e80:a.tmps.getD 80 undef=Value.agg #[.string (bs gk),.string (bs gl),.string (bs gi),.int .i64 ga,.int .i64 gc',.string (bs gq),.string (bs gp),.string (bs gco),.string (bs gd),.string (bs gr)]:=h.need hi rfl 6 (by show 6<21;decide) (by show 74+6<95;decide) rfl
     all_goals try have e81:a.tmps.getD 81 undef=Value.string (bs lo):=h.need hi rfl 7 (by show 7<21;decide) (by show 74+7<95;decide) rfl
     all_goals try have e82:a.tmps.getD 82 undef=Value.int .i64 y:=h.need hi rfl 8 (by show 8<21;decide) (by show 74+8<95;decide) rfl
     all_goals try have e83:a.tmps.getD 83 undef=Value.bool false:=h.need hi rfl 9 (by show 9<21;decide) (by show 74+9<95;decide) rfl
     all_goals try have e84:a.tmps.getD 84 undef=Value.bool false:=h.need hi rfl 10 (by show 10<21;decide) (by show 74+10<95;decide) rfl
     all_goals try have e85:a.tmps.getD 85 undef=Value.bool false:=h.need hi rfl 11 (by show 11<21;decide) (by show 74+11<95;decide) rfl
     all_goals try have e86:a.tmps.getD 86 undef=Value.pointer (some ⟨G,9,none⟩):=h.need hi rfl 12 (by show 12<21;decide) (by show 74+12<95;decide) rfl
     all_goals try have e87:a.tmps.getD 87 undef=Value.string (bs gr):=h.need hi rfl 13 (by show 13<21;decide) (by show 74+13<95;decide) rfl
     all_goals try have e88:a.tmps.getD 88 undef=Value.bool false:=h.need hi rfl 14 (by show 14<21;decide) (by show 74+14<95;decide) rfl
     all_goals try have e89:a.tmps.getD 89 undef=Value.bool false:=h.need hi rfl 15 (by show 15<21;decide) (by show 74+15<95;decide) rfl
     all_goals try have e90:a.tmps.getD 90 undef=undef:=h.need hi rfl 16 (by show 16<21;decide) (by show 74+16<95;decide) rfl
     all_goals try have e91:a.tmps.getD 91 undef=undef:=h.need hi rfl 17 (by show 17<21;decide) (by show 74+17<95;decide) rfl
     all_goals try have e92:a.tmps.getD 92 undef=undef:=h.need hi rfl 18 (by show 18<21;decide) (by show 74+18<95;decide) rfl
     all_goals try have e93:a.tmps.getD 93 undef=Value.bool false:=h.need hi rfl 19 (by show 19<21;decide) (by show 74+19<95;decide) rfl
     all_goals try have e94:a.tmps.getD 94 undef=Value.bool false:=h.need hi rfl 20 (by show 20<21;decide) (by show 74+20<95;decide) rfl
     all_goals first
      |exact bD rfl (pG rfl rfl e89 rfl) (h.step hi rfl rfl _ (.inl ⟨by decide,fun h=>h,fun h=>h⟩))
      |(refine gU (fn:=108) (args:=#[.string (bs gd)]) rfl rfl ?_ (cn _ hW) ?_
        ·simp[execOp,aw, *,resolve,invoke,Deferred.ofValue];rfl
        ·rintro e W3⟨rfl,hx⟩;exact⟨_,rfl,h.step hi rfl rfl _ (.inl ⟨by decide,fun h=>h.trans hx,fun h=>h.trans hx⟩)⟩)
      |(refine jP (fn:=109) (args:=#[Value.agg #[.string (bs gk),.string (bs gl),.string (bs gi),.int .i64 ga,.int .i64 gc',.string (bs gq),.string (bs gp),.string (bs gco),.string (bs gd),.string (bs gr)]]) rfl (cE rfl rfl e77 rfl) ?_ (cl _ hW) ?_
        ·simp[execOp,aw, *,resolve,invoke,Deferred.ofValue];rfl
        ·rintro e W3⟨rfl,hx⟩;exact⟨_,rfl,h.step hi rfl rfl _ (.inl ⟨by decide,fun h=>h.trans hx,fun h=>h.trans hx⟩)⟩)
      |(refine jP (fn:=16) (args:=#[.string (bs gd),.string (bs lo)]) rfl (cE rfl rfl e77 rfl) ?_ (cc _ hW) ?_
        ·simp[execOp,aw, *,resolve,invoke,Deferred.ofValue];rfl
        ·rintro e W3⟨rfl,hx⟩;exact⟨_,rfl,h.step hi rfl rfl _ (.inl ⟨by decide,fun h=>h.trans hx,fun h=>h.trans hx⟩)⟩)
      |(refine cj rfl (cE rfl rfl e77 rfl) _ ?_ (h.step hi rfl rfl _ (by first|exact .inl ⟨by decide,fun h=>h,fun h=>h⟩|exact .inr ⟨rfl,hW⟩));simp[execOp,aw, *];try go_simp)
      |(refine cj rfl (cE rfl rfl e85 rfl) _ ?_ (h.step hi rfl rfl _ (by first|exact .inl ⟨by decide,fun h=>h,fun h=>h⟩|exact .inr ⟨rfl,hW⟩));simp[execOp,aw, *];try go_simp)
      |(refine aE rfl rfl _ ?_ (h.step hi rfl rfl _ (by first|exact .inl ⟨by decide,fun h=>h,fun h=>h⟩|exact .inr ⟨rfl,hW⟩));simp[execOp,aw, *];try go_simp)
end
end Go.Proofs.YtaegjkllenlfpaaGreatDoor
