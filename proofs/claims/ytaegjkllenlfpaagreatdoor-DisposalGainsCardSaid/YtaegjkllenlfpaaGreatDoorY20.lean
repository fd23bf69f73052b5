/- The seat's texts, part Y20. -/
import Derived.Test.YtaegjkllenlfpaaGreatDoorY19
set_option maxRecDepth 100000
set_option maxHeartbeats 8000000
namespace Go.Proofs.YtaegjkllenlfpaaGreatDoor
open Tryz
variable {w':World}{g o cap:Nat}
section
open Go.RowKit
open Go.Maps (Keyed)
attribute [local go_sem] size_bs toList_bs
def hZ(f:FactV):Nat->Fr
 |4=>⟨f.qty,[]⟩
 |5=>⟨f.amt,[]⟩
 |6=>⟨f.fee,[]⟩
 |7=>f.price
 |8=>f.ratio
 |_=>f.share
def eL(s:Bs):Int:=if isName s=true then 0 else 23
def dQ(f:FactV)(code:Bool):Int:=if code=true then(if gn f.other=false then 12 else if f.other=f.cur then 18 else 0) else(if isName f.other=false then 23 else if f.other=f.ins then 18 else 0)
def Ci(f:FactV):Int:=if gn f.cur=true then 0 else 12
def rK(f:FactV):Int:=if f.choice<0 then 2 else 0
theorem Ig(f:Fr)(h1:f.num.length<=9000)(h2:f.den.length<=9000)(p q:Bool)(hpq:p=false∨q=false)(g1 g2:Nat)(w:World)(hE:Env w)(b1:Blk w g1 4 #[.bool p])(b2:Blk w g2 4 #[.bool q]) :
  Calls prog 199 #[.agg #[.string (bs f.num),.string (bs f.den)],.pointer (some ⟨g1,0,none⟩),.pointer (some ⟨g2,0,none⟩)] w fun e w'=>e = .returned (.int .i64 (bU f p q))∧Ext w w':=by
 cases q
 ·rw[qA];exact qr f h1 h2 p g1 g2 w hE b1 b2
 ·obtain rfl:p=false:=by simpa using hpq
  exact Hb f h1 h2 g1 g2 w hE b1 b2
theorem Ih{w:World}{b n:Nat}{D:DataW Value}{k:Nat}{v:Value}(hM:bG w b n D)(hk:k<13)(h2:∀z,D.atKey (.int .i64 (k:Nat)) z = .held v) :
  (Instr.lookup MT (.map (some b)) (.int .i64 (k:Nat)) false).run prog w = .ok v w:=by
 obtain⟨v',ps,h1,h3⟩:=World.ownsMap.lookup hM (t:=MT) (e:=qw) gF Pa (zeroValue163 w) (zd := .held _) (zp:=[]) rfl (mF (k:Nat) (by omega));rw[h2]at h3;unfold RK at h3;injection h3 with h3
 injection h3 with h3 _
 injection h3 with h3
 subst h3;exact h1
section
variable (f:FactV) (P O:Value) (K:Array Value) (w:World)
theorem Cj(hs:f.ins.length<=9000):Calls prog 64 #[aC f P O,.agg K,.int .i64 0] w fun e w'=>e = .returned (.int .i64 (eL f.ins))∧Ext w w':=by
 have HB:=qh (ID w 30 (ag f P O));have HX0:Hid (Ext w (w.alloc (.cells (ag f P O) 30))):=qh (Id _ _);have HX:Hid (Ext w ((w.alloc (.cells (ag f P O) 30)).alloc (.cells K 103))):=qh ((Id _ _).alloc _);replace HB:=qh (HB.out.alloc (.cells K 103));have HN:=qh (fun W=>uj f.ins W hs);unfold eL;generalize (if isName f.ins=true then(0:Int) else 23)=r at *;go_enter Qy,Qj;obtain⟨-,-,-,-,-,x5,-⟩:=aj HB.out (iD _);go_wp2_with fail;refine(HN.out _).mono ?_;rintro e v3⟨rfl,hx1⟩;replace HX:=HX.qt hx1;clear hx1;go_wp2_with fail;go_ret;exact⟨rfl,HX.out⟩
theorem Ck(hs:f.tgt.length<=9000):Calls prog 64 #[aC f P O,.agg K,.int .i64 3] w fun e w'=>e = .returned (.int .i64 (eL f.tgt))∧Ext w w':=by
 have HB:=qh (ID w 30 (ag f P O));have HX0:Hid (Ext w (w.alloc (.cells (ag f P O) 30))):=qh (Id _ _);have HX:Hid (Ext w ((w.alloc (.cells (ag f P O) 30)).alloc (.cells K 103))):=qh ((Id _ _).alloc _);replace HB:=qh (HB.out.alloc (.cells K 103));have HN:=qh (fun W=>uj f.tgt W hs);unfold eL;generalize (if isName f.tgt=true then(0:Int) else 23)=r at *;go_enter Qy,Qj;obtain⟨-,-,-,-,-,-,-,-,x8,-⟩:=aj HB.out (iD _);go_wp2_with fail;refine(HN.out _).mono ?_;rintro e v7⟨rfl,hx1⟩;replace HX:=HX.qt hx1;clear hx1;go_wp2_with fail;go_ret;exact⟨rfl,HX.out⟩
theorem Cl(hs:f.cur.length<=9000):Calls prog 64 #[aC f P O,.agg K,.int .i64 2] w fun e w'=>e = .returned (.int .i64 (Ci f))∧Ext w w':=by
 have HB:=qh (ID w 30 (ag f P O));have HX0:Hid (Ext w (w.alloc (.cells (ag f P O) 30))):=qh (Id _ _);have HX:Hid (Ext w ((w.alloc (.cells (ag f P O) 30)).alloc (.cells K 103))):=qh ((Id _ _).alloc _);replace HB:=qh (HB.out.alloc (.cells K 103));have HN:=qh (fun W=>zw f.cur (by omega) W);unfold Ci;generalize gn f.cur=b at *;go_enter Qy,Qj;obtain⟨-,-,-,-,-,-,-,x7,-⟩:=aj HB.out (iD _);go_wp2_with fail;refine(HN.out _).mono ?_;rintro e v11⟨rfl,hx1⟩;replace HX:=HX.qt hx1;clear hx1
 cases b
 ·skip;go_wp2_with fail;go_ret;exact⟨rfl,HX.out⟩
 ·skip;go_wp2_with fail;go_ret;exact⟨rfl,HX.out⟩
theorem zB:Calls prog 64 #[aC f P O,.agg K,.int .i64 12] w fun e w'=>e = .returned (.int .i64 (rK f))∧Ext w w':=by
 have HB:=qh (ID w 30 (ag f P O));have HX0:Hid (Ext w (w.alloc (.cells (ag f P O) 30))):=qh (Id _ _);have HX:Hid (Ext w ((w.alloc (.cells (ag f P O) 30)).alloc (.cells K 103))):=qh ((Id _ _).alloc _);replace HB:=qh (HB.out.alloc (.cells K 103));unfold rK;go_enter Qy,Qj;obtain⟨-,-,-,-,-,-,-,-,-,-,-,-,-,-,-,-,-,-,-,-,x20⟩:=aj HB.out (iD _);by_cases hc:f.choice<0
 ·have g:decide (f.choice<0)=true:=Pz hc;rw[Mq hc];go_wp2_with fail;go_ret;exact⟨rfl,HX.out⟩
 ·have g:decide (f.choice<0)=false:=Nv hc;rw[Mj hc];go_wp2_with fail;go_ret;exact⟨rfl,HX.out⟩
theorem zC(r:Int)(h:∀W,Ext w W->Calls prog 135 #[aC f P O] W fun e w'=>e = .returned (.int .i64 r)∧Ext W w') :
  Calls prog 64 #[aC f P O,.agg K,.int .i64 10] w fun e w'=>e = .returned (.int .i64 r)∧Ext w w':=by
 have HB:=qh (ID w 30 (ag f P O));have HX0:Hid (Ext w (w.alloc (.cells (ag f P O) 30))):=qh (Id _ _);have HX:Hid (Ext w ((w.alloc (.cells (ag f P O) 30)).alloc (.cells K 103))):=qh ((Id _ _).alloc _);replace HB:=qh (HB.out.alloc (.cells K 103));have HN:=qh (fun W hx=>h W hx);clear h;have hs1:(prog.info? 30).map (·.size)=some (ag f P O).toList.length:=by kernel_rfl
 have hrg:=aL HB.out;go_enter Qy,Qj;go_wp2_with (first|refine Oh rfl 30 _ rfl w.heap.size 0 rfl _ _ hrg M3 rfl hs1 ?_|fail);refine(HN.out _ HX.out).mono ?_;rintro e v20⟨rfl,hx1⟩;replace HX:=HX.qt hx1;clear hx1;go_wp2_with fail;go_ret;exact⟨rfl,HX.out⟩
theorem zD(r:Int)(h:∀W,Ext w W->Calls prog 136 #[aC f P O] W fun e w'=>e = .returned (.int .i64 r)∧Ext W w') :
  Calls prog 64 #[aC f P O,.agg K,.int .i64 11] w fun e w'=>e = .returned (.int .i64 r)∧Ext w w':=by
 have HB:=qh (ID w 30 (ag f P O));have HX0:Hid (Ext w (w.alloc (.cells (ag f P O) 30))):=qh (Id _ _);have HX:Hid (Ext w ((w.alloc (.cells (ag f P O) 30)).alloc (.cells K 103))):=qh ((Id _ _).alloc _);replace HB:=qh (HB.out.alloc (.cells K 103));have HN:=qh (fun W hx=>h W hx);clear h;have hs1:(prog.info? 30).map (·.size)=some (ag f P O).toList.length:=by kernel_rfl
 have hrg:=aL HB.out;go_enter Qy,Qj;go_wp2_with (first|refine Oh rfl 30 _ rfl w.heap.size 0 rfl _ _ hrg M3 rfl hs1 ?_|fail);refine(HN.out _ HX.out).mono ?_;rintro e v24⟨rfl,hx1⟩;replace HX:=HX.qt hx1;clear hx1;go_wp2_with fail;go_ret;exact⟨rfl,HX.out⟩
end
section
variable (f:FactV) (P O:Value) (word:Bs) (cl:Int) (b0 b1 b2 b3 b4 b5 b6 b7 b8 b9 b10 b11 b12:Bool) (num:Value) (code:Bool) (w:World)
abbrev mK(word:Bs)(cl:Int)(b0 b1 b2 b3 b4 b5 b6 b7 b8 b9 b10 b11 b12:Bool)(num:Value)(code:Bool):Array Value:=(aH word cl [b0,b1,b2,b3,b4,b5,b6,b7,b8,b9,b10,b11,b12] num code).toArray
theorem Cm(h1:f.other.length<=9000):Calls prog 64 #[aC f P O,.agg (mK word cl b0 b1 b2 b3 b4 b5 b6 b7 b8 b9 b10 b11 b12 num code),.int .i64 1] w fun e w'=>e = .returned (.int .i64 (dQ f code))∧Ext w w':=by
 have HB:=qh (ID w 30 (ag f P O));have HX0:Hid (Ext w (w.alloc (.cells (ag f P O) 30))):=qh (Id _ _);have HX:Hid (Ext w ((w.alloc (.cells (ag f P O) 30)).alloc (.cells (mK word cl b0 b1 b2 b3 b4 b5 b6 b7 b8 b9 b10 b11 b12 num code) 103))):=qh ((Id _ _).alloc _);replace HB:=qh (HB.out.alloc (.cells (mK word cl b0 b1 b2 b3 b4 b5 b6 b7 b8 b9 b10 b11 b12 num code) 103));have HK:=qh (Mf (w.alloc (.cells (ag f P O) 30)) 103 (mK word cl b0 b1 b2 b3 b4 b5 b6 b7 b8 b9 b10 b11 b12 num code) (w.heap.size+1) (by simp));have HN:Hid (∀W,Calls prog 133 #[.string (bs f.other)] W fun e w'=>e = .returned (.int .i64 (eL f.other))∧Ext W w'):=qh (fun W=>uj f.other W h1);have HC:=qh (fun W=>zw f.other (by omega) W);have R0:Hid (code=true->gn f.other=false->dQ f code=12):=qh (fun a b=>by unfold dQ;rw[Mq a,Mq b]);have R1:Hid (code=true->gn f.other=true->f.other=f.cur->dQ f code=18):=qh (fun a b c=>by unfold dQ;rw[Mq a,Mj (by rw[b];decide),Mq c]);have R2:Hid (code=true->gn f.other=true->f.other≠f.cur->dQ f code=0):=qh (fun a b c=>by unfold dQ;rw[Mq a,Mj (by rw[b];decide),Mj c]);have S0:Hid (code=false->isName f.other=false->dQ f code=23∧eL f.other=23):=qh (fun a b=>by unfold dQ eL;rw[Mj (by rw[a];decide),Mq b,Mj (by rw[b];decide)];exact⟨rfl,rfl⟩);have S1:Hid (code=false->isName f.other=true->eL f.other=0∧(f.other=f.ins->dQ f code=18)∧(f.other≠f.ins->dQ f code=0)):=qh (fun a b=>⟨by unfold eL;rw[Mq b],fun c=>by unfold dQ;rw[Mj (by rw[a];decide),Mj (by rw[b];decide),Mq c],fun c=>by unfold dQ;rw[Mj (by rw[a];decide),Mj (by rw[b];decide),Mj c]⟩);generalize dQ f code=r at *;generalize eL f.other=ne at *;generalize isName f.other=nm at *;generalize gn f.other=cd at *;go_enter Qy,Qj;obtain⟨-,-,-,-,-,x5,x6,x7,-⟩:=aj HB.out (iD _);obtain⟨_,_,_,_,_,_,_,_,_,_,_,_,_,_,_,_,k16⟩:=rF HK.out
 cases code
 ·clear R0 R1 R2 HC
  cases nm
  ·obtain⟨e0,e1⟩:=S0.out (by trivial) (by trivial);subst e0;subst e1;clear S0 S1;go_wp2_with fail;refine(HN.out _).mono ?_;rintro e v28⟨rfl,hx1⟩;replace HX:=HX.qt hx1;clear hx1;go_wp2_with fail;go_ret;exact⟨rfl,HX.out⟩
  ·obtain⟨e1,E2,E3⟩:=S1.out (by trivial) (by trivial);subst e1;have G2:=qh E2;have G3:=qh E3;clear S0 S1 E2 E3;go_wp2_with fail;refine(HN.out _).mono ?_;rintro e v30⟨rfl,hx1⟩;replace HB:=qh (HB.out.ext hx1);replace HX:=HX.qt hx1;clear hx1;clear x5 x6 x7 k16;obtain⟨-,-,-,-,-,x5,x6,-⟩:=aj HB.out (iD _);by_cases ho:f.other=f.ins
   focus have g:(f.other == f.ins)=true:=Np.2 ho;have e0:=G2.out ho
   rotate_left
   focus have g:(f.other == f.ins)=false:=Mt.2 ho;have e0:=G3.out ho
   all_goals
    subst e0;clear ho G2 G3;go_wp2_with fail;go_ret;exact⟨rfl,HX.out⟩
 ·clear S0 S1 HN
  cases cd
  ·have e0:=R0.out (by trivial) (by trivial);subst e0;clear R0 R1 R2;go_wp2_with fail;refine(HC.out _).mono ?_;rintro e v34⟨rfl,hx1⟩;replace HX:=HX.qt hx1;clear hx1;go_wp2_with fail;go_ret;exact⟨rfl,HX.out⟩
  ·replace R1:=qh (R1.out (by trivial) (by trivial));replace R2:=qh (R2.out (by trivial) (by trivial));clear R0;go_wp2_with fail;refine(HC.out _).mono ?_;rintro e v36⟨rfl,hx1⟩;replace HB:=qh (HB.out.ext hx1);replace HX:=HX.qt hx1;clear hx1;clear x5 x6 x7 k16;obtain⟨-,-,-,-,-,-,x6,x7,-⟩:=aj HB.out (iD _);by_cases ho:f.other=f.cur
   focus have g:(f.other == f.cur)=true:=Np.2 ho;have e0:=R1.out ho
   rotate_left
   focus have g:(f.other == f.cur)=false:=Mt.2 ho;have e0:=R2.out ho
   all_goals
    subst e0;clear ho R1 R2;go_wp2_with fail;go_ret;exact⟨rfl,HX.out⟩
theorem oo(k:Nat)(hk:k<13)(t:((k:Int) == 0)=false∧((k:Int) == 1)=false∧((k:Int) == 2)=false∧((k:Int) == 3)=false∧((k:Int) == 10)=false∧((k:Int) == 11)=false∧((k:Int) == 12)=false)(FR:Fr)(hix:qB f k (.string (bs FR.num)) (.string (bs FR.den)))(b:Nat)(es:lK)(p q:Bool)(hCM:CM w b es)(hin:(k,p,q) ∈ es)(hpq:p=false∨q=false)(h1:FR.num.length<=9000)(h2:FR.den.length<=9000)(hE:Env w) :
  Calls prog 64 #[aC f P O,.agg (mK word cl b0 b1 b2 b3 b4 b5 b6 b7 b8 b9 b10 b11 b12 (.map (some b)) code),(.int .i64 (k:Nat))] w fun e w'=>e = .returned (.int .i64 (bU FR p q))∧Ext w w':=by
 have HB:=qh (ID w 30 (ag f P O));have HX0:Hid (Ext w (w.alloc (.cells (ag f P O) 30))):=qh (Id _ _);have HX:Hid (Ext w ((w.alloc (.cells (ag f P O) 30)).alloc (.cells (mK word cl b0 b1 b2 b3 b4 b5 b6 b7 b8 b9 b10 b11 b12 (.map (some b)) code) 103))):=qh ((Id _ _).alloc _);replace HB:=qh (HB.out.alloc (.cells (mK word cl b0 b1 b2 b3 b4 b5 b6 b7 b8 b9 b10 b11 b12 (.map (some b)) code) 103));have HK:=qh (Mf (w.alloc (.cells (ag f P O) 30)) 103 (mK word cl b0 b1 b2 b3 b4 b5 b6 b7 b8 b9 b10 b11 b12 (.map (some b)) code) (w.heap.size+1) (by simp));obtain⟨t0,t1,t2,t3,t10,t11,t12⟩:=t;have HE:=qh hE;have LIM:Hid (∀g1 g2 W,Env W->Blk W g1 4 #[.bool p]->Blk W g2 4 #[.bool q]->Calls prog 199 #[.agg #[.string (bs FR.num),.string (bs FR.den)],.pointer (some ⟨g1,0,none⟩),.pointer (some ⟨g2,0,none⟩)] W fun e w'=>e = .returned (.int .i64 (bU FR p q))∧Ext W w'):=qh (fun g1 g2 W hE b1 b2=>Ig FR h1 h2 p q hpq g1 g2 W hE b1 b2);have GV:=qh (wN f P O (k:Nat) (bs FR.num) (bs FR.den) hix);generalize bU FR p q=r at *;obtain⟨n,D,hM,_,_,hent⟩:=hCM.ext HX.out;obtain⟨_,v0,hat,g1,g2,rfl,c1,c2⟩:=hent _ hin;have HM:=qh hM;have HAT:=qh hat;have C1:=qh c1;have C2:=qh c2;clear hM hat c1 c2 hent hCM h1 h2 hpq hin hE;have hs1:(prog.info? 30).map (·.size)=some (ag f P O).toList.length:=by kernel_rfl
 go_enter Qy,Qj;go_upto_region 3 with fail;generalize (w.alloc (.cells (ag f P O) 30)).alloc (.cells (mK word cl b0 b1 b2 b3 b4 b5 b6 b7 b8 b9 b10 b11 b12 (.map (some b)) code) 103)=W0 at *;refine QU (S:=fun w'=>Ext W0 w') (by kernel_rfl) (iD _).drew (fun hHeld=>?_);have HD:Hid (Ext W0 W0.drew):=qh (iD W0).drew;refine tk 0 (.pointer (some ⟨w.heap.size+1,15,none⟩)) rfl (by kernel_rfl) (fun _ _ _ h=>h) (NB ⟨by kernel_rfl,?_⟩) (by assumption) ?_
 ·intro W hSw;(try dsimp only at hSw)
  skip;go_simp
 (try simp only[p4])
 refine tk 1 (.map (some b)) rfl (by kernel_rfl) (fun _ _ _ h=>h) (NB ⟨by kernel_rfl,?_⟩) (by assumption) ?_
 ·intro W hSw;(try dsimp only at hSw)
  obtain⟨_,_,_,_,_,_,_,_,_,_,_,_,_,_,_,k15,_⟩:=rF (HK.out.ext hSw);go_simp
 (try simp only[p4])
 refine tk 2 ((.int .i64 (k:Nat))) rfl (by kernel_rfl) (fun _ _ _ h=>h) (NB ⟨by kernel_rfl,?_⟩) (by assumption) ?_
 ·intro W hSw;(try dsimp only at hSw)
  skip;go_simp
 (try simp only[p4])
 refine tk 3 (jP g1 g2) rfl (by kernel_rfl) (fun _ _ _ h=>h) (NB ⟨by kernel_rfl,?_⟩) (by assumption) ?_
 ·intro W hSw;(try dsimp only at hSw)
  have hl:(Instr.lookup 101 (.map (some b)) (.int .i64 (k:Nat)) false).run prog W = .ok (jP g1 g2) W:=Ih (HM.out.ext hSw) (k:=k) hk HAT.out;go_simp
 (try simp only[p4])
 refine tk 4 (.agg (ag f P O).toList.toArray) rfl (by kernel_rfl) (fun _ _ _ h=>h) (yieldsIf_load_mid (by kernel_rfl) 30 _ rfl w.heap.size 0 rfl (ag f P O).toList _ (fun W hSw=>aL (HB.out.ext hSw)) M3 rfl hs1) (by assumption) ?_;(try simp only)
 refine tk 5 ((.int .i64 (k:Nat))) rfl (by kernel_rfl) (fun _ _ _ h=>h) (NB ⟨by kernel_rfl,?_⟩) (by assumption) ?_
 ·intro W hSw;(try dsimp only at hSw)
  skip;go_simp
 (try simp only[p4])
 refine Nn (rs:=[6]) (by kernel_rfl) (by simp) ?_;refine M9 rfl (fun K hK=>?_) (Ni);go_simp;refine(GV.out _).mono ?_;rintro e w5⟨rfl,hx5⟩;replace HD:=HD.qt hx5;clear hx5;refine hK.out _ _ HD.out (fun hHeld=>?_);clear hK K;(try simp only[p4])
 refine Nn (rs:=[7]) (by kernel_rfl) (by simp) ?_;refine M9 rfl (fun K hK=>?_) (Ni);go_simp;refine(LIM.out _ _ _ (HE.out.ext (HX.out.trans HD.out)) (C1.out.ext HD.out) (C2.out.ext HD.out)).mono ?_;rintro e w7⟨rfl,hx7⟩;replace HD:=HD.qt hx7;clear hx7;refine hK.out _ _ HD.out (fun hHeld=>?_);clear hK K;(try simp only[p4])
 refine tk 8 (.int .i64 r) rfl (by kernel_rfl) (fun _ _ _ h=>h) (NB ⟨by kernel_rfl,?_⟩) (by assumption) ?_
 ·intro W hSw;(try dsimp only at hSw)
  skip;go_simp
 (try simp only[p4])
 refine Rs (by kernel_rfl) ?_ _;replace HX:=qh (HX.out.trans HD.out);go_wp2_with fail;go_ret;exact⟨rfl,HX.out⟩
end
end
section
open Go.RowKit
attribute [local go_sem] size_bs toList_bs
theorem tx(A:Option Addr)(n c:Nat)(w:World):Calls prog 127 #[.slice A n c,.slice none 0 0] w fun e w'=>e = .returned (.bool (decide (n=0)))∧Ext w w':=by
 go_enter func127,ntmps127;by_cases h:n=0
 ·subst h;go_wp2_with fail;refine N4 1 ?_;rw[NN];go_wp2_with fail;go_ret;exact⟨rfl,iD _⟩
 ·have g:((n:Int) != 0)=true:=by rw[Nc];omega
  rw[Nv h];clear h;go_wp2_with fail;go_ret;exact⟨rfl,iD _⟩
theorem yb(A:Option Addr)(n c:Nat)(w:World):Calls prog 128 #[.slice A n c,.slice none 0 0] w fun e w'=>e = .returned (.bool (decide (n=0)))∧Ext w w':=by
 go_enter func128,ntmps128;by_cases h:n=0
 ·subst h;go_wp2_with fail;refine N4 1 ?_;rw[NN];go_wp2_with fail;go_ret;exact⟨rfl,iD _⟩
 ·have g:((n:Int) != 0)=true:=by rw[Nc];omega
  rw[Nv h];clear h;go_wp2_with fail;go_ret;exact⟨rfl,iD _⟩
def fG(day kind choice:Int)(ins other cur tgt qty amt fee pn pd rn rd sn sd:Bs)(n m:Nat):Bool:=decide (day=0) && decide (kind=0) && ins.isEmpty && other.isEmpty && cur.isEmpty && tgt.isEmpty && qty.isEmpty && amt.isEmpty && fee.isEmpty && pn.isEmpty && pd.isEmpty && rn.isEmpty && rd.isEmpty && sn.isEmpty && sd.isEmpty && decide (n=0) && decide (m=0) && decide (choice=0)
section
variable (key:Bs) (stamp:Int)
abbrev fj(key:Bs)(stamp:Int):Array Value:=#[.string (bs key),.int .i64 stamp,.bool true,.int .i64 0,.int .i64 0,.string ⟨#[]⟩,.string ⟨#[]⟩,.string ⟨#[]⟩,.string ⟨#[]⟩,.string ⟨#[]⟩,.string ⟨#[]⟩,.string ⟨#[]⟩,.string ⟨#[]⟩,.string ⟨#[]⟩,.string ⟨#[]⟩,.string ⟨#[]⟩,.string ⟨#[]⟩,.string ⟨#[]⟩,.slice none 0 0,.slice none 0 0,.int .i64 0]
theorem iY{w:World}{key:Bs}{stamp:Int}(h:Blk w g 30 (fj key stamp))(hx:Ext w w') :
  w'.cell? ⟨g,0,none⟩=some (.string (bs key))∧w'.cell? ⟨g,1,none⟩=some (.int .i64 stamp)∧w'.cell? ⟨g,2,none⟩=some (.bool true)∧w'.cell? ⟨g,3,none⟩=some (.int .i64 0)∧w'.cell? ⟨g,4,none⟩=some (.int .i64 0)∧w'.cell? ⟨g,5,none⟩=some (.string ⟨#[]⟩)∧w'.cell? ⟨g,6,none⟩=some (.string ⟨#[]⟩)∧w'.cell? ⟨g,7,none⟩=some (.string ⟨#[]⟩)∧w'.cell? ⟨g,8,none⟩=some (.string ⟨#[]⟩)∧w'.cell? ⟨g,9,none⟩=some (.string ⟨#[]⟩)∧w'.cell? ⟨g,10,none⟩=some (.string ⟨#[]⟩)∧w'.cell? ⟨g,11,none⟩=some (.string ⟨#[]⟩)∧w'.cell? ⟨g,12,none⟩=some (.string ⟨#[]⟩)∧w'.cell? ⟨g,13,none⟩=some (.string ⟨#[]⟩)∧w'.cell? ⟨g,14,none⟩=some (.string ⟨#[]⟩)∧w'.cell? ⟨g,15,none⟩=some (.string ⟨#[]⟩)∧w'.cell? ⟨g,16,none⟩=some (.string ⟨#[]⟩)∧w'.cell? ⟨g,17,none⟩=some (.string ⟨#[]⟩)∧w'.cell? ⟨g,18,none⟩=some (.slice none 0 0)∧w'.cell? ⟨g,19,none⟩=some (.slice none 0 0)∧w'.cell? ⟨g,20,none⟩=some (.int .i64 0):=by
 have k:=h.ext hx;exact⟨k.cell 0,k.cell 1,k.cell 2,k.cell 3,k.cell 4,k.cell 5,k.cell 6,k.cell 7,k.cell 8,k.cell 9,k.cell 10,k.cell 11,k.cell 12,k.cell 13,k.cell 14,k.cell 15,k.cell 16,k.cell 17,k.cell 18,k.cell 19,k.cell 20⟩
theorem c21{w:World}{t:TypeId}{a0 a1 a2 a3 a4 a5 a6 a7 a8 a9 a10 a11 a12 a13 a14 a15 a16 a17 a18 a19 a20:Value}(h:Blk w g t #[a0,a1,a2,a3,a4,a5,a6,a7,a8,a9,a10,a11,a12,a13,a14,a15,a16,a17,a18,a19,a20])(hx:Ext w w') :
  w'.cell? ⟨g,0,none⟩=some a0∧w'.cell? ⟨g,1,none⟩=some a1∧w'.cell? ⟨g,2,none⟩=some a2∧w'.cell? ⟨g,3,none⟩=some a3∧w'.cell? ⟨g,4,none⟩=some a4∧w'.cell? ⟨g,5,none⟩=some a5∧w'.cell? ⟨g,6,none⟩=some a6∧w'.cell? ⟨g,7,none⟩=some a7∧w'.cell? ⟨g,8,none⟩=some a8∧w'.cell? ⟨g,9,none⟩=some a9∧w'.cell? ⟨g,10,none⟩=some a10∧w'.cell? ⟨g,11,none⟩=some a11∧w'.cell? ⟨g,12,none⟩=some a12∧w'.cell? ⟨g,13,none⟩=some a13∧w'.cell? ⟨g,14,none⟩=some a14∧w'.cell? ⟨g,15,none⟩=some a15∧w'.cell? ⟨g,16,none⟩=some a16∧w'.cell? ⟨g,17,none⟩=some a17∧w'.cell? ⟨g,18,none⟩=some a18∧w'.cell? ⟨g,19,none⟩=some a19∧w'.cell? ⟨g,20,none⟩=some a20:=by
 have k:=h.ext hx;exact⟨k.cell 0,k.cell 1,k.cell 2,k.cell 3,k.cell 4,k.cell 5,k.cell 6,k.cell 7,k.cell 8,k.cell 9,k.cell 10,k.cell 11,k.cell 12,k.cell 13,k.cell 14,k.cell 15,k.cell 16,k.cell 17,k.cell 18,k.cell 19,k.cell 20⟩
theorem j9(key:Bs)(stamp:Int)(w:World)(F:Array Value):Hid (Blk ((w.alloc (.cells F 30)).alloc (.cells (fj key stamp) 30)) w.heap.size 30 F)∧Hid (Blk ((w.alloc (.cells F 30)).alloc (.cells (fj key stamp) 30)) (w.heap.size+1) 30 (fj key stamp))∧Hid (Ext w ((w.alloc (.cells F 30)).alloc (.cells (fj key stamp) 30))) :=
 ⟨(ID w _ F).alloc _,Mf _ _ _ _ (by simp),(Id _ _).alloc _⟩
end
end
section
open Go.RowKit
open Go.Maps (Keyed)
attribute [local go_sem] size_bs toList_bs
def dK(k:Int):Option KSp:=(iX.find? fun p=>((p.1:Nat):Int) == k).map (·.2)
def gz(f:FactV)(ps:List Fr)(os:List OptV)(sp:KSp):Nat->Int
 |0=>eL f.ins
 |1=>dQ f sp.code
 |2=>Ci f
 |3=>eL f.tgt
 |10=>fN ps f.qty
 |11=>lj f.ins os
 |12=>rK f
 |k=>match (sp.nums.getD []).lookup k with
  |some pq=>bU (hZ f k) pq.1 pq.2
  |none=>0
def eO(f:FactV)(ps:List Fr)(os:List OptV)(sp:KSp)(k:Nat):Int:=if sp.bits.getD k false=true then gz f ps os sp k else if dN f ps.length os.length k=true then 0 else 1
def cr(f:FactV)(ps:List Fr)(os:List OptV):Int :=
 if isName f.key=false then 23 else if f.stamp<0 then 2
 else if f.canc=true then(if fG f.day f.kind f.choice f.ins f.other f.cur f.tgt f.qty f.amt f.fee f.price.num f.price.den f.ratio.num f.ratio.den f.share.num f.share.den ps.length os.length=true then 0 else 1)
 else if f.day < -25567∨84005<f.day then 13
 else match dK f.kind with
  |none=>7
  |some sp=>dg (eO f ps os sp) 13
structure FactSm (f:FactV):Prop where
 key:f.key.length<=9000
 ins:f.ins.length<=9000
 other:f.other.length<=9000
 cur:f.cur.length<=9000
 tgt:f.tgt.length<=9000
 qty:f.qty.length<=9000
 amt:f.amt.length<=9000
 fee:f.fee.length<=9000
 pn:f.price.num.length<=9000
 pd:f.price.den.length<=9000
 rn:f.ratio.num.length<=9000
 rd:f.ratio.den.length<=9000
 sn:f.share.num.length<=9000
 sd:f.share.den.length<=9000
structure FactAt (w:World) (f:FactV) (ps:List Fr) (os:List OptV) (pa oa:Option Addr) (pc:Nat):Prop where
 sm:FactSm f
 rp:eH w pa ps
 sp:∀p ∈ ps,p.num.length<=9000∧p.den.length<=9000
 np:ps.length<=100000
 cp:ps.length<=pc
 ro:nB w oa os
 so:∀o ∈ os,kX 9000 o
 no:os.length<=100000
theorem FactAt.ext{w:World}{f:FactV}{ps:List Fr}{os:List OptV}{pa oa:Option Addr}{pc:Nat}(h:FactAt w f ps os pa oa pc)(hx:Ext w w'):FactAt w' f ps os pa oa pc:=⟨h.sm,h.rp.ext hx,h.sp,h.np,h.cp,h.ro.ext hx,h.so,h.no⟩
def mb(sp:KSp):Bool:=sp.bits.length == 13 && (List.range 13).all fun k=>!(sp.bits.getD k false) || (k<4 || 9<k) || (match (sp.nums.getD []).lookup k with|some pq=>!pq.1 || !pq.2|none=>false)
theorem un:∀p ∈ iX,mb p.2=true:=by decide
theorem pf{k:Int}{sp:KSp}(h:dK k=some sp):∃n:Nat,(n:Int)=k∧(n,sp) ∈ iX:=by
 unfold dK at h
 cases e:iX.find? fun p=>((p.1:Nat):Int) == k with
 |none=>rw[e]at h;cases h
 |some p =>
  rw[e]at h
  cases h;exact⟨p.1,by simpa using List.find?_some e,Q4 e⟩
theorem uo{k:Int}(h:dK k=none):∀p ∈ iX,((p.1:Nat):Int)≠k:=by
 unfold dK at h;rw[Option.map_eq_none_iff,List.find?_eq_none]at h;intro p hp e;exact h p hp (by simpa using e)
theorem sJ:∀ {es:lK} {k:Nat} {pq:Bool × Bool},es.lookup k=some pq->(k,pq.1,pq.2) ∈ es
 |[],_,_,h=>by cases h
 |(x,y) :: r,k,pq,h=>by
  rw[List.lookup_cons]at h
  cases e:k == x
  ·rw[e]at h;exact .tail _ (sJ h)
  ·rw[e]at h
   cases h;have:k=x:=by simpa using e
   subst this
   exact .head _
section
variable {f:FactV} {ps:List Fr} {os:List OptV} {pa oa:Option Addr} {pc oc:Nat} {sp:KSp} {w:World}
abbrev zE(f:FactV)(P O:Value)(cs:Array Value)(k:Nat)(r:Int)(w:World):Prop:=Calls prog 64 #[aC f P O,.agg cs,.int .i64 (k:Nat)] w fun e w'=>e = .returned (.int .i64 r)∧Ext w w'
theorem zF(hA:FactAt w f ps os pa oa pc)(hE:Env w)(hok:mb sp=true){v:Value}(hS:jR w sp v){cs:Array Value}(hv:v = .agg cs){k:Nat}(hk:k<13)(hb:sp.bits.getD k false=true) :
  zE f (ae pa ps.length pc) (ae oa os.length oc) cs k (gz f ps os sp k) w:=by
 obtain⟨num,hkv,hnum⟩:=hS;rw[hv]at hkv
 cases hkv;unfold mb at hok;rw[MJ,Np,Nm]at hok;obtain⟨h13,hall⟩:=hok;have h4:=hall k (RU.2 hk);rw[hb]at h4;simp only[QP,Bool.false_or,Qo,MW]at h4;obtain⟨b0,b1,b2,b3,b4,b5,b6,b7,b8,b9,b10,b11,b12,hbits⟩:=xO h13;rw[hbits];have hm:=hA.sm
 have num_case:¬ (k<4∨9<k)->∃(b:Nat) (es:lK) (pq:Bool × Bool),num = .map (some b)∧CM w b es∧(k,pq.1,pq.2) ∈ es∧(pq.1=false∨pq.2=false)∧(sp.nums.getD []).lookup k=some pq:=by
  intro hn;rcases h4 with h4|h4
  ·exact absurd h4 hn
  ·cases hl:(sp.nums.getD []).lookup k with
   |none=>rw[hl]at h4;cases h4
   |some pq =>
    rw[hl]at h4;dsimp only at h4
    cases hq:sp.nums with
    |none=>rw[hq]at hl;cases hl
    |some es =>
     rw[hq]at hnum hl;obtain⟨b,h5,h6⟩:=hnum;exact⟨b,es,pq,h5,h6,sJ hl,by simpa using h4,rfl⟩
 obtain rfl|rfl|rfl|rfl|rfl|rfl|rfl|rfl|rfl|rfl|rfl|rfl|rfl:k=0∨k=1∨k=2∨k=3∨k=4∨k=5∨k=6∨k=7∨k=8∨k=9∨k=10∨k=11∨k=12:=by omega
 ·exact Cj f _ _ _ w hm.ins
 ·exact Cm f _ _ sp.word sp.cl b0 b1 b2 b3 b4 b5 b6 b7 b8 b9 b10 b11 b12 num sp.code w hm.other
 ·exact Cl f _ _ _ w hm.cur
 ·exact Ck f _ _ _ w hm.tgt
 ·obtain⟨b,es,pq,rfl,h6,h7,h8,h9⟩:=num_case (by omega);have:=oo f (ae pa ps.length pc) (ae oa os.length oc) sp.word sp.cl b0 b1 b2 b3 b4 b5 b6 b7 b8 b9 b10 b11 b12 sp.code w 4 (by decide) (by decide) ⟨f.qty,[]⟩ (En f) b es pq.1 pq.2 h6 h7 h8 hm.qty (by simp) hE
  have e9:gz f ps os sp 4=bU (hZ f 4) pq.1 pq.2:=by
   show(match (sp.nums.getD []).lookup 4 with|some pq=>bU (hZ f 4) pq.1 pq.2|none=>0)=_;rw[h9]
  rw[e9];exact this
 ·obtain⟨b,es,pq,rfl,h6,h7,h8,h9⟩:=num_case (by omega);have:=oo f (ae pa ps.length pc) (ae oa os.length oc) sp.word sp.cl b0 b1 b2 b3 b4 b5 b6 b7 b8 b9 b10 b11 b12 sp.code w 5 (by decide) (by decide) ⟨f.amt,[]⟩ (Eo f) b es pq.1 pq.2 h6 h7 h8 hm.amt (by simp) hE
  have e9:gz f ps os sp 5=bU (hZ f 5) pq.1 pq.2:=by
   show(match (sp.nums.getD []).lookup 5 with|some pq=>bU (hZ f 5) pq.1 pq.2|none=>0)=_;rw[h9]
  rw[e9];exact this
 ·obtain⟨b,es,pq,rfl,h6,h7,h8,h9⟩:=num_case (by omega);have:=oo f (ae pa ps.length pc) (ae oa os.length oc) sp.word sp.cl b0 b1 b2 b3 b4 b5 b6 b7 b8 b9 b10 b11 b12 sp.code w 6 (by decide) (by decide) ⟨f.fee,[]⟩ (Ep f) b es pq.1 pq.2 h6 h7 h8 hm.fee (by simp) hE
  have e9:gz f ps os sp 6=bU (hZ f 6) pq.1 pq.2:=by
   show(match (sp.nums.getD []).lookup 6 with|some pq=>bU (hZ f 6) pq.1 pq.2|none=>0)=_;rw[h9]
  rw[e9];exact this
 ·obtain⟨b,es,pq,rfl,h6,h7,h8,h9⟩:=num_case (by omega);have:=oo f (ae pa ps.length pc) (ae oa os.length oc) sp.word sp.cl b0 b1 b2 b3 b4 b5 b6 b7 b8 b9 b10 b11 b12 sp.code w 7 (by decide) (by decide) f.price (Er f) b es pq.1 pq.2 h6 h7 h8 hm.pn hm.pd hE
  have e9:gz f ps os sp 7=bU (hZ f 7) pq.1 pq.2:=by
   show(match (sp.nums.getD []).lookup 7 with|some pq=>bU (hZ f 7) pq.1 pq.2|none=>0)=_;rw[h9]
  rw[e9];exact this
 ·obtain⟨b,es,pq,rfl,h6,h7,h8,h9⟩:=num_case (by omega);have:=oo f (ae pa ps.length pc) (ae oa os.length oc) sp.word sp.cl b0 b1 b2 b3 b4 b5 b6 b7 b8 b9 b10 b11 b12 sp.code w 8 (by decide) (by decide) f.ratio (Es f) b es pq.1 pq.2 h6 h7 h8 hm.rn hm.rd hE
  have e9:gz f ps os sp 8=bU (hZ f 8) pq.1 pq.2:=by
   show(match (sp.nums.getD []).lookup 8 with|some pq=>bU (hZ f 8) pq.1 pq.2|none=>0)=_;rw[h9]
  rw[e9];exact this
 ·obtain⟨b,es,pq,rfl,h6,h7,h8,h9⟩:=num_case (by omega);have:=oo f (ae pa ps.length pc) (ae oa os.length oc) sp.word sp.cl b0 b1 b2 b3 b4 b5 b6 b7 b8 b9 b10 b11 b12 sp.code w 9 (by decide) (by decide) f.share (Et f) b es pq.1 pq.2 h6 h7 h8 hm.sn hm.sd hE
  have e9:gz f ps os sp 9=bU (hZ f 9) pq.1 pq.2:=by
   show(match (sp.nums.getD []).lookup 9 with|some pq=>bU (hZ f 9) pq.1 pq.2|none=>0)=_;rw[h9]
  rw[e9];exact this
 ·exact zC f _ _ _ w _ (fun W hx=>Fc f _ ps pa pc W (hA.rp.ext hx) hA.sp hA.np hA.cp hm.qty (hE.ext hx))
 ·exact zD f _ _ _ w _ (fun W hx=>zx f _ os oa oc W (hA.ro.ext hx) hA.so hA.no (hE.ext hx))
 ·exact zB f _ _ _ w
theorem vS(f:FactV)(pa oa:Option Addr)(pn pc on oc:Nat)(w:World){k:Nat}(hk:k<13) :
  Calls prog 65 #[aC f (ae pa pn pc) (ae oa on oc),.int .i64 (k:Nat)] w fun e w'=>e = .returned (.bool (dN f pn on k))∧Ext w w':=by
 rcases(by omega:((k=0∨k=1∨k=2∨k=3)∨k=10∨k=11∨k=12)∨k=4∨k=5∨k=6∨k=7∨k=8∨k=9) with h|rfl|rfl|rfl|rfl|rfl|rfl
 ·exact Cf f pa oa pn pc on oc w h
 ·exact jl (s2:=[]) f pa oa pn pc on oc w (by decide) (En f) (by simp[dN])
 ·exact jl (s2:=[]) f pa oa pn pc on oc w (by decide) (Eo f) (by simp[dN])
 ·exact jl (s2:=[]) f pa oa pn pc on oc w (by decide) (Ep f) (by simp[dN])
 ·exact jl f pa oa pn pc on oc w (by decide) (Er f) rfl
 ·exact jl f pa oa pn pc on oc w (by decide) (Es f) rfl
 ·exact jl f pa oa pn pc on oc w (by decide) (Et f) rfl
end
end
section
section
variable {α:Type} {lt:α->α->Bool}
structure WkOn (lt:α->α->Bool) (V:α->Prop):Prop where
 asy:∀a b,V a->V b->lt a b=true->lt b a=false
 neg:∀a b c,V a->V b->V c->lt a b=false->lt b c=false->lt a c=false
abbrev aJ(lt:α->α->Bool)(l:List α):Prop:=l.Pairwise (fun a b=>lt b a=false)
def fz(lt:α->α->Bool)(z:α)(l:List α):List α:=l.filter (fun y=>!lt y z && !lt z y)
def aw(lt:α->α->Bool)(l m:List α):Prop:=l.Perm m∧∀z ∈ l,fz lt z l=fz lt z m
theorem WkOn.irr{V:α->Prop}(h:WkOn lt V){a:α}(ha:V a):lt a a=false:=by
 cases e:lt a a with
 |false=>rfl
 |true=>have:=h.asy a a ha ha e;rw[e]at this;cases this
theorem WkOn.lt_le{V:α->Prop}(h:WkOn lt V){a b c:α}(ha:V a)(hb:V b)(hc:V c)(h1:lt a b=true)(h2:lt c b=false):lt a c=true:=by
 cases e:lt a c with
 |true=>rfl
 |false=>have:=h.neg a c b ha hc hb e h2;rw[h1]at this;cases this
theorem WkOn.le_lt{V:α->Prop}(h:WkOn lt V){a b c:α}(ha:V a)(hb:V b)(hc:V c)(h1:lt b a=false)(h2:lt b c=true):lt a c=true:=by
 cases e:lt a c with
 |true=>rfl
 |false=>have:=h.neg b a c hb ha hc h1 e;rw[h2]at this;cases this
theorem ou(z:α)(l m:List α):fz lt z (l++m)=fz lt z l++fz lt z m:=PM ..
theorem rL{z y:α}{l:List α}:y ∈ fz lt z l↔y ∈ l∧lt y z=false∧lt z y=false:=by
 unfold fz;rw[Og];simp
theorem aw.refl(l:List α):aw lt l l:=⟨.refl _,fun _ _=>rfl⟩
theorem aw.trans{a b c:List α}(h:aw lt a b)(k:aw lt b c):aw lt a c:=⟨h.1.trans k.1,fun z hz=>(h.2 z hz).trans (k.2 z (h.1.mem_iff.1 hz))⟩
theorem wQ{V:α->Prop}(h:WkOn lt V){l m:List α}(hv:∀x ∈ l,V x)(hm:∀x ∈ m,V x)(hp:l.Perm m)(hc:∀z ∈ l,fz lt z l=fz lt z m)(z:α)(hz:V z):fz lt z l=fz lt z m:=by
 by_cases e:∃y ∈ l,lt y z=false∧lt z y=false
 ·obtain⟨y,hy,h1,h2⟩:=e
  have key:∀k:List α,(∀x ∈ k,V x)->fz lt z k=fz lt y k:=by
   intro k hk;unfold fz;apply List.filter_congr;intro x hx;have vx:=hk x hx;have vy:=hv y hy;rw[QV];simp only[MJ,QE];constructor
   ·rintro⟨h3,h4⟩;exact⟨h.neg x z y vx hz vy h3 h2,h.neg y z x vy hz vx h1 h4⟩
   ·rintro⟨h3,h4⟩;exact⟨h.neg x y z vx vy hz h3 h1,h.neg z y x hz vy vx h2 h4⟩
  rw[key l hv,key m hm];exact hc y hy
 ·have h1:fz lt z l=[]:=by
   rw[Qu];intro y hy;rw[rL]at hy;exact e ⟨y,hy⟩
  have h2:fz lt z m=[]:=by
   rw[Qu];intro y hy;rw[rL]at hy;exact e ⟨y,hp.mem_iff.2 hy.1,hy.2⟩
  rw[h1,h2]
theorem aw.app{V:α->Prop}(h:WkOn lt V){a b c d:List α}(hv:∀x ∈ a++b,V x)(h1:aw lt a c)(h2:aw lt b d):aw lt (a++b) (c++d):=by
 refine⟨h1.1.append h2.1,fun z hz=>?_⟩;have va:∀x ∈ a,V x:=fun x hx=>hv x (Ph _ hx)
 have vb:∀x ∈ b,V x:=fun x hx=>hv x (Nr _ hx)
 rw[ou,ou,wQ h va (fun x hx=>va x (h1.1.mem_iff.2 hx)) h1.1 h1.2 z (hv z hz),wQ h vb (fun x hx=>vb x (h2.1.mem_iff.2 hx)) h2.1 h2.2 z (hv z hz)]
theorem aw.swap{V:α->Prop}(h:WkOn lt V){p q:List α}(hv:∀x ∈ p++q,V x)(hl:∀x ∈ p,∀y ∈ q,lt y x=true):aw lt (p++q) (q++p):=by
 refine⟨List.perm_append_comm,fun z hz=>?_⟩;rw[ou,ou];by_cases e:fz lt z p=[]
 ·rw[e];simp
 ·obtain⟨x,hx⟩:=List.exists_mem_of_ne_nil _ e
  have e2:fz lt z q=[]:=by
   rw[Qu];intro y hy;rw[rL]at hx hy;have:=hl x hx.1 y hy.1;have h3:=h.neg y z x (hv y (Nr _ hy.1)) (hv z hz) (hv x (Ph _ hx.1)) hy.2.1 hx.2.2;rw[this]at h3;cases h3
  rw[e2];simp
theorem Fe{V:α->Prop}(h:WkOn lt V):∀l m:List α,(∀x ∈ l,V x)->aJ lt l->aJ lt m->aw lt l m->l=m:=by
 intro l;induction l with
 |nil=>intro m _ _ _ ha;exact(ha.1.nil_eq)
 |cons x l ih =>
  intro m hv hl hm ha
  cases m with
  |nil=>exact absurd ha.1 (by simp)
  |cons y m =>
   have vx:=hv x (by simp);have hy:y ∈ x :: l:=ha.1.mem_iff.2 (by simp);have hx:x ∈ y :: m:=ha.1.mem_iff.1 (by simp);have vy:=hv y hy
   have h1:lt x y=false:=by
    rcases MS.1 hx with rfl|hx
    ·exact h.irr vx
    ·exact(PB.1 hm).1 x hx
   have h2:lt y x=false:=by
    rcases MS.1 hy with rfl|hy
    ·exact h.irr vy
    ·exact(PB.1 hl).1 y hy
   have e:=ha.2 x (by simp);have e1:fz lt x (x :: l)=x :: fz lt x l:=by unfold fz;rw[List.filter_cons_of_pos (by simp[h.irr vx])]
   have e2:fz lt x (y :: m)=y :: fz lt x m:=by unfold fz;rw[List.filter_cons_of_pos (by simp[h1,h2])]
   rw[e1,e2]at e;injection e with e3 e4
   subst e3;have hp:=(List.perm_cons x).1 ha.1;refine M6 (x :: ·) (ih m (fun z hz=>hv z (by simp[hz])) (PB.1 hl).2 (PB.1 hm).2 ⟨hp,fun z hz=>?_⟩);have:=ha.2 z (by simp[hz]);unfold fz at this ⊢
   rw[St,St]at this
   split at this
   ·injection this
   ·exact this
def rM(lt:α->α->Bool)(x:α):List α->List α
 |[]=>[x]
 |y :: r=>if lt x y then y :: rM lt x r else x :: y :: r
def fm(lt:α->α->Bool)(l:List α):List α:=(l.foldl (fun a x=>rM lt x a) []).reverse
theorem rN(lt:α->α->Bool)(x:α):∀r:List α,∃p q,r=p++q∧rM lt x r=p++x :: q∧(∀y ∈ p,lt x y=true)∧(∀y ∈ q.head?,lt x y=false)
 |[]=>⟨[],[],rfl,rfl,by simp,by simp⟩
 |y :: r=>by
  unfold rM
  cases e:lt x y with
  |true =>
   obtain⟨p,q,h1,h2,h3,h4⟩:=rN lt x r;exact⟨y :: p,q,by rw[h1];rfl,by simp[h2],by simpa[e] using h3,h4⟩
  |false=>exact⟨[],y :: r,rfl,by simp,by simp,by simpa using e⟩
theorem rO{V:α->Prop}(h:WkOn lt V){a p q:List α}{x:α}(hv:∀y ∈ a++[x],V y)(hs:aJ lt a)(he:a=p++q)(hq:∀y ∈ q,lt x y=true)(hp:∀y ∈ p.getLast?,lt x y=false):aJ lt (p++x :: q)∧aw lt (a++[x]) (p++x :: q):=by
 subst he;have vx:V x:=hv x (by simp);have vp:∀y ∈ p,V y:=fun y hy=>hv y (by simp[hy])
 have vq:∀y ∈ q,V y:=fun y hy=>hv y (by simp[hy])
 obtain⟨s1,s2,s3⟩:=Ox.1 hs
 have hp2:∀y ∈ p,lt x y=false:=by
  intro y hy;rcases PP p with rfl | ⟨p',z,rfl⟩
  ·simp at hy
  ·simp only[RJ]at *;have hz:lt x z=false:=hp z (by simp);rcases MN.1 hy with h1|h1
   ·have:=(Ox.1 s1).2.2 y h1 z (by simp);exact h.neg x z y vx (vp z (by simp)) (vp y hy) hz this
   ·simp at h1;rw[h1];exact hz
 refine⟨Ox.2 ⟨s1,PB.2 ⟨fun y hy=>h.asy x y vx (vq y hy) (hq y hy),s2⟩,?_⟩,?_⟩
 ·intro a ha b hb;rcases MS.1 hb with rfl|hb
  ·exact hp2 a ha
  ·exact s3 a ha b hb
 ·rw[Mz];have:=aw.swap h (p:=q) (q:=[x]) (by intro y hy;rcases MN.1 hy with h1|h1;exact vq y h1;simp at h1;rw[h1];exact vx) (by intro y hy z hz;simp at hz;rw[hz];exact hq y hy);exact aw.app h (by intro y hy;exact hv y (by simpa[or_assoc] using hy)) (aw.refl p) this
theorem zG(l:List α)(x:α):∃p q,fm lt l=p++q∧fm lt (l++[x])=p++x :: q∧(∀y ∈ q,lt x y=true)∧(∀y ∈ p.getLast?,lt x y=false):=by
 unfold fm;rw[PU];obtain⟨p,q,h1,h2,h3,h4⟩:=rN lt x (l.foldl (fun a x=>rM lt x a) []);refine⟨q.reverse,p.reverse,by rw[h1,List.reverse_append],by simp[h2],by simpa using h3,by simpa using h4⟩
theorem Cn{V:α->Prop}(h:WkOn lt V):∀n (l:List α),l.length=n->(∀x ∈ l,V x)->aJ lt (fm lt l)∧aw lt l (fm lt l):=by
 intro n;induction n with
 |zero=>intro l hl _;rw[My.1 hl];exact⟨Ro,aw.refl _⟩
 |succ n ih =>
  intro l hl hv;rcases PP l with rfl | ⟨l',x,rfl⟩
  ·simp at hl
  ·simp only[RJ]at *;obtain⟨i1,i2⟩:=ih l' (by simpa using hl) (fun y hy=>hv y (by simp[hy]));obtain⟨p,q,h1,h2,h3,h4⟩:=zG (lt:=lt) l' x
   have hv2:∀y ∈ fm lt l'++[x],V y:=by
    intro y hy;rcases MN.1 hy with h|h
    ·exact hv y (Ph _ (i2.1.mem_iff.2 h))
    ·exact hv y (Nr _ h)
   obtain⟨k1,k2⟩:=rO h hv2 i1 h1 h3 h4;rw[h2];exact⟨k1,(aw.app h hv i2 (aw.refl [x])).trans k2⟩
theorem Ii{V:α->Prop}(h:WkOn lt V){l m:List α}(hv:∀x ∈ l,V x)(hs:aJ lt m)(ha:aw lt l m):m=fm lt l:=by
 obtain⟨h1,h2⟩:=Cn h l.length l rfl hv;refine(Fe h _ _ (fun x hx=>hv x (h2.1.mem_iff.2 hx)) h1 hs ⟨h2.1.symm.trans ha.1,fun z hz=>?_⟩).symm;rw[←h2.2 z (h2.1.mem_iff.2 hz)];exact ha.2 z (h2.1.mem_iff.2 hz)
theorem mL(l:List α):l.Perm (fm lt l):=by
 have key:∀(l a:List α),(a++l).Perm (l.foldl (fun a x=>rM lt x a) a):=by
  intro l;induction l with
  |nil=>intro a;simp
  |cons x r ih =>
   intro a;obtain⟨p,q,h1,h2,_,_⟩:=rN lt x a;rw[QY,h2];refine List.Perm.trans ?_ (ih _);rw[h1];simp only[Mz,MZ];refine List.Perm.append_left p ?_;exact List.perm_middle
 have:=key l [];unfold fm;exact(by simpa using this:l.Perm _).trans (List.reverse_perm _).symm
theorem Ff{V:α->Prop}(h:WkOn lt V){a1 a2 b1 b2 c d:List α}(hv:∀x ∈ a1++a2++(b1++b2),V x)(ha:aJ lt (a1++a2))(hb:aJ lt (b1++b2))(h1:∀x ∈ a1.getLast?,∀y ∈ b2.head?,lt y x=false)(h2:∀x ∈ a2.head?,∀y ∈ b1.getLast?,lt y x=true)
  (hc:aJ lt c) (hca:aw lt (a1++b1) c) (hd:aJ lt d) (hda:aw lt (a2++b2) d):aJ lt (c++d)∧aw lt (a1++a2++(b1++b2)) (c++d):=by
 obtain⟨s1,s2,s3⟩:=Ox.1 ha;obtain⟨t1,t2,t3⟩:=Ox.1 hb;have v1:∀x ∈ a1,V x:=fun x hx=>hv x (by simp[hx])
 have v2:∀x ∈ a2,V x:=fun x hx=>hv x (by simp[hx])
 have w1:∀x ∈ b1,V x:=fun x hx=>hv x (by simp[hx])
 have w2:∀x ∈ b2,V x:=fun x hx=>hv x (by simp[hx])
 have last:∀ {l:List α} {x:α},aJ lt l->(∀y ∈ l,V y)->x ∈ l->∃z,l.getLast? = some z∧z ∈ l∧lt z x=false:=by
  intro l x hs hvl hx;rcases PP l with rfl | ⟨l',z,rfl⟩
  ·simp at hx
  ·simp only[RJ]at *;refine⟨z,by simp,by simp,?_⟩;rcases MN.1 hx with h3|h3
   ·exact(Ox.1 hs).2.2 x h3 z (by simp)
   ·simp at h3;rw[h3];exact h.irr (hvl z (by simp))
 have head:∀ {l:List α} {x:α},aJ lt l->(∀y ∈ l,V y)->x ∈ l->∃z,l.head? = some z∧z ∈ l∧lt x z=false:=by
  intro l x hs hvl hx
  cases l with
  |nil=>simp at hx
  |cons z r =>
   refine⟨z,rfl,by simp,?_⟩;rcases MS.1 hx with rfl|h3
   ·exact h.irr (hvl x (by simp))
   ·exact(PB.1 hs).1 x h3
 have g1:∀x ∈ a1,∀y ∈ b2,lt y x=false:=by
  intro x hx y hy;obtain⟨z,e1,m1,l1⟩:=last s1 v1 hx;obtain⟨u,e2,m2,l2⟩:=head t2 w2 hy;have:=h1 z (by rw[e1];exact rfl) u (by rw[e2];exact rfl);exact h.neg y u x (w2 y hy) (w2 u m2) (v1 x hx) l2 (h.neg u z x (w2 u m2) (v1 z m1) (v1 x hx) this l1)
 have g2:∀x ∈ a2,∀y ∈ b1,lt y x=true:=by
  intro x hx y hy;obtain⟨z,e1,m1,l1⟩:=head s2 v2 hx;obtain⟨u,e2,m2,l2⟩:=last t1 w1 hy;have:=h2 z (by rw[e1];exact rfl) u (by rw[e2];exact rfl);exact h.le_lt (w1 y hy) (w1 u m2) (v2 x hx) l2 (h.lt_le (w1 u m2) (v2 z m1) (v2 x hx) this l1)
 refine⟨Ox.2 ⟨hc,hd,?_⟩,?_⟩
 ·intro x hx y hy;rcases MN.1 (hca.1.mem_iff.2 hx) with hx|hx <;> rcases MN.1 (hda.1.mem_iff.2 hy) with hy|hy
  ·exact s3 x hx y hy
  ·exact g1 x hx y hy
  ·exact h.asy x y (w1 x hx) (v2 y hy) (g2 y hy x hx)
  ·exact t3 x hx y hy
 ·have e1:aw lt (a1++a2++(b1++b2)) (a1++b1++(a2++b2)):=by
   have:=aw.swap h (p:=a2) (q:=b1) (by intro y hy;rcases MN.1 hy with h3|h3;exact v2 y h3;exact w1 y h3) g2;have:=aw.app h (a:=a2++b1) (b:=b2) (by intro y hy;exact hv y (by simp only[MN]at hy ⊢;grind)) this (aw.refl b2)
   have:=aw.app h (a:=a1) (b:=a2++b1++b2) (by intro y hy;exact hv y (by simp only[MN]at hy ⊢;grind)) (aw.refl a1) this
   simpa[Mz] using this
  refine e1.trans (aw.app h (by intro y hy;exact hv y (by simp only[MN]at hy ⊢;grind)) hca hda)
theorem Ij(P Q:List α)(x y:α):((P++y :: x :: Q).set P.length x).set (P.length+1) y=P++x :: y :: Q:=by
 rw[Nx _ _ (Mn _),Pq,Nx _ _ (by omega),show P.length+1-P.length=1 by omega];rfl
theorem Ik(X M Y:List α)(x y:α):((X++x :: M++y :: Y).set X.length y).set (X.length+1+M.length) x=X++y :: M++x :: Y:=by
 have h1:(X++x :: M++y :: Y).set X.length y=X++y :: M++y :: Y:=by
  rw[Mz,Nx _ _ (Mn _),Pq,Mz];rfl
 rw[h1,Nx _ _ (by simp;omega),show X.length+1+M.length-(X++y :: M).length=0 by simp;omega];rfl
end
end
section
open Go.RowKit
attribute [local go_sem] size_bs toList_bs
def iZ(ls:List LotV)(k:Nat):List LotV:=List.ofFn (fun m:Fin ls.length=>if m.val<k∨ls.length-k<=m.val then ls[ls.length-1-m.val]'(by have:=m.isLt;omega) else ls[m.val])
theorem ia(ls:List LotV)(k:Nat):(iZ ls k).length=ls.length:=by simp[iZ]
theorem kn(ls:List LotV)(k m:Nat)(h:m<ls.length)(h':m<(iZ ls k).length):(iZ ls k)[m]'h'=if m<k∨ls.length-k<=m then ls[ls.length-1-m]'(by omega) else ls[m]:=by
 simp[iZ]
theorem zH(ls:List LotV):iZ ls 0=ls:=by
 apply Oi (ia _ _);intro m h1 h2;rw[kn ls 0 m h2 h1,Mj (by omega)]
theorem zI(ls:List LotV)(k:Nat)(h:ls.length<=2*k+1):iZ ls k=ls.reverse:=by
 apply Oi (by rw[ia];simp);intro m h1 h2;rw[ia]at h1;rw[kn ls k m h1,List.getElem_reverse];split
 ·rfl
 ·congr 1;omega
theorem zJ(ls:List LotV)(k:Nat)(h:2*k+1<ls.length) :
  ((iZ ls k).set k (ls[ls.length-1-k]'(by omega))).set (ls.length-1-k) (ls[k]'(by omega))=iZ ls (k+1):=by
 apply Oi (by simp[ia]);intro m h1 h2;rw[ia]at h2;rw[kn ls (k+1) m h2,QO,QO];split
 ·rename_i e
  rw[Mq (by omega)];congr 1;omega
 ·split
  ·rename_i e1 e2
   rw[Mq (by omega)];congr 1;omega
  ·rename_i e1 e2
   rw[kn ls k m h2];by_cases hc:m<k∨ls.length-k<=m
   ·rw[Mq hc,Mq (by omega)]
   ·rw[Mj hc,Mj (by omega)]
theorem Co(ls:List LotV)(k:Nat)(x:LotV)(h:k<ls.length):bK (ls.set k x)=lsplice (bK ls) (k*7) (lotCells x):=by
 induction ls generalizing k with
 |nil=>simp at h
 |cons z r ih =>
  cases k with
  |zero =>
   simp only[bK,List.set_cons_zero,OD,lsplice,O6,PJ,ML,MV];rw[aM,←aM z,List.drop_left]
  |succ k =>
   have:=ih k (by simpa using h);simp only[bK,PN,OD,lsplice]at this ⊢
   rw[this,show(k+1)*7=(lotCells z).length+k*7 by rw[aM];omega,R6,Pg,R7];simp only[Mz]
theorem uq{cur xs:List Value}{n:Nat}(vs:List Value)(h:cur.take n=xs)(ho:o+vs.length<=n)(hn:n<=cur.length):(lsplice cur o vs).take n=lsplice xs o vs:=by
 subst h;unfold lsplice;have h1:(cur.take n).take o=cur.take o:=by rw[Rh,Ot (by omega)]
 have h2:(cur.take o).length=o:=by rw[Mu];omega
 rw[h1,List.take_append,Mv (by rw[Mp,h2];omega),Mp,h2,List.drop_take,show n-(o+vs.length)=n-(o+vs.length) from rfl]
theorem aE.drew{w:World}{ls:List LotV}(h:aE w g cap ls):aE w.drew g cap ls:=by
 obtain⟨cur,h⟩:=h;exact⟨cur,h.drew⟩
theorem aE.setl{w:World}{ls:List LotV}(h:aE w g cap ls){k:Nat}(hk:k<ls.length)(x:LotV):aE (w.setCells g (k*7) (lotCells x)) g cap (ls.set k x):=by
 obtain⟨cur,h⟩:=h;have hle:k*7+(lotCells x).length<=ls.length*7:=by rw[aM];omega
 have hc:ls.length*7<=cap*7:=MO _ h.le;refine⟨_,h.put (lotCells x) (k*7) (by omega) (n':=(ls.set k x).length) (xs':=bK (ls.set k x)) (by rw[MM];exact h.le) (pA _) ?_⟩;rw[MM,Co ls k x hk];exact uq _ h.take hle (by rw[h.full];exact hc)
theorem Cp(ls:List LotV)(g cap:Nat)(w:World)(hr:aE w g cap ls)(hn:ls.length<=1000000) :
  Calls prog 153 #[.slice (some ⟨g,0,none⟩) ls.length cap] w fun e w'=>e = .returned (.tuple #[])∧aE w' g cap ls.reverse∧Only g w w':=by
 have HR0:=qh hr;clear hr;go_enter func153,ntmps153;go_wp2_with fail;go_loopw [2,3] (fun i j wr=>∃k:Nat,k<=ls.length∧i = .int .i64 k∧j = .int .i64 ((ls.length:Int)-1-k)∧aE wr g cap (iZ ls k)∧Only g w wr) (fun i _ _=>ls.length-(intOf i).toNat)
 case atStart=>exact⟨0,by omega,rfl,by go_num,by rw[zH];exact HR0.out,Mh _ _⟩
 case round =>
  clear HR0;obtain⟨k,hk,rfl,rfl,hr,ho⟩:=hrel;have HR:=qh hr;have HO:=qh ho;clear hr ho;by_cases hlt:2*k+1<ls.length
  ·have hkl:k<(iZ ls k).length:=by rw[ia];omega
   have hjl:ls.length-1-k<(iZ ls k).length:=by rw[ia];omega
   obtain⟨b,o,e1,_,c0,c1,c2,c3,c4,c5,c6⟩:=HR.out.reads.at_ hkl;simp only[On,PS,Qx]at e1;obtain⟨rfl,rfl⟩:=e1;obtain⟨b,o,e1,_,d0,d1,d2,d3,d4,d5,d6⟩:=HR.out.reads.at_ hjl;simp only[On,PS,Qx]at e1;obtain⟨rfl,rfl⟩:=e1;simp only[MV]at c0 c1 c2 c3 c4 c5 c6 d0 d1 d2 d3 d4 d5 d6;obtain⟨j,hj⟩:∃j,ls.length-1-k=j:=⟨_,rfl⟩;have hji:(ls.length:Int)-1-(k:Int)=(j:Int):=by omega
   have hst:=zJ ls k hlt;simp only[hj]at d0 d1 d2 d3 d4 d5 d6 hjl hst;rw[hji];have hlt':(k:Int)<(j:Int):=by omega
   have hjn:(j:Int)<(ls.length:Int):=by omega
   have hkn:(k:Int)<(ls.length:Int):=by omega
   have hk0:(0:Int)<=(k:Int):=by omega
   have hj0:(0:Int)<=(j:Int):=by omega
   have hfr:=fun m=>HR.out.frozen m
   have hS:=qh hst;generalize hxk:(iZ ls k)[k]=x at *;generalize hxj:(iZ ls k)[j]=y at *;obtain⟨x0,x1,x2,x3,x4,x5,x6⟩:=x;obtain⟨y0,y1,y2,y3,y4,y5,y6⟩:=y;simp only at c0 c1 c2 c3 c4 c5 c6 d0 d1 d2 d3 d4 d5 d6;clear hst;go_wp2_with fail;go_region
   have HRN:=(HR.out.setl hkl ⟨y0,y1,y2,y3,y4,y5,y6⟩).setl (k:=j) (by rw[MM];exact hjl) ⟨x0,x1,x2,x3,x4,x5,x6⟩;have HON:=Only.sets (lotCells ⟨x0,x1,x2,x3,x4,x5,x6⟩) (j*7) _ _ (Only.sets (lotCells ⟨y0,y1,y2,y3,y4,y5,y6⟩) (k*7) _ _ HO.out)
   have hxy:(⟨y0,y1,y2,y3,y4,y5,y6⟩:LotV)=ls[j]'(by omega)∧(⟨x0,x1,x2,x3,x4,x5,x6⟩:LotV)=ls[k]'(by omega):=by
    rw[←hxk,←hxj,kn ls k j (by omega),kn ls k k (by omega),Mj (by omega),Mj (by omega)];exact⟨rfl,rfl⟩
   have hS2:=hS.out;rw[←hxy.1,←hxy.2]at hS2;rw[hS2]at HRN;have HRN':=qh HRN.drew;have HON':=qh HON.drew;clear HR HO HRN HON c0 c1 c2 c3 c4 c5 c6 d0 d1 d2 d3 d4 d5 d6 hfr;go_wp2_with fail;refine⟨⟨k+1,by omega,M6 (Value.int .i64) (by omega),M6 (Value.int .i64) (by omega),HRN'.out,HON'.out⟩,?_⟩;have e1:(intOf (.int .i64 ((k:Int)+1))).toNat=k+1:=by show((k:Int)+1).toNat=_;omega
   have e2:(intOf (.int .i64 (k:Int))).toNat=k:=by show((k:Int)).toNat=_;omega
   rw[e1,e2];omega
  ·have hf:ls.length<=2*k+1:=by omega
   have hcmp:¬ ((k:Int)<(ls.length:Int)-1-(k:Int)):=by omega
   go_wp2_with fail;go_end0
   exact⟨rfl,by rw[←zI ls k hf];exact HR.out,HO.out⟩
theorem zK(ls:List LotV)(k:Nat)(x:LotV)(y:Bs)(h:ls[k]? = some x):bK (ls.set k { x with c:=y })=(bK ls).set (k*7+5) (.string (bs y)):=by
 induction ls generalizing k with
 |nil=>simp at h
 |cons z r ih =>
  cases k with
  |zero =>
   simp only[Mm,On]at h;subst h;simp[bK,lotCells]
  |succ k =>
   have:=ih k (by simpa using h);simp only[bK,PN,OD]at this ⊢
   rw[this,Nx _ _ (by rw[aM];omega),aM];congr 2
   omega
theorem aE.setc{w:World}{ls:List LotV}(h:aE w g cap ls){k:Nat}{x:LotV}(hk:ls[k]? = some x)(y:Bs):aE (w.setCell ⟨g,k*7+5,none⟩ (.string (bs y))) g cap (ls.set k { x with c:=y }):=by
 obtain⟨cur,h⟩:=h;have h1:=h.blk.set_ (k*7+5) (.string (bs y));rw[N6]at h1;refine⟨cur.set (k*7+5) (.string (bs y)),h1,by rw[pA],by simpa using h.le,h.big,by simpa using h.full,?_⟩;rw[MM,Rw,h.take,zK ls k x y hk]
end
end Go.Proofs.YtaegjkllenlfpaaGreatDoor
