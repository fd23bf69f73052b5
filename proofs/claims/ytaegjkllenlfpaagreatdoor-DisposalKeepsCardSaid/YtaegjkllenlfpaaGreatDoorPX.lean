/- The seat's texts, part PX. -/
import Derived.Test.YtaegjkllenlfpaaGreatDoorP21
import Derived.Test.YtaegjkllenlfpaaGreatDoorP12
import Derived.Test.YtaegjkllenlfpaaGreatDoorP9
import Derived.Test.YtaegjkllenlfpaaGreatDoorP16
import Derived.Test.YtaegjkllenlfpaaGreatDoorP22
import Derived.Test.YtaegjkllenlfpaaGreatDoorP31
import Derived.Test.YtaegjkllenlfpaaGreatDoorP32
import Derived.Test.YtaegjkllenlfpaaGreatDoorP33
import Derived.Test.YtaegjkllenlfpaaGreatDoorP34
import Derived.Deep.RegionHeld3
set_option maxRecDepth 100000
set_option maxHeartbeats 8000000
namespace Go.Proofs.YtaegjkllenlfpaaGreatDoor
section
open Go.RowKit Go.Shelf
attribute [local go_sem] size_bs toList_bs
abbrev zR:Value := .agg #[.slice none 0 0,.slice none 0 0,.slice none 0 0,.slice none 0 0]
theorem DH(A:Option Addr)(n c:Nat)(f:FactV)(P O:Value)(z:Int)(hz:z≠0)(kc kp:Nat)(cb pb:Array Value)(ec:∀args w,(callFunc kc args).run Tryz.prog w = .ok (.enter kc args) w)
  (w:World) (hC:∀W,Ext w W→Calls Tryz.prog kc cb W fun e w'=>(∃v,e = .returned (.tuple #[v,.int .i64 z]))∧Ext W w') :
  Calls Tryz.prog 58 #[.slice A n c,aL f P O,.func (.func kc) #[] cb,.func (.func kp) #[] pb] w fun e w'=>e = .returned (.tuple #[zR,.int .i64 z])∧Ext w w':=by
 have HC:=qh hC;have hz2:(z != 0)=true:=by rw[bne_iff_ne];exact hz
 clear hC;have HR0:Hid (Blk ((w.alloc (.cells (aj f P O) 30)).alloc (.cells #[.slice none 0 0,.slice none 0 0,.slice none 0 0,.slice none 0 0] 39)) (w.heap.size+1) rT #[.slice none 0 0,.slice none 0 0,.slice none 0 0,.slice none 0 0]):=qh (Blk.newAt _ _ _ _ (by simp));have HX0:Hid (Ext w ((w.alloc (.cells (aj f P O) 30)).alloc (.cells #[.slice none 0 0,.slice none 0 0,.slice none 0 0,.slice none 0 0] 39))):=qh ((Ext.new _ _).alloc _);obtain⟨fk,fst,fca,fda,fki,fin,fot,fcu,ftg,fq,fam,ffe,⟨fpn,fpd⟩,⟨frn,frd⟩,⟨fsn,fsd⟩,fch⟩:=f;go_enter Tryz.func58,Tryz.ntmps58;go_wp2_with fail;generalize (w.alloc (.cells #[.string (bs fk),.int .i64 fst,.bool fca,.int .i64 fda,.int .i64 fki,.string (bs fin),.string (bs fot),.string (bs fcu),.string (bs ftg),.string (bs fq),.string (bs fam),.string (bs ffe),.string (bs fpn),.string (bs fpd),.string (bs frn),.string (bs frd),.string (bs fsn),.string (bs fsd),P,O,.int .i64 fch] 30)).alloc (.cells #[.slice none 0 0,.slice none 0 0,.slice none 0 0,.slice none 0 0] 39)=w0 at *;refine(HC.out _ HX0.out).mono ?_;rintro e w1⟨⟨v,rfl⟩,hx1⟩;replace HX0:=HX0.qt hx1;replace HR0:=qh (HR0.out.ext hx1);clear hx1 HC;obtain⟨r0,r1,r2,r3⟩:=mr HR0.out (Ext.refl _);have f0:=HR0.out.frozen 0;have f1:=HR0.out.frozen 1;have f2:=HR0.out.frozen 2;have f3:=HR0.out.frozen 3;go_wp2_with fail;have hB4:=qT (a := .slice none 0 0) (b := .slice none 0 0) (c := .slice none 0 0) (d := .slice none 0 0) HR0.out;refine bodyPost_ret (gP rfl _ _ (w.heap.size+1) _ _ _ _ _ rfl rfl hB4) rfl ?_;exact⟨rfl,qU HX0.out (by omega)⟩
end
section
open Go.RowKit Go.Shelf
attribute [local go_sem] size_bs toList_bs
theorem Ar(ls:List LotV)(A:Option Addr)(c:Nat)(f:FactV)(ps:List Fr)(os:List OptV)(pa oa:Option Addr)(pc oq n:Nat)(w:World)(hE:Env w)(hA:bv w A ls)(hF:FactAt w f ps os pa oa pc)(hi:SelIn ls f ps os)(h1:1≤n)(h6:n≤6)(hq:aH ls f.ins<valI f.qty) :
  Calls Tryz.prog 13 #[.slice A ls.length c,aL f (ag pa ps.length pc) (ag oa os.length oq),.int .i64 n] w fun e w'=>e = .returned (.tuple #[zR,.int .i64 15])∧Ext w w':=by
 have l:=hi.ls n;refine(wS ls A c f ps os pa oa pc oq n w hE hA hF hi h1 h6 (fun a b c z w'=>a = .slice none 0 0∧b = .slice none 0 0∧c = .slice none 0 0∧z=15∧Ext w w') (fun a b c d z X W hX hr hb=>⟨hr.1,hr.2.1,hr.2.2.1,hr.2.2.2.1,qU hr.2.2.2.2 hX⟩) ?_).mono ?_
 ·intro X A' c' W h;have hlen:(bH ls f.ins n).length=ls.length:=jn ls f.ins n;refine(DH A' ls.length c' f (ag pa ps.length pc) (ag oa os.length oq) 15 (by decide) 57 59 #[.pointer (some ⟨X,0,none⟩),.pointer (some ⟨X+1,0,none⟩),.pointer (some ⟨X+2,0,none⟩)] #[.pointer (some ⟨X+1,0,none⟩)] (fun _ _=>by rfl) W ?_).mono ?_
  ·intro W' hx;have h':=h.on hx;have hc:=(sI (bH ls f.ins n) f.ins f.qty n ps (hi.chs h1 h6) A' pa c' pc W' (hE.ext h'.ext) h'.rd (hF.rp.ext h'.ext)).2 (by rw[l.q];exact hq)
   have hc2:=Ed A' (bH ls f.ins n).length c' f (ag pa ps.length pc) (ag oa os.length oq) n ⟨_,_,_,rfl⟩ 15 (fun v w'=>Ext W' w') X W' h'.b0 h'.b1 h'.b2 (hc.mono (by
    rintro e w'⟨rfl,hx1⟩;exact⟨_,rfl,hx1⟩))
   refine hc2.mono ?_;rintro e w'⟨v,rfl,hx1⟩;exact⟨⟨v,rfl⟩,hx1⟩
  ·rintro e w'⟨rfl,hx⟩;exact⟨⟨none,0,0,none,0,0,none,0,0,15,rfl,rfl,rfl,rfl,rfl,h.ext.trans hx⟩,hx⟩
 ·rintro e w'⟨A1,n1,c1,B1,m1,d1,C1,k1,l1,z,rfl,e1,e2,e3,rfl,hx⟩;rw[e1,e2,e3];exact⟨rfl,hx⟩
end
section
open Go.RowKit Go.Shelf
attribute [local go_sem] size_bs toList_bs
def gX(ls:List LotV)(f:FactV)(ps:List Fr)(os:List OptV)(k:Int):Int:=if aA ls≠0∨cA f ps os≠0 then 1 else if f.kind≠k then 7 else 0
theorem Au(ls:List LotV)(A:Option Addr)(c:Nat)(f:FactV)(ps:List Fr)(os:List OptV)(pa oa:Option Addr)(pc oq:Nat)(k:Int)(w:World)(hE:Env w)(hA:bv w A ls)(hF:FactAt w f ps os pa oa pc)(hwf:(Lit.int .i64 f.kind).wf=true)(hsm:∀x ∈ ls,bE x)(hn:ls.length≤100000) :
  Calls Tryz.prog 54 #[.slice A ls.length c,aL f (ag pa ps.length pc) (ag oa os.length oq),.int .i64 k] w fun e w'=>e = .returned (.int .i64 (gX ls f ps os k))∧Ext w w':=by
 have CA:=qh (fun W (hx:Ext w W)=>dm ls A c W (hE.ext hx) (hA.ext hx) hsm hn);have CF:=qh (fun W (hx:Ext w W)=>rJ f ps os pa oa pc oq W (hF.ext hx) hwf (hE.ext hx));have HV:Hid (gX ls f ps os k=if aA ls≠0∨cA f ps os≠0 then 1 else if f.kind≠k then 7 else 0):=qh rfl;have HF:=qh (Blk.new w 30 (aj f (ag pa ps.length pc) (ag oa os.length oq)));have HX:Hid (Ext w (w.alloc (.cells (aj f (ag pa ps.length pc) (ag oa os.length oq)) 30))):=qh (Ext.new _ _);have hs1:(Tryz.prog.info? 30).map (·.size)=some (aj f (ag pa ps.length pc) (ag oa os.length oq)).toList.length:=by kernel_rfl
 clear hA hF hE hsm;generalize gX ls f ps os k=r at *;generalize aA ls=e1 at *;generalize cA f ps os=e2 at *;go_enter Tryz.func54,Tryz.ntmps54;go_wp2_with fail;refine(CA.out _ HX.out).mono ?_;rintro e w1⟨rfl,hx1⟩;replace HX:=HX.qt hx1;replace HF:=qh (HF.out.ext hx1);clear hx1 CA;by_cases h1:e1=0;rotate_left
 ·have hv:=HV.out;rw[if_pos (.inl h1)]at hv;have g1:(e1 != 0)=true:=by rw[bne_iff_ne];exact h1
  subst hv;clear HV h1 CF;go_wp2_with fail;go_ret;exact⟨rfl,HX.out⟩
 subst h1;have hrg:=aW HF.out;go_wp2_with (first|refine cD (by kernel_rfl) 30 _ rfl w.heap.size 0 rfl _ _ hrg Tryz.underlying30 rfl hs1 ?_|fail);refine(CF.out _ HX.out).mono ?_;rintro e w2⟨rfl,hx1⟩;replace HX:=HX.qt hx1;replace HF:=qh (HF.out.ext hx1);clear hx1 hrg CF;by_cases h2:e2=0;rotate_left
 ·have hv:=HV.out;rw[if_pos (.inr h2)]at hv;have g1:(e2 != 0)=true:=by rw[bne_iff_ne];exact h2
  subst hv;clear HV h2;go_wp2_with fail;go_ret;exact⟨rfl,HX.out⟩
 subst h2;have x4:=HF.out.cell 4;simp only[List.getElem?_toArray,List.getElem?_cons_zero,List.getElem?_cons_succ]at x4;have hv:=HV.out;rw[if_neg (by simp)]at hv;clear HV;by_cases h3:f.kind=k
 ·rw[if_neg (by simpa using h3)]at hv;have g1:(f.kind != k)=false:=by rw[bne_eq_false_iff_eq];exact h3
  subst hv;clear h3;go_wp2_with fail;go_ret;exact⟨rfl,HX.out⟩
 ·rw[if_pos h3]at hv;have g1:(f.kind != k)=true:=by rw[bne_iff_ne];exact h3
  subst hv;clear h3;go_wp2_with fail;go_ret;exact⟨rfl,HX.out⟩
def fW(ls:List LotV)(f:FactV)(ps:List Fr)(os:List OptV)(m:Int):Int:=if gX ls f ps os 4≠0 then gX ls f ps os 4 else if m<1∨7≤m then 7 else if aH ls f.ins<valI f.qty then 15 else 0
theorem wT(ls:List LotV)(A:Option Addr)(c:Nat)(f:FactV)(ps:List Fr)(os:List OptV)(pa oa:Option Addr)(pc oq:Nat)(m:Int)(w:World)(hE:Env w)(hA:bv w A ls)(hF:FactAt w f ps os pa oa pc)(hwf:(Lit.int .i64 f.kind).wf=true)(hs:∀x ∈ ls,bE x)(hn:ls.length≤100000)(z:Int)(hz:gX ls f ps os 4≠0∧z=gX ls f ps os 4∨(gX ls f ps os 4=0∧(m<1∨7≤m)∧z=7)) :
  Calls Tryz.prog 13 #[.slice A ls.length c,aL f (ag pa ps.length pc) (ag oa os.length oq),.int .i64 m] w fun e w'=>e = .returned (.tuple #[zR,.int .i64 z])∧Ext w w':=by
 have CK:=qh (fun W (hx:Ext w W)=>Au ls A c f ps os pa oa pc oq 4 W (hE.ext hx) (hA.ext hx) (hF.ext hx) hwf hs hn);have HZ:=qh hz;have hs1:(Tryz.prog.info? 30).map (·.size)=some (aj f (ag pa ps.length pc) (ag oa os.length oq)).toList.length:=by kernel_rfl
 have B0:=qh ((((Blk.new w 22 #[.slice A ls.length c]).alloc (.cells (aj f (ag pa ps.length pc) (ag oa os.length oq)) 30)).alloc (.cells #[.int .i64 m] 3)).alloc (.cells #[.slice none 0 0,.slice none 0 0,.slice none 0 0,.slice none 0 0] rT));have B1:=qh (((Blk.newAt (w.alloc (.cells #[.slice A ls.length c] 22)) 30 (aj f (ag pa ps.length pc) (ag oa os.length oq)) (w.heap.size+1) (by simp)).alloc (.cells #[.int .i64 m] 3)).alloc (.cells #[.slice none 0 0,.slice none 0 0,.slice none 0 0,.slice none 0 0] rT));have B2:=qh ((Blk.newAt ((w.alloc (.cells #[.slice A ls.length c] 22)).alloc (.cells (aj f (ag pa ps.length pc) (ag oa os.length oq)) 30)) 3 #[.int .i64 m] (w.heap.size+2) (by simp)).alloc (.cells #[.slice none 0 0,.slice none 0 0,.slice none 0 0,.slice none 0 0] rT));have B3:=qh (Blk.newAt (((w.alloc (.cells #[.slice A ls.length c] 22)).alloc (.cells (aj f (ag pa ps.length pc) (ag oa os.length oq)) 30)).alloc (.cells #[.int .i64 m] 3)) rT #[.slice none 0 0,.slice none 0 0,.slice none 0 0,.slice none 0 0] (w.heap.size+3) (by simp));have HX:Hid (Ext w ((((w.alloc (.cells #[.slice A ls.length c] 22)).alloc (.cells (aj f (ag pa ps.length pc) (ag oa os.length oq)) 30)).alloc (.cells #[.int .i64 m] 3)).alloc (.cells #[.slice none 0 0,.slice none 0 0,.slice none 0 0,.slice none 0 0] rT))):=qh ((((Ext.new _ _).alloc _).alloc _).alloc _);clear hE hA hF hs hwf hz;generalize gX ls f ps os 4=r at *;go_enter Tryz.func13,Tryz.ntmps13;go_upto_region 1 with fail;generalize ((((w.alloc (.cells #[.slice A ls.length c] 22)).alloc (.cells (aj f (ag pa ps.length pc) (ag oa os.length oq)) 30)).alloc (.cells #[.int .i64 m] 3)).alloc (.cells #[.slice none 0 0,.slice none 0 0,.slice none 0 0,.slice none 0 0] rT))=w0 at *;obtain⟨X,hX⟩:∃X,w.heap.size=X:=⟨_,rfl⟩;rw[hX]at B0 B1 B2 B3 ⊢;have q0:=boxCell B0.out;have hrg:=aW B1.out;go_wp2_with (first|refine cD (by kernel_rfl) 30 _ rfl (X+1) 0 rfl _ _ hrg Tryz.underlying30 rfl hs1 ?_|fail);refine(CK.out _ HX.out).mono ?_;rintro e w1⟨rfl,hx1⟩;replace B0:=qh (B0.out.ext hx1);replace B1:=qh (B1.out.ext hx1);replace B2:=qh (B2.out.ext hx1);replace B3:=qh (B3.out.ext hx1);replace HX:=HX.qt hx1;clear hx1 CK q0 hrg;by_cases h1:r=0;rotate_left
 ·have hz:z=r:=by
   rcases HZ.out with h|h
   ·exact h.2
   ·exact absurd h.1 h1
  subst hz;have g1:(z != 0)=true:=by rw[bne_iff_ne];exact h1
  clear HZ h1;obtain⟨r0,r1,r2,r3⟩:=mr B3.out (Ext.refl _);have f0:=B3.out.frozen 0;have f1:=B3.out.frozen 1;have f2:=B3.out.frozen 2;have f3:=B3.out.frozen 3;go_wp2_with fail;have hB4:=qT (a := .slice none 0 0) (b := .slice none 0 0) (c := .slice none 0 0) (d := .slice none 0 0) B3.out;refine bodyPost_ret (gP rfl _ _ (X+1+1+1) _ _ _ _ _ rfl rfl hB4) rfl ?_;exact⟨rfl,qU HX.out (by omega)⟩
 have hz:(m<1∨7≤m)∧z=7:=by
  rcases HZ.out with h|h
  ·exact absurd h1 h.1
  ·exact h.2
 obtain⟨hm,rfl⟩:=hz;have CN:=qh (fun W=>DF m hm W);subst h1;clear HZ hm;have q2:=boxCell B2.out;go_wp2_with fail;refine(CN.out _).mono ?_;rintro e w2⟨rfl,hx1⟩;replace B0:=qh (B0.out.ext hx1);replace B1:=qh (B1.out.ext hx1);replace B2:=qh (B2.out.ext hx1);replace B3:=qh (B3.out.ext hx1);replace HX:=HX.qt hx1;clear hx1 CN q2;obtain⟨r0,r1,r2,r3⟩:=mr B3.out (Ext.refl _);have f0:=B3.out.frozen 0;have f1:=B3.out.frozen 1;have f2:=B3.out.frozen 2;have f3:=B3.out.frozen 3;go_wp2_with fail;have hB4:=qT (a := .slice none 0 0) (b := .slice none 0 0) (c := .slice none 0 0) (d := .slice none 0 0) B3.out;refine bodyPost_ret (gP rfl _ _ (X+1+1+1) _ _ _ _ _ rfl rfl hB4) rfl ?_;exact⟨rfl,qU HX.out (by omega)⟩
end
section
open Go.RowKit Go.Shelf
attribute [local go_sem] size_bs toList_bs
def cC(f:Fr):Bool:=decide (13<f.num.length) || decide (13<f.den.length)
theorem jJ{f:Fr}(h:cC f=false):f.num.length≤13∧f.den.length≤13:=by
 unfold cC at h;simp at h;omega
theorem FB{f:Fr}(h:13<f.num.length):cC f=true:=by unfold cC;simp[h]
theorem FD{f:Fr}(h:13<f.den.length):cC f=true:=by unfold cC;simp[h]
end
section
open Go.RowKit Go.Shelf
attribute [local go_sem] size_bs toList_bs
def cO(a:Bs):Bool:=decide (13<(a.length:Int))
theorem cH(a:Bs):IL 110 #[.string (bs a)] (.bool (cO a)):=by
 intro w;go_enter Tryz.func110,Tryz.ntmps110;go_wp2_with fail;go_ret;exact⟨rfl,Ext.refl _⟩
end
section
open Go.RowKit
attribute [local go_sem] size_bs toList_bs
theorem Ax(r:Fr)(g:Nat)(w:World)(hA:Blk w g 26 #[.string (bs r.num),.string (bs r.den)]) :
  Calls Tryz.prog 197 #[.slice (some ⟨g,0,none⟩) 1 1] w fun e w'=>e = .returned (.bool (cC r))∧Ext w w':=by
 have HA:=qh hA;clear hA;have HX:Hid (Ext w w):=qh (Ext.refl _);obtain⟨a0,a1,_,_⟩:=aK HA.out (Ext.refl _);by_cases h1:13<r.num.length
 ·have g1:decide ((13:Int)<(r.num.length:Int))=true:=by rw[decide_eq_true_iff];omega
  rw[FB h1];clear h1;go_enter Tryz.func197,Tryz.ntmps197;go_wp2_with fail;refine wp_loop_rounds 1 ?_;rw[rounds_succ];go_wp2_with fail
  all_goals
   go_ret;exact⟨rfl,HX.out⟩
 have g1:decide ((13:Int)<(r.num.length:Int))=false:=by rw[decide_eq_false_iff_not];omega
 by_cases h2:13<r.den.length
 ·have g2:decide ((13:Int)<(r.den.length:Int))=true:=by rw[decide_eq_true_iff];omega
  rw[FD h2];clear h1 h2;go_enter Tryz.func197,Tryz.ntmps197;go_wp2_with fail;refine wp_loop_rounds 1 ?_;rw[rounds_succ];go_wp2_with fail
  all_goals
   go_ret;exact⟨rfl,HX.out⟩
 have g2:decide ((13:Int)<(r.den.length:Int))=false:=by rw[decide_eq_false_iff_not];omega
 have e:cC r=false:=by unfold cC;simp;omega
 rw[e];clear h1 h2 e;go_enter Tryz.func197,Tryz.ntmps197;go_wp2_with fail;refine wp_loop_rounds 2 ?_;rw[rounds_succ];go_wp2_with fail;rw[rounds_succ];go_wp2_with fail
 all_goals
  go_ret;exact⟨rfl,HX.out⟩
theorem dQ(r:Fr)(w:World):Calls Tryz.prog 122 #[fv r] w fun e w'=>e = .returned (.bool (cC r))∧Ext w w':=by
 obtain⟨n,d⟩:=r;have HB:=qh (Blk.new w 26 #[.string (bs n),.string (bs d)]);have HX:Hid (Ext w (w.alloc (.cells #[.string (bs n),.string (bs d)] 26))):=qh (Ext.new _ _);obtain⟨a0,a1,_,_⟩:=aK HB.out (Ext.refl _);have HL:=qh (Ax ⟨n,d⟩ (w.heap.size+1) ((w.alloc (.cells #[.string (bs n),.string (bs d)] 26)).alloc (.cells #[.string (bs n),.string (bs d)] 26)) (Blk.newAt _ _ _ _ (by simp)));replace HX:=qh (HX.out.alloc (.cells #[.string (bs n),.string (bs d)] 26));go_enter Tryz.func122,Tryz.ntmps122;go_wp2_with fail;refine HL.out.mono ?_;rintro e v1⟨rfl,hx1⟩;replace HX:=HX.qt hx1;clear hx1;go_wp2_with fail;go_ret;exact⟨rfl,HX.out⟩
section
variable (f:FactV) (P O:Value) (w:World)
theorem Ky(h0:24<f.key.length):Calls Tryz.prog 51 #[aL f P O] w fun e w'=>e = .returned (.bool true)∧Ext w w':=by
 have g0:decide ((24:Int)<(f.key.length:Int))=true:=by rw[decide_eq_true_iff];omega
 clear h0;have HB:=qh (Blk.new w 30 (aj f P O));have HX:Hid (Ext w (w.alloc (.cells (aj f P O) 30))):=qh (Ext.new _ _);go_enter Tryz.func51,Tryz.ntmps51;obtain⟨x0,-,-,-,-,x5,x6,x7,x8,x9,x10,x11,x12,x13,x14,x15,x16,x17,x18,x19,-⟩:=ax HB.out (Ext.refl _);go_wp2_with fail;go_ret;exact⟨rfl,HX.out⟩
theorem Kz(h0:¬ 24<f.key.length)(h1:24<f.ins.length):Calls Tryz.prog 51 #[aL f P O] w fun e w'=>e = .returned (.bool true)∧Ext w w':=by
 have g0:decide ((24:Int)<(f.key.length:Int))=false:=by rw[decide_eq_false_iff_not];omega
 have g1:decide ((24:Int)<(f.ins.length:Int))=true:=by rw[decide_eq_true_iff];omega
 clear h0 h1;have HB:=qh (Blk.new w 30 (aj f P O));have HX:Hid (Ext w (w.alloc (.cells (aj f P O) 30))):=qh (Ext.new _ _);go_enter Tryz.func51,Tryz.ntmps51;obtain⟨x0,-,-,-,-,x5,x6,x7,x8,x9,x10,x11,x12,x13,x14,x15,x16,x17,x18,x19,-⟩:=ax HB.out (Ext.refl _);go_wp2_with fail;go_ret;exact⟨rfl,HX.out⟩
theorem KA(h0:¬ 24<f.key.length)(h1:¬ 24<f.ins.length)(h2:24<f.other.length):Calls Tryz.prog 51 #[aL f P O] w fun e w'=>e = .returned (.bool true)∧Ext w w':=by
 have g0:decide ((24:Int)<(f.key.length:Int))=false:=by rw[decide_eq_false_iff_not];omega
 have g1:decide ((24:Int)<(f.ins.length:Int))=false:=by rw[decide_eq_false_iff_not];omega
 have g2:decide ((24:Int)<(f.other.length:Int))=true:=by rw[decide_eq_true_iff];omega
 clear h0 h1 h2;have HB:=qh (Blk.new w 30 (aj f P O));have HX:Hid (Ext w (w.alloc (.cells (aj f P O) 30))):=qh (Ext.new _ _);go_enter Tryz.func51,Tryz.ntmps51;obtain⟨x0,-,-,-,-,x5,x6,x7,x8,x9,x10,x11,x12,x13,x14,x15,x16,x17,x18,x19,-⟩:=ax HB.out (Ext.refl _);go_wp2_with fail;go_ret;exact⟨rfl,HX.out⟩
theorem KB(h0:¬ 24<f.key.length)(h1:¬ 24<f.ins.length)(h2:¬ 24<f.other.length)(h3:24<f.cur.length):Calls Tryz.prog 51 #[aL f P O] w fun e w'=>e = .returned (.bool true)∧Ext w w':=by
 have g0:decide ((24:Int)<(f.key.length:Int))=false:=by rw[decide_eq_false_iff_not];omega
 have g1:decide ((24:Int)<(f.ins.length:Int))=false:=by rw[decide_eq_false_iff_not];omega
 have g2:decide ((24:Int)<(f.other.length:Int))=false:=by rw[decide_eq_false_iff_not];omega
 have g3:decide ((24:Int)<(f.cur.length:Int))=true:=by rw[decide_eq_true_iff];omega
 clear h0 h1 h2 h3;have HB:=qh (Blk.new w 30 (aj f P O));have HX:Hid (Ext w (w.alloc (.cells (aj f P O) 30))):=qh (Ext.new _ _);go_enter Tryz.func51,Tryz.ntmps51;obtain⟨x0,-,-,-,-,x5,x6,x7,x8,x9,x10,x11,x12,x13,x14,x15,x16,x17,x18,x19,-⟩:=ax HB.out (Ext.refl _);go_wp2_with fail;go_ret;exact⟨rfl,HX.out⟩
theorem KE(h0:¬ 24<f.key.length)(h1:¬ 24<f.ins.length)(h2:¬ 24<f.other.length)(h3:¬ 24<f.cur.length)(h4:24<f.tgt.length):Calls Tryz.prog 51 #[aL f P O] w fun e w'=>e = .returned (.bool true)∧Ext w w':=by
 have g0:decide ((24:Int)<(f.key.length:Int))=false:=by rw[decide_eq_false_iff_not];omega
 have g1:decide ((24:Int)<(f.ins.length:Int))=false:=by rw[decide_eq_false_iff_not];omega
 have g2:decide ((24:Int)<(f.other.length:Int))=false:=by rw[decide_eq_false_iff_not];omega
 have g3:decide ((24:Int)<(f.cur.length:Int))=false:=by rw[decide_eq_false_iff_not];omega
 have g4:decide ((24:Int)<(f.tgt.length:Int))=true:=by rw[decide_eq_true_iff];omega
 clear h0 h1 h2 h3 h4;have HB:=qh (Blk.new w 30 (aj f P O));have HX:Hid (Ext w (w.alloc (.cells (aj f P O) 30))):=qh (Ext.new _ _);go_enter Tryz.func51,Tryz.ntmps51;obtain⟨x0,-,-,-,-,x5,x6,x7,x8,x9,x10,x11,x12,x13,x14,x15,x16,x17,x18,x19,-⟩:=ax HB.out (Ext.refl _);go_wp2_with fail;go_ret;exact⟨rfl,HX.out⟩
theorem KF(h0:¬ 24<f.key.length)(h1:¬ 24<f.ins.length)(h2:¬ 24<f.other.length)(h3:¬ 24<f.cur.length)(h4:¬ 24<f.tgt.length)(h5:cO f.qty=true):Calls Tryz.prog 51 #[aL f P O] w fun e w'=>e = .returned (.bool true)∧Ext w w':=by
 have g0:decide ((24:Int)<(f.key.length:Int))=false:=by rw[decide_eq_false_iff_not];omega
 have g1:decide ((24:Int)<(f.ins.length:Int))=false:=by rw[decide_eq_false_iff_not];omega
 have g2:decide ((24:Int)<(f.other.length:Int))=false:=by rw[decide_eq_false_iff_not];omega
 have g3:decide ((24:Int)<(f.cur.length:Int))=false:=by rw[decide_eq_false_iff_not];omega
 have g4:decide ((24:Int)<(f.tgt.length:Int))=false:=by rw[decide_eq_false_iff_not];omega
 have c5:=cH f.qty;rw[h5]at c5;have C5:=qh c5;clear h0 h1 h2 h3 h4 h5 c5;have HB:=qh (Blk.new w 30 (aj f P O));have HX:Hid (Ext w (w.alloc (.cells (aj f P O) 30))):=qh (Ext.new _ _);go_enter Tryz.func51,Tryz.ntmps51;obtain⟨x0,-,-,-,-,x5,x6,x7,x8,x9,x10,x11,x12,x13,x14,x15,x16,x17,x18,x19,-⟩:=ax HB.out (Ext.refl _);go_wp2_with fail;refine(C5.out _).mono ?_;rintro e v5⟨rfl,hx1⟩;replace HX:=HX.qt hx1;replace HB:=qh (HB.out.ext hx1);clear x0 x5 x6 x7 x8 x9 x10 x11 x12 x13 x14 x15 x16 x17 x18 x19;clear hx1 C5;obtain⟨x0,-,-,-,-,x5,x6,x7,x8,x9,x10,x11,x12,x13,x14,x15,x16,x17,x18,x19,-⟩:=ax HB.out (Ext.refl _);go_wp2_with fail;go_ret;exact⟨rfl,HX.out⟩
theorem KG(h0:¬ 24<f.key.length)(h1:¬ 24<f.ins.length)(h2:¬ 24<f.other.length)(h3:¬ 24<f.cur.length)(h4:¬ 24<f.tgt.length)(h5:cO f.qty=false)(h6:cO f.amt=true):Calls Tryz.prog 51 #[aL f P O] w fun e w'=>e = .returned (.bool true)∧Ext w w':=by
 have g0:decide ((24:Int)<(f.key.length:Int))=false:=by rw[decide_eq_false_iff_not];omega
 have g1:decide ((24:Int)<(f.ins.length:Int))=false:=by rw[decide_eq_false_iff_not];omega
 have g2:decide ((24:Int)<(f.other.length:Int))=false:=by rw[decide_eq_false_iff_not];omega
 have g3:decide ((24:Int)<(f.cur.length:Int))=false:=by rw[decide_eq_false_iff_not];omega
 have g4:decide ((24:Int)<(f.tgt.length:Int))=false:=by rw[decide_eq_false_iff_not];omega
 have c5:=cH f.qty;rw[h5]at c5;have C5:=qh c5;have c6:=cH f.amt;rw[h6]at c6;have C6:=qh c6;clear h0 h1 h2 h3 h4 h5 h6 c5 c6;have HB:=qh (Blk.new w 30 (aj f P O));have HX:Hid (Ext w (w.alloc (.cells (aj f P O) 30))):=qh (Ext.new _ _);go_enter Tryz.func51,Tryz.ntmps51;obtain⟨x0,-,-,-,-,x5,x6,x7,x8,x9,x10,x11,x12,x13,x14,x15,x16,x17,x18,x19,-⟩:=ax HB.out (Ext.refl _);go_wp2_with fail;refine(C5.out _).mono ?_;rintro e v5⟨rfl,hx1⟩;replace HX:=HX.qt hx1;replace HB:=qh (HB.out.ext hx1);clear x0 x5 x6 x7 x8 x9 x10 x11 x12 x13 x14 x15 x16 x17 x18 x19;clear hx1 C5;obtain⟨x0,-,-,-,-,x5,x6,x7,x8,x9,x10,x11,x12,x13,x14,x15,x16,x17,x18,x19,-⟩:=ax HB.out (Ext.refl _);go_wp2_with fail;refine(C6.out _).mono ?_;rintro e v6⟨rfl,hx1⟩;replace HX:=HX.qt hx1;replace HB:=qh (HB.out.ext hx1);clear x0 x5 x6 x7 x8 x9 x10 x11 x12 x13 x14 x15 x16 x17 x18 x19;clear hx1 C6;obtain⟨x0,-,-,-,-,x5,x6,x7,x8,x9,x10,x11,x12,x13,x14,x15,x16,x17,x18,x19,-⟩:=ax HB.out (Ext.refl _);go_wp2_with fail;go_ret;exact⟨rfl,HX.out⟩
theorem KH(h0:¬ 24<f.key.length)(h1:¬ 24<f.ins.length)(h2:¬ 24<f.other.length)(h3:¬ 24<f.cur.length)(h4:¬ 24<f.tgt.length)(h5:cO f.qty=false)(h6:cO f.amt=false)(h7:cO f.fee=true):Calls Tryz.prog 51 #[aL f P O] w fun e w'=>e = .returned (.bool true)∧Ext w w':=by
 have g0:decide ((24:Int)<(f.key.length:Int))=false:=by rw[decide_eq_false_iff_not];omega
 have g1:decide ((24:Int)<(f.ins.length:Int))=false:=by rw[decide_eq_false_iff_not];omega
 have g2:decide ((24:Int)<(f.other.length:Int))=false:=by rw[decide_eq_false_iff_not];omega
 have g3:decide ((24:Int)<(f.cur.length:Int))=false:=by rw[decide_eq_false_iff_not];omega
 have g4:decide ((24:Int)<(f.tgt.length:Int))=false:=by rw[decide_eq_false_iff_not];omega
 have c5:=cH f.qty;rw[h5]at c5;have C5:=qh c5;have c6:=cH f.amt;rw[h6]at c6;have C6:=qh c6;have c7:=cH f.fee;rw[h7]at c7;have C7:=qh c7;clear h0 h1 h2 h3 h4 h5 h6 h7 c5 c6 c7;have HB:=qh (Blk.new w 30 (aj f P O));have HX:Hid (Ext w (w.alloc (.cells (aj f P O) 30))):=qh (Ext.new _ _);go_enter Tryz.func51,Tryz.ntmps51;obtain⟨x0,-,-,-,-,x5,x6,x7,x8,x9,x10,x11,x12,x13,x14,x15,x16,x17,x18,x19,-⟩:=ax HB.out (Ext.refl _);go_wp2_with fail;refine(C5.out _).mono ?_;rintro e v5⟨rfl,hx1⟩;replace HX:=HX.qt hx1;replace HB:=qh (HB.out.ext hx1);clear x0 x5 x6 x7 x8 x9 x10 x11 x12 x13 x14 x15 x16 x17 x18 x19;clear hx1 C5;obtain⟨x0,-,-,-,-,x5,x6,x7,x8,x9,x10,x11,x12,x13,x14,x15,x16,x17,x18,x19,-⟩:=ax HB.out (Ext.refl _);go_wp2_with fail;refine(C6.out _).mono ?_;rintro e v6⟨rfl,hx1⟩;replace HX:=HX.qt hx1;replace HB:=qh (HB.out.ext hx1);clear x0 x5 x6 x7 x8 x9 x10 x11 x12 x13 x14 x15 x16 x17 x18 x19;clear hx1 C6;obtain⟨x0,-,-,-,-,x5,x6,x7,x8,x9,x10,x11,x12,x13,x14,x15,x16,x17,x18,x19,-⟩:=ax HB.out (Ext.refl _);go_wp2_with fail;refine(C7.out _).mono ?_;rintro e v7⟨rfl,hx1⟩;replace HX:=HX.qt hx1;replace HB:=qh (HB.out.ext hx1);clear x0 x5 x6 x7 x8 x9 x10 x11 x12 x13 x14 x15 x16 x17 x18 x19;clear hx1 C7;obtain⟨x0,-,-,-,-,x5,x6,x7,x8,x9,x10,x11,x12,x13,x14,x15,x16,x17,x18,x19,-⟩:=ax HB.out (Ext.refl _);go_wp2_with fail;go_ret;exact⟨rfl,HX.out⟩
theorem KJ(h0:¬ 24<f.key.length)(h1:¬ 24<f.ins.length)(h2:¬ 24<f.other.length)(h3:¬ 24<f.cur.length)(h4:¬ 24<f.tgt.length)(h5:cO f.qty=false)(h6:cO f.amt=false)(h7:cO f.fee=false)(h8:cC f.price=true):Calls Tryz.prog 51 #[aL f P O] w fun e w'=>e = .returned (.bool true)∧Ext w w':=by
 have g0:decide ((24:Int)<(f.key.length:Int))=false:=by rw[decide_eq_false_iff_not];omega
 have g1:decide ((24:Int)<(f.ins.length:Int))=false:=by rw[decide_eq_false_iff_not];omega
 have g2:decide ((24:Int)<(f.other.length:Int))=false:=by rw[decide_eq_false_iff_not];omega
 have g3:decide ((24:Int)<(f.cur.length:Int))=false:=by rw[decide_eq_false_iff_not];omega
 have g4:decide ((24:Int)<(f.tgt.length:Int))=false:=by rw[decide_eq_false_iff_not];omega
 have c5:=cH f.qty;rw[h5]at c5;have C5:=qh c5;have c6:=cH f.amt;rw[h6]at c6;have C6:=qh c6;have c7:=cH f.fee;rw[h7]at c7;have C7:=qh c7;have c8:=fun W=>dQ f.price W
 simp only[h8]at c8;have C8:=qh c8;clear h0 h1 h2 h3 h4 h5 h6 h7 h8 c5 c6 c7 c8;have HB:=qh (Blk.new w 30 (aj f P O));have HX:Hid (Ext w (w.alloc (.cells (aj f P O) 30))):=qh (Ext.new _ _);go_enter Tryz.func51,Tryz.ntmps51;obtain⟨x0,-,-,-,-,x5,x6,x7,x8,x9,x10,x11,x12,x13,x14,x15,x16,x17,x18,x19,-⟩:=ax HB.out (Ext.refl _);go_wp2_with fail;refine(C5.out _).mono ?_;rintro e v5⟨rfl,hx1⟩;replace HX:=HX.qt hx1;replace HB:=qh (HB.out.ext hx1);clear x0 x5 x6 x7 x8 x9 x10 x11 x12 x13 x14 x15 x16 x17 x18 x19;clear hx1 C5;obtain⟨x0,-,-,-,-,x5,x6,x7,x8,x9,x10,x11,x12,x13,x14,x15,x16,x17,x18,x19,-⟩:=ax HB.out (Ext.refl _);go_wp2_with fail;refine(C6.out _).mono ?_;rintro e v6⟨rfl,hx1⟩;replace HX:=HX.qt hx1;replace HB:=qh (HB.out.ext hx1);clear x0 x5 x6 x7 x8 x9 x10 x11 x12 x13 x14 x15 x16 x17 x18 x19;clear hx1 C6;obtain⟨x0,-,-,-,-,x5,x6,x7,x8,x9,x10,x11,x12,x13,x14,x15,x16,x17,x18,x19,-⟩:=ax HB.out (Ext.refl _);go_wp2_with fail;refine(C7.out _).mono ?_;rintro e v7⟨rfl,hx1⟩;replace HX:=HX.qt hx1;replace HB:=qh (HB.out.ext hx1);clear x0 x5 x6 x7 x8 x9 x10 x11 x12 x13 x14 x15 x16 x17 x18 x19;clear hx1 C7;obtain⟨x0,-,-,-,-,x5,x6,x7,x8,x9,x10,x11,x12,x13,x14,x15,x16,x17,x18,x19,-⟩:=ax HB.out (Ext.refl _);go_wp2_with fail;refine(C8.out _).mono ?_;rintro e v8⟨rfl,hx1⟩;replace HX:=HX.qt hx1;replace HB:=qh (HB.out.ext hx1);clear x0 x5 x6 x7 x8 x9 x10 x11 x12 x13 x14 x15 x16 x17 x18 x19;clear hx1 C8;obtain⟨x0,-,-,-,-,x5,x6,x7,x8,x9,x10,x11,x12,x13,x14,x15,x16,x17,x18,x19,-⟩:=ax HB.out (Ext.refl _);go_wp2_with fail;go_ret;exact⟨rfl,HX.out⟩
theorem KM(h0:¬ 24<f.key.length)(h1:¬ 24<f.ins.length)(h2:¬ 24<f.other.length)(h3:¬ 24<f.cur.length)(h4:¬ 24<f.tgt.length)(h5:cO f.qty=false)(h6:cO f.amt=false)(h7:cO f.fee=false)(h8:cC f.price=false)(h9:cC f.ratio=true):Calls Tryz.prog 51 #[aL f P O] w fun e w'=>e = .returned (.bool true)∧Ext w w':=by
 have g0:decide ((24:Int)<(f.key.length:Int))=false:=by rw[decide_eq_false_iff_not];omega
 have g1:decide ((24:Int)<(f.ins.length:Int))=false:=by rw[decide_eq_false_iff_not];omega
 have g2:decide ((24:Int)<(f.other.length:Int))=false:=by rw[decide_eq_false_iff_not];omega
 have g3:decide ((24:Int)<(f.cur.length:Int))=false:=by rw[decide_eq_false_iff_not];omega
 have g4:decide ((24:Int)<(f.tgt.length:Int))=false:=by rw[decide_eq_false_iff_not];omega
 have c5:=cH f.qty;rw[h5]at c5;have C5:=qh c5;have c6:=cH f.amt;rw[h6]at c6;have C6:=qh c6;have c7:=cH f.fee;rw[h7]at c7;have C7:=qh c7;have c8:=fun W=>dQ f.price W
 simp only[h8]at c8;have C8:=qh c8;have c9:=fun W=>dQ f.ratio W
 simp only[h9]at c9;have C9:=qh c9;clear h0 h1 h2 h3 h4 h5 h6 h7 h8 h9 c5 c6 c7 c8 c9;have HB:=qh (Blk.new w 30 (aj f P O));have HX:Hid (Ext w (w.alloc (.cells (aj f P O) 30))):=qh (Ext.new _ _);go_enter Tryz.func51,Tryz.ntmps51;obtain⟨x0,-,-,-,-,x5,x6,x7,x8,x9,x10,x11,x12,x13,x14,x15,x16,x17,x18,x19,-⟩:=ax HB.out (Ext.refl _);go_wp2_with fail;refine(C5.out _).mono ?_;rintro e v5⟨rfl,hx1⟩;replace HX:=HX.qt hx1;replace HB:=qh (HB.out.ext hx1);clear x0 x5 x6 x7 x8 x9 x10 x11 x12 x13 x14 x15 x16 x17 x18 x19;clear hx1 C5;obtain⟨x0,-,-,-,-,x5,x6,x7,x8,x9,x10,x11,x12,x13,x14,x15,x16,x17,x18,x19,-⟩:=ax HB.out (Ext.refl _);go_wp2_with fail;refine(C6.out _).mono ?_;rintro e v6⟨rfl,hx1⟩;replace HX:=HX.qt hx1;replace HB:=qh (HB.out.ext hx1);clear x0 x5 x6 x7 x8 x9 x10 x11 x12 x13 x14 x15 x16 x17 x18 x19;clear hx1 C6;obtain⟨x0,-,-,-,-,x5,x6,x7,x8,x9,x10,x11,x12,x13,x14,x15,x16,x17,x18,x19,-⟩:=ax HB.out (Ext.refl _);go_wp2_with fail;refine(C7.out _).mono ?_;rintro e v7⟨rfl,hx1⟩;replace HX:=HX.qt hx1;replace HB:=qh (HB.out.ext hx1);clear x0 x5 x6 x7 x8 x9 x10 x11 x12 x13 x14 x15 x16 x17 x18 x19;clear hx1 C7;obtain⟨x0,-,-,-,-,x5,x6,x7,x8,x9,x10,x11,x12,x13,x14,x15,x16,x17,x18,x19,-⟩:=ax HB.out (Ext.refl _);go_wp2_with fail;refine(C8.out _).mono ?_;rintro e v8⟨rfl,hx1⟩;replace HX:=HX.qt hx1;replace HB:=qh (HB.out.ext hx1);clear x0 x5 x6 x7 x8 x9 x10 x11 x12 x13 x14 x15 x16 x17 x18 x19;clear hx1 C8;obtain⟨x0,-,-,-,-,x5,x6,x7,x8,x9,x10,x11,x12,x13,x14,x15,x16,x17,x18,x19,-⟩:=ax HB.out (Ext.refl _);go_wp2_with fail;refine(C9.out _).mono ?_;rintro e v9⟨rfl,hx1⟩;replace HX:=HX.qt hx1;replace HB:=qh (HB.out.ext hx1);clear x0 x5 x6 x7 x8 x9 x10 x11 x12 x13 x14 x15 x16 x17 x18 x19;clear hx1 C9;obtain⟨x0,-,-,-,-,x5,x6,x7,x8,x9,x10,x11,x12,x13,x14,x15,x16,x17,x18,x19,-⟩:=ax HB.out (Ext.refl _);go_wp2_with fail;go_ret;exact⟨rfl,HX.out⟩
theorem Iw(h0:¬ 24<f.key.length)(h1:¬ 24<f.ins.length)(h2:¬ 24<f.other.length)(h3:¬ 24<f.cur.length)(h4:¬ 24<f.tgt.length)(h5:cO f.qty=false)(h6:cO f.amt=false)(h7:cO f.fee=false)(h8:cC f.price=false)(h9:cC f.ratio=false)(h10:cC f.share=true):Calls Tryz.prog 51 #[aL f P O] w fun e w'=>e = .returned (.bool true)∧Ext w w':=by
 have g0:decide ((24:Int)<(f.key.length:Int))=false:=by rw[decide_eq_false_iff_not];omega
 have g1:decide ((24:Int)<(f.ins.length:Int))=false:=by rw[decide_eq_false_iff_not];omega
 have g2:decide ((24:Int)<(f.other.length:Int))=false:=by rw[decide_eq_false_iff_not];omega
 have g3:decide ((24:Int)<(f.cur.length:Int))=false:=by rw[decide_eq_false_iff_not];omega
 have g4:decide ((24:Int)<(f.tgt.length:Int))=false:=by rw[decide_eq_false_iff_not];omega
 have c5:=cH f.qty;rw[h5]at c5;have C5:=qh c5;have c6:=cH f.amt;rw[h6]at c6;have C6:=qh c6;have c7:=cH f.fee;rw[h7]at c7;have C7:=qh c7;have c8:=fun W=>dQ f.price W
 simp only[h8]at c8;have C8:=qh c8;have c9:=fun W=>dQ f.ratio W
 simp only[h9]at c9;have C9:=qh c9;have c10:=fun W=>dQ f.share W
 simp only[h10]at c10;have C10:=qh c10;clear h0 h1 h2 h3 h4 h5 h6 h7 h8 h9 h10 c5 c6 c7 c8 c9 c10;have HB:=qh (Blk.new w 30 (aj f P O));have HX:Hid (Ext w (w.alloc (.cells (aj f P O) 30))):=qh (Ext.new _ _);go_enter Tryz.func51,Tryz.ntmps51;obtain⟨x0,-,-,-,-,x5,x6,x7,x8,x9,x10,x11,x12,x13,x14,x15,x16,x17,x18,x19,-⟩:=ax HB.out (Ext.refl _);go_wp2_with fail;refine(C5.out _).mono ?_;rintro e v5⟨rfl,hx1⟩;replace HX:=HX.qt hx1;replace HB:=qh (HB.out.ext hx1);clear x0 x5 x6 x7 x8 x9 x10 x11 x12 x13 x14 x15 x16 x17 x18 x19;clear hx1 C5;obtain⟨x0,-,-,-,-,x5,x6,x7,x8,x9,x10,x11,x12,x13,x14,x15,x16,x17,x18,x19,-⟩:=ax HB.out (Ext.refl _);go_wp2_with fail;refine(C6.out _).mono ?_;rintro e v6⟨rfl,hx1⟩;replace HX:=HX.qt hx1;replace HB:=qh (HB.out.ext hx1);clear x0 x5 x6 x7 x8 x9 x10 x11 x12 x13 x14 x15 x16 x17 x18 x19;clear hx1 C6;obtain⟨x0,-,-,-,-,x5,x6,x7,x8,x9,x10,x11,x12,x13,x14,x15,x16,x17,x18,x19,-⟩:=ax HB.out (Ext.refl _);go_wp2_with fail;refine(C7.out _).mono ?_;rintro e v7⟨rfl,hx1⟩;replace HX:=HX.qt hx1;replace HB:=qh (HB.out.ext hx1);clear x0 x5 x6 x7 x8 x9 x10 x11 x12 x13 x14 x15 x16 x17 x18 x19;clear hx1 C7;obtain⟨x0,-,-,-,-,x5,x6,x7,x8,x9,x10,x11,x12,x13,x14,x15,x16,x17,x18,x19,-⟩:=ax HB.out (Ext.refl _);go_wp2_with fail;refine(C8.out _).mono ?_;rintro e v8⟨rfl,hx1⟩;replace HX:=HX.qt hx1;replace HB:=qh (HB.out.ext hx1);clear x0 x5 x6 x7 x8 x9 x10 x11 x12 x13 x14 x15 x16 x17 x18 x19;clear hx1 C8;obtain⟨x0,-,-,-,-,x5,x6,x7,x8,x9,x10,x11,x12,x13,x14,x15,x16,x17,x18,x19,-⟩:=ax HB.out (Ext.refl _);go_wp2_with fail;refine(C9.out _).mono ?_;rintro e v9⟨rfl,hx1⟩;replace HX:=HX.qt hx1;replace HB:=qh (HB.out.ext hx1);clear x0 x5 x6 x7 x8 x9 x10 x11 x12 x13 x14 x15 x16 x17 x18 x19;clear hx1 C9;obtain⟨x0,-,-,-,-,x5,x6,x7,x8,x9,x10,x11,x12,x13,x14,x15,x16,x17,x18,x19,-⟩:=ax HB.out (Ext.refl _);go_wp2_with fail;refine(C10.out _).mono ?_;rintro e v10⟨rfl,hx1⟩;replace HX:=HX.qt hx1;replace HB:=qh (HB.out.ext hx1);clear x0 x5 x6 x7 x8 x9 x10 x11 x12 x13 x14 x15 x16 x17 x18 x19;clear hx1 C10;obtain⟨x0,-,-,-,-,x5,x6,x7,x8,x9,x10,x11,x12,x13,x14,x15,x16,x17,x18,x19,-⟩:=ax HB.out (Ext.refl _);go_wp2_with fail;go_ret;exact⟨rfl,HX.out⟩
end
end
section
open Go.RowKit
attribute [local go_sem] size_bs toList_bs
structure GreatNo (f:FactV) (ps:List Fr) (os:List OptV):Prop where
 key:f.key.length≤24
 ins:f.ins.length≤24
 other:f.other.length≤24
 cur:f.cur.length≤24
 tgt:f.tgt.length≤24
 qty:f.qty.length≤13
 amt:f.amt.length≤13
 fee:f.fee.length≤13
 pr:f.price.num.length≤13∧f.price.den.length≤13
 ra:f.ratio.num.length≤13∧f.ratio.den.length≤13
 sh:f.share.num.length≤13∧f.share.den.length≤13
 np:ps.length≤66
 ps:∀p ∈ ps,p.num.length≤30∧p.den.length≤13
 no:os.length≤10
 os:∀o ∈ os,lz 24 o
theorem nh{s:Bs}(h:cO s=false):s.length≤13:=by
 unfold cO at h;simp at h;omega
def nN(f:FactV)(ps:List Fr)(os:List OptV)(w:World)(e:Ending)(w':World):Prop:=(∃b,e = .returned (.bool b)∧(b=false→GreatNo f ps os))∧Ext w w'
theorem gG{f:FactV}{ps:List Fr}{os:List OptV}{w w':World}(hx:Ext w w'):nN f ps os w (.returned (.bool true)) w':=⟨⟨true,rfl,fun h=>by cases h⟩,hx⟩
theorem dK{f:FactV}{ps:List Fr}{os:List OptV}{w:World}{e:Ending}{w':World}(h:e = .returned (.bool true)∧Ext w w'):nN f ps os w e w':=by
 obtain⟨rfl,hx⟩:=h;exact gG hx
theorem FL(f:FactV)(ps:List Fr)(os:List OptV)(pa oa:Option Addr)(pc oq:Nat)(w:World)(hP:fI w pa ps)(hO:nI w oa os)(hn:ps.length≤4611686018427387904)(hm:os.length≤4611686018427387904) :
  Calls Tryz.prog 51 #[aL f (ag pa ps.length pc) (ag oa os.length oq)] w (nN f ps os w):=by
 by_cases h0:24<f.key.length
 ·exact(Ky f _ _ w  h0).mono fun _ _ h=>dK h
 by_cases h1:24<f.ins.length
 ·exact(Kz f _ _ w h0 h1).mono fun _ _ h=>dK h
 by_cases h2:24<f.other.length
 ·exact(KA f _ _ w h0 h1 h2).mono fun _ _ h=>dK h
 by_cases h3:24<f.cur.length
 ·exact(KB f _ _ w h0 h1 h2 h3).mono fun _ _ h=>dK h
 by_cases h4:24<f.tgt.length
 ·exact(KE f _ _ w h0 h1 h2 h3 h4).mono fun _ _ h=>dK h
 by_cases h5:cO f.qty=true
 ·exact(KF f _ _ w h0 h1 h2 h3 h4 h5).mono fun _ _ h=>dK h
 by_cases h6:cO f.amt=true
 ·exact(KG f _ _ w h0 h1 h2 h3 h4 (by simpa using h5) h6).mono fun _ _ h=>dK h
 by_cases h7:cO f.fee=true
 ·exact(KH f _ _ w h0 h1 h2 h3 h4 (by simpa using h5) (by simpa using h6) h7).mono fun _ _ h=>dK h
 by_cases h8:cC f.price=true
 ·exact(KJ f _ _ w h0 h1 h2 h3 h4 (by simpa using h5) (by simpa using h6) (by simpa using h7) h8).mono fun _ _ h=>dK h
 by_cases h9:cC f.ratio=true
 ·exact(KM f _ _ w h0 h1 h2 h3 h4 (by simpa using h5) (by simpa using h6) (by simpa using h7) (by simpa using h8) h9).mono fun _ _ h=>dK h
 by_cases h10:cC f.share=true
 ·exact(Iw f _ _ w h0 h1 h2 h3 h4 (by simpa using h5) (by simpa using h6) (by simpa using h7) (by simpa using h8) (by simpa using h9) h10).mono fun _ _ h=>dK h
 replace h5:cO f.qty=false:=by simpa using h5
 replace h6:cO f.amt=false:=by simpa using h6
 replace h7:cO f.fee=false:=by simpa using h7
 replace h8:cC f.price=false:=by simpa using h8
 replace h9:cC f.ratio=false:=by simpa using h9
 replace h10:cC f.share=false:=by simpa using h10
 have HG:Hid ((ps.length≤66∧∀p ∈ ps,p.num.length≤30∧p.den.length≤13)→(os.length≤10∧∀o ∈ os,lz 24 o)→GreatNo f ps os):=qh (fun a b=>⟨by omega,by omega,by omega,by omega,by omega,nh h5,nh h6,nh h7,jJ h8,jJ h9,jJ h10,a.1,a.2,b.1,b.2⟩);have HP:=qh hP;have HO:=qh hO;clear hP hO;have g0:decide ((24:Int)<(f.key.length:Int))=false:=by rw[decide_eq_false_iff_not];omega
 have g1:decide ((24:Int)<(f.ins.length:Int))=false:=by rw[decide_eq_false_iff_not];omega
 have g2:decide ((24:Int)<(f.other.length:Int))=false:=by rw[decide_eq_false_iff_not];omega
 have g3:decide ((24:Int)<(f.cur.length:Int))=false:=by rw[decide_eq_false_iff_not];omega
 have g4:decide ((24:Int)<(f.tgt.length:Int))=false:=by rw[decide_eq_false_iff_not];omega
 have c5:=cH f.qty;rw[h5]at c5;have C5:=qh c5;have c6:=cH f.amt;rw[h6]at c6;have C6:=qh c6;have c7:=cH f.fee;rw[h7]at c7;have C7:=qh c7;have c8:=fun W=>dQ f.price W
 simp only[h8]at c8;have C8:=qh c8;have c9:=fun W=>dQ f.ratio W
 simp only[h9]at c9;have C9:=qh c9;have c10:=fun W=>dQ f.share W
 simp only[h10]at c10;have C10:=qh c10;clear h0 h1 h2 h3 h4 h5 h6 h7 h8 h9 h10 c5 c6 c7 c8 c9 c10;have HB:=qh (Blk.new w 30 (aj f (ag pa ps.length pc) (ag oa os.length oq)));have HX:Hid (Ext w (w.alloc (.cells (aj f (ag pa ps.length pc) (ag oa os.length oq)) 30))):=qh (Ext.new _ _);go_enter Tryz.func51,Tryz.ntmps51;obtain⟨x0,-,-,-,-,x5,x6,x7,x8,x9,x10,x11,x12,x13,x14,x15,x16,x17,x18,x19,-⟩:=ax HB.out (Ext.refl _);go_wp2_with fail;refine(C5.out _).mono ?_;rintro e v5⟨rfl,hx1⟩;replace HX:=HX.qt hx1;replace HB:=qh (HB.out.ext hx1);clear x0 x5 x6 x7 x8 x9 x10 x11 x12 x13 x14 x15 x16 x17 x18 x19;clear hx1 C5;obtain⟨x0,-,-,-,-,x5,x6,x7,x8,x9,x10,x11,x12,x13,x14,x15,x16,x17,x18,x19,-⟩:=ax HB.out (Ext.refl _);go_wp2_with fail;refine(C6.out _).mono ?_;rintro e v6⟨rfl,hx1⟩;replace HX:=HX.qt hx1;replace HB:=qh (HB.out.ext hx1);clear x0 x5 x6 x7 x8 x9 x10 x11 x12 x13 x14 x15 x16 x17 x18 x19;clear hx1 C6;obtain⟨x0,-,-,-,-,x5,x6,x7,x8,x9,x10,x11,x12,x13,x14,x15,x16,x17,x18,x19,-⟩:=ax HB.out (Ext.refl _);go_wp2_with fail;refine(C7.out _).mono ?_;rintro e v7⟨rfl,hx1⟩;replace HX:=HX.qt hx1;replace HB:=qh (HB.out.ext hx1);clear x0 x5 x6 x7 x8 x9 x10 x11 x12 x13 x14 x15 x16 x17 x18 x19;clear hx1 C7;obtain⟨x0,-,-,-,-,x5,x6,x7,x8,x9,x10,x11,x12,x13,x14,x15,x16,x17,x18,x19,-⟩:=ax HB.out (Ext.refl _);go_wp2_with fail;refine(C8.out _).mono ?_;rintro e v8⟨rfl,hx1⟩;replace HX:=HX.qt hx1;replace HB:=qh (HB.out.ext hx1);clear x0 x5 x6 x7 x8 x9 x10 x11 x12 x13 x14 x15 x16 x17 x18 x19;clear hx1 C8;obtain⟨x0,-,-,-,-,x5,x6,x7,x8,x9,x10,x11,x12,x13,x14,x15,x16,x17,x18,x19,-⟩:=ax HB.out (Ext.refl _);go_wp2_with fail;refine(C9.out _).mono ?_;rintro e v9⟨rfl,hx1⟩;replace HX:=HX.qt hx1;replace HB:=qh (HB.out.ext hx1);clear x0 x5 x6 x7 x8 x9 x10 x11 x12 x13 x14 x15 x16 x17 x18 x19;clear hx1 C9;obtain⟨x0,-,-,-,-,x5,x6,x7,x8,x9,x10,x11,x12,x13,x14,x15,x16,x17,x18,x19,-⟩:=ax HB.out (Ext.refl _);go_wp2_with fail;refine(C10.out _).mono ?_;rintro e v10⟨rfl,hx1⟩;replace HX:=HX.qt hx1;replace HB:=qh (HB.out.ext hx1);clear x0 x5 x6 x7 x8 x9 x10 x11 x12 x13 x14 x15 x16 x17 x18 x19;clear hx1 C10;obtain⟨-,-,-,-,-,-,-,-,-,-,-,-,-,-,-,-,-,-,x18,x19,-⟩:=ax HB.out (Ext.refl _);obtain hN|hN|hN|hN:ps.length≤4∨(4<ps.length∧ps.length≤64)∨(64<ps.length∧ps.length≤66)∨66<ps.length:=by omega
 all_goals obtain hM|hM|hM|hM:os.length≤3∨(3<os.length∧os.length≤8)∨(8<os.length∧os.length≤10)∨10<os.length:=by omega
 all_goals
  first|have p4:decide ((4:Int)<(ps.length:Int))=true:=by rw[decide_eq_true_iff];omega|have p4:decide ((4:Int)<(ps.length:Int))=false:=by rw[decide_eq_false_iff_not];omega
  first|have p64:decide ((ps.length:Int)≤64)=true:=by rw[decide_eq_true_iff];omega|have p64:decide ((ps.length:Int)≤64)=false:=by rw[decide_eq_false_iff_not];omega
  first|have p66:decide ((66:Int)<(ps.length:Int))=true:=by rw[decide_eq_true_iff];omega|have p66:decide ((66:Int)<(ps.length:Int))=false:=by rw[decide_eq_false_iff_not];omega
  first|have q3:decide ((3:Int)<(os.length:Int))=true:=by rw[decide_eq_true_iff];omega|have q3:decide ((3:Int)<(os.length:Int))=false:=by rw[decide_eq_false_iff_not];omega
  first|have q8:decide ((os.length:Int)≤8)=true:=by rw[decide_eq_true_iff];omega|have q8:decide ((os.length:Int)≤8)=false:=by rw[decide_eq_false_iff_not];omega
  first|have q10:decide ((10:Int)<(os.length:Int))=true:=by rw[decide_eq_true_iff];omega|have q10:decide ((10:Int)<(os.length:Int))=false:=by rw[decide_eq_false_iff_not];omega
  go_wp2_with fail;try (go_ret;exact gG HX.out)
 all_goals
  have hN66:Hid (ps.length≤66):=qh (by omega);have hM10:Hid (os.length≤10):=qh (by omega);clear p4 p64 p66 q3 q8 q10 hN hM x18 x19;go_loopw [3] (fun i wr=>∃k:Nat,k≤ps.length∧i = .int .i64 k∧(∀x ∈ ps.take k,x.num.length≤30∧x.den.length≤13)∧Ext w wr∧Blk wr w.heap.size 30 (aj f (ag pa ps.length pc) (ag oa os.length oq))) (fun i _=>ps.length-(intOf i).toNat)
  case atStart=>exact⟨0,by omega,rfl,by simp,HX.out,HB.out⟩
  case round =>
   clear HX HB;obtain⟨k,hk,rfl,hz,hx,hb⟩:=hrel;have HX:=qh hx;have HB:=qh hb;have HZ:=qh hz;clear hx hb hz;obtain⟨-,-,-,-,-,-,-,-,-,-,-,-,-,-,-,-,-,-,x18,x19,-⟩:=ax HB.out (Ext.refl _);by_cases hlt:k<ps.length
   ·obtain⟨b,o,rfl,hb,c0,c1⟩:=(HP.out.ext HX.out).at_ hlt;have hki:(k:Int)<(ps.length:Int):=by omega
    have hk0:(0:Int)≤(k:Int):=by omega
    have HNx:Hid (((ps[k]'hlt).num.length≤30∧(ps[k]'hlt).den.length≤13)→∀x ∈ ps.take (k+1),x.num.length≤30∧x.den.length≤13):=qh (fun h x hx=>by
     rw[List.take_succ_eq_append_getElem hlt]at hx;rcases List.mem_append.1 hx with hx|hx
     ·exact HZ.out x hx
     ·rw[List.mem_singleton]at hx;rw[hx];exact h)
    generalize ps[k]'hlt=y at *;obtain⟨lt,qt⟩:=y;dsimp only at c0 c1 HNx;by_cases hl:30<lt.length
    ·have g:decide ((30:Int)<(lt.length:Int))=true:=by rw[decide_eq_true_iff];omega
     clear HNx HG HP HO;go_wp2_with fail;go_ret;exact gG HX.out
    have g:decide ((30:Int)<(lt.length:Int))=false:=by rw[decide_eq_false_iff_not];omega
    have LG:=qh (cH qt);have hll:Hid (lt.length≤30):=qh (by omega);have hqq:=qh (fun h:cO qt=false=>nh h);generalize cO qt=lq at *;clear hl;go_wp2_with fail;refine(LG.out _).mono ?_;rintro e v5⟨rfl,hx1⟩;replace HX:=HX.qt hx1;replace HB:=qh (HB.out.ext hx1);clear hx1 c0 c1 x18 x19 hb
    cases lq
    ·have hz1:=qh (HNx.out ⟨hll.out,hqq.out (by trivial)⟩);clear HNx hll hqq LG;go_wp2_with fail;exact⟨⟨k+1,by omega,by go_num,hz1.out,HX.out,HB.out⟩,by simp[intOf];omega⟩
    ·clear HNx hll hqq LG HG HP HO;go_wp2_with fail;go_ret;exact gG HX.out
   ·have hke:k=ps.length:=by omega
    subst hke;have HP2:=qh HZ.out;rw[List.take_length]at HP2;replace HG:=qh (HG.out ⟨hN66.out,HP2.out⟩);have hki:¬ ((ps.length:Int)<(ps.length:Int)):=by omega
    clear hlt hk HZ HP2 HP hN66;go_wp2_with fail;clear x18 x19;go_loopw [4,5] (fun i _ wr=>∃k:Nat,k≤os.length∧i = .int .i64 k∧(∀x ∈ os.take k,lz 24 x)∧Ext w wr∧Blk wr w.heap.size 30 (aj f (ag pa ps.length pc) (ag oa os.length oq))) (fun i _ _=>os.length-(intOf i).toNat)
    case atStart=>exact⟨0,by omega,rfl,by simp,HX.out,HB.out⟩
    case round =>
     clear HX HB;obtain⟨k,hk,rfl,hz,hx,hb⟩:=hrel;have HX:=qh hx;have HB:=qh hb;have HZ:=qh hz;clear hx hb hz;obtain⟨-,-,-,-,-,-,-,-,-,-,-,-,-,-,-,-,-,-,x18,x19,-⟩:=ax HB.out (Ext.refl _);by_cases hlt:k<os.length
     ·obtain⟨b,o,rfl,hb,c0,c1,c2,c3,c4,c5,c6⟩:=(HO.out.ext HX.out).at_ hlt;have hki:(k:Int)<(os.length:Int):=by omega
      have hk0:(0:Int)≤(k:Int):=by omega
      have HNx:Hid (lz 24 (os[k]'hlt)→∀x ∈ os.take (k+1),lz 24 x):=qh (fun h x hx=>by
       rw[List.take_succ_eq_append_getElem hlt]at hx;rcases List.mem_append.1 hx with hx|hx
       ·exact HZ.out x hx
       ·rw[List.mem_singleton]at hx;rw[hx];exact h)
      generalize os[k]'hlt=y at *;obtain⟨ot,⟨rn,rd⟩,⟨pn,pd⟩,⟨vn,vd⟩⟩:=y;dsimp only at c0 c1 c2 c3 c4 c5 c6;have HOB:=qh (Blk.new wr 154 (oc ⟨ot,⟨rn,rd⟩,⟨pn,pd⟩,⟨vn,vd⟩⟩));replace HX:=qh (HX.out.alloc (.cells (oc ⟨ot,⟨rn,rd⟩,⟨pn,pd⟩,⟨vn,vd⟩⟩) 154));replace HB:=qh (HB.out.alloc (.cells (oc ⟨ot,⟨rn,rd⟩,⟨pn,pd⟩,⟨vn,vd⟩⟩) 154));obtain⟨r0,r1,r2,r3,r4,r5,r6⟩:=jV HOB.out (Ext.refl _);by_cases hl:24<ot.length
      ·have g:decide ((24:Int)<(ot.length:Int))=true:=by rw[decide_eq_true_iff];omega
       clear HNx HG HO;go_wp2_with fail;go_ret;exact gG HX.out
      have g:decide ((24:Int)<(ot.length:Int))=false:=by rw[decide_eq_false_iff_not];omega
      have hll:Hid (ot.length≤24):=qh (by omega);have L1:=qh (fun W=>dQ ⟨rn,rd⟩ W);have L2:=qh (fun W=>dQ ⟨pn,pd⟩ W);have L3:=qh (fun W=>dQ ⟨vn,vd⟩ W)
      have hF:Hid (cC ⟨rn,rd⟩=false→cC ⟨pn,pd⟩=false→cC ⟨vn,vd⟩=false→lz 24 ⟨ot,⟨rn,rd⟩,⟨pn,pd⟩,⟨vn,vd⟩⟩):=qh (fun a b c=>by
       have a':=jJ a;have b':=jJ b;have c':=jJ c;have d':=hll.out;dsimp only at a' b' c';exact⟨by dsimp only;omega,by dsimp only;omega,by dsimp only;omega,by dsimp only;omega,by dsimp only;omega,by dsimp only;omega,by dsimp only;omega⟩)
      generalize cC ⟨rn,rd⟩=l1 at *;generalize cC ⟨pn,pd⟩=l2 at *;generalize cC ⟨vn,vd⟩=l3 at *;clear hl hll;go_wp2_with fail;refine(L1.out _).mono ?_;rintro e v5⟨rfl,hx1⟩;replace HX:=HX.qt hx1;replace HB:=qh (HB.out.ext hx1);replace HOB:=qh (HOB.out.ext hx1);clear hx1 c0 c1 c2 c3 c4 c5 c6 x18 x19 hb r0 r1 r2 r3 r4 r5 r6 L1
      cases l1;rotate_left
      ·clear HNx HG HO hF L2 L3;go_wp2_with fail;go_ret;exact gG HX.out
      obtain⟨r0,r1,r2,r3,r4,r5,r6⟩:=jV HOB.out (Ext.refl _);go_wp2_with fail;refine(L2.out _).mono ?_;rintro e v6⟨rfl,hx1⟩;replace HX:=HX.qt hx1;replace HB:=qh (HB.out.ext hx1);replace HOB:=qh (HOB.out.ext hx1);clear hx1 r0 r1 r2 r3 r4 r5 r6 L2
      cases l2;rotate_left
      ·clear HNx HG HO hF L3;go_wp2_with fail;go_ret;exact gG HX.out
      obtain⟨r0,r1,r2,r3,r4,r5,r6⟩:=jV HOB.out (Ext.refl _);go_wp2_with fail;refine(L3.out _).mono ?_;rintro e v7⟨rfl,hx1⟩;replace HX:=HX.qt hx1;replace HB:=qh (HB.out.ext hx1);clear hx1 r0 r1 r2 r3 r4 r5 r6 L3 HOB
      cases l3;rotate_left
      ·clear HNx HG HO hF;go_wp2_with fail;go_ret;exact gG HX.out
      have hz1:=qh (HNx.out (hF.out (by trivial) (by trivial) (by trivial)));clear HNx hF;go_wp2_with fail;exact⟨⟨k+1,by omega,by go_num,hz1.out,HX.out,HB.out⟩,by simp[intOf];omega⟩
     ·have hke:k=os.length:=by omega
      subst hke;have HP2:=qh HZ.out;rw[List.take_length]at HP2;replace HG:=qh (HG.out ⟨hM10.out,HP2.out⟩);have hki:¬ ((os.length:Int)<(os.length:Int)):=by omega
      clear hlt hk HZ HP2 HO hM10;go_wp2_with fail;go_ret;exact⟨⟨false,rfl,fun _=>HG.out⟩,HX.out⟩
end
section
open Go.RowKit
attribute [local go_sem] size_bs toList_bs
def Ix(ls:List LotV)(f:FactV)(ps:List Fr)(os:List OptV)(w:World)(e:Ending)(w':World):Prop:=(∃b,e = .returned (.bool b)∧(b=false→dv ls=false∧GreatNo f ps os))∧Ext w w'
theorem FM(ls:List LotV)(A:Option Addr)(c:Nat)(f:FactV)(ps:List Fr)(os:List OptV)(pa oa:Option Addr)(pc oq:Nat)(w:World)(hA:bv w A ls)(hP:fI w pa ps)(hO:nI w oa os)(hn:ps.length≤4611686018427387904)(hm:os.length≤4611686018427387904)(hl:ls.length≤4611686018427387904) :
  Calls Tryz.prog 10 #[.slice A ls.length c,aL f (ag pa ps.length pc) (ag oa os.length oq)] w (Ix ls f ps os w):=by
 have HB:=qh (Blk.new w 30 (aj f (ag pa ps.length pc) (ag oa os.length oq)));have HX:Hid (Ext w (w.alloc (.cells (aj f (ag pa ps.length pc) (ag oa os.length oq)) 30))):=qh (Ext.new _ _);have RG:=qh (CB ls A c _ (hA.ext HX.out) (by omega));have FG:=qh (fun W (hx:Ext w W)=>FL f ps os pa oa pc oq W (hP.ext hx) (hO.ext hx) hn hm);have hs1:(Tryz.prog.info? 30).map (·.size)=some (aj f (ag pa ps.length pc) (ag oa os.length oq)).toList.length:=by kernel_rfl
 have HGA:=qh (fun h:dv ls=false=>h);generalize hga:dv ls=ga at *;have HG0:=qh hga;clear hga HGA;clear hA hP hO;go_enter Tryz.func10,Tryz.ntmps10;go_wp2_with fail;refine RG.out.mono ?_;rintro e v1⟨rfl,hx1⟩;replace HX:=HX.qt hx1;replace HB:=qh (HB.out.ext hx1);clear hx1 RG;have hrg:=aW HB.out
 cases ga
 ·go_wp2_with (first|refine cD (by kernel_rfl) 30 _ rfl w.heap.size 0 rfl _ _ hrg Tryz.underlying30 rfl hs1 ?_|fail);refine(FG.out _ HX.out).mono ?_;rintro e v2⟨⟨b,rfl,hb⟩,hx1⟩;replace HX:=HX.qt hx1;have hb2:=qh (fun h=>And.intro HG0.out (hb h));clear hx1 hb hrg
  cases b
  ·go_wp2_with fail;go_ret;exact⟨⟨false,rfl,fun _=>hb2.out (by trivial)⟩,HX.out⟩
  ·go_wp2_with fail;go_ret;exact⟨⟨true,rfl,fun h=>by cases h⟩,HX.out⟩
 ·clear hrg;go_wp2_with fail;go_ret;exact⟨⟨true,rfl,fun h=>by cases h⟩,HX.out⟩
structure LawIn (w:World) (ls:List LotV) (A:Option Addr) (f:FactV) (ps:List Fr) (os:List OptV) (pa oa:Option Addr) (pc:Nat):Prop where
 la:bv w A ls
 rp:fI w pa ps
 cp:ps.length≤pc
 ro:nI w oa os
 wf:(Lit.int .i64 f.kind).wf=true
 nl:ls.length≤4611686018427387904
 np:ps.length≤4611686018427387904
 no:os.length≤4611686018427387904
theorem LawIn.fact{w:World}{ls:List LotV}{A:Option Addr}{f:FactV}{ps:List Fr}{os:List OptV}{pa oa:Option Addr}{pc:Nat}(h:LawIn w ls A f ps os pa oa pc)(n:GreatNo f ps os):FactAt w f ps os pa oa pc:=by
 obtain⟨n0,n1,n2,n3,n4,n5,n6,n7,n8,n9,n10,n11,n12,n13,n14⟩:=n;refine⟨⟨by omega,by omega,by omega,by omega,by omega,by omega,by omega,by omega,by omega,by omega,by omega,by omega,by omega,by omega⟩,h.rp,fun p hp=>?_,by omega,h.cp,h.ro,fun o ho=>?_,by omega⟩
 ·have:=n12 p hp;omega
 ·obtain⟨s0,s1,s2,s3,s4,s5,s6⟩:=n14 o ho;exact⟨by omega,by omega,by omega,by omega,by omega,by omega,by omega⟩
end
section
open Go.RowKit Go.Shelf
attribute [local go_sem] size_bs toList_bs
structure SellGo (ls:List LotV) (f:FactV) (ps:List Fr) (os:List OptV) (m:Int):Prop where
 inn:SelIn ls f ps os
 n1:1≤m.toNat
 n6:m.toNat≤6
 m_:((m.toNat:Nat):Int)=m
 q:valI f.qty≤aH ls f.ins
theorem ni(ls:List LotV)(f:FactV)(ps:List Fr)(os:List OptV)(k:Int):(aA ls≠0∨cA f ps os≠0)∧gX ls f ps os k=1∨(aA ls=0∧cA f ps os=0∧f.kind≠k∧gX ls f ps os k=7)∨(aA ls=0∧cA f ps os=0∧f.kind=k∧gX ls f ps os k=0):=by
 unfold gX;by_cases h1:aA ls≠0∨cA f ps os≠0
 ·rw[if_pos h1];exact .inl ⟨h1,rfl⟩
 ·rw[if_neg h1]
  have a:aA ls=0:=by
   by_cases h:aA ls=0
   ·exact h
   ·exact absurd (.inl h) h1
  have b:cA f ps os=0:=by
   by_cases h:cA f ps os=0
   ·exact h
   ·exact absurd (.inr h) h1
  by_cases h2:f.kind=k
  ·rw[if_neg (by simpa using h2)];exact .inr (.inr ⟨a,b,h2,rfl⟩)
  ·rw[if_pos h2];exact .inr (.inl ⟨a,b,h2,rfl⟩)
theorem DK{ls:List LotV}{f:FactV}{ps:List Fr}{os:List OptV}{m:Int}(hG:dv ls=false)(h:fW ls f ps os m=0):SellGo ls f ps os m:=by
 unfold fW at h;split at h
 ·rename_i h1;exact absurd h h1
 rename_i h1
 split at h
 ·exact absurd h (by decide)
 rename_i h2
 split at h
 ·exact absurd h (by decide)
 rename_i h3
 have h1':gX ls f ps os 4=0:=by
  by_cases g:gX ls f ps os 4=0
  ·exact g
  ·exact absurd g h1
 rcases ni ls f ps os 4 with ⟨_,e⟩ | ⟨_,_,_,e⟩ | ⟨a,b,c,_⟩
 ·rw[e]at h1';exact absurd h1' (by decide)
 ·rw[e]at h1';exact absurd h1' (by decide)
 ·exact⟨⟨hG,a,b,c⟩,by omega,by omega,by omega,by omega⟩
theorem vX{ls:List LotV}{f:FactV}{ps:List Fr}{os:List OptV}{m:Int}(h:fW ls f ps os m=15):cA f ps os=0∧aH ls f.ins<valI f.qty:=by
 unfold fW at h;rcases ni ls f ps os 4 with ⟨_,e⟩ | ⟨_,_,_,e⟩ | ⟨a,b,c,e⟩
 ·rw[e,if_pos (by decide)]at h;exact absurd h (by decide)
 ·rw[e,if_pos (by decide)]at h;exact absurd h (by decide)
 ·rw[e]at h;rw[if_neg (by decide)]at h;split at h
  ·exact absurd h (by decide)
  split at h
  ·rename_i g;exact⟨b,g⟩
  ·exact absurd h (by decide)
theorem Iy(ls:List LotV)(A:Option Addr)(c:Nat)(f:FactV)(ps:List Fr)(os:List OptV)(pa oa:Option Addr)(pc oq:Nat)(m:Int)(w:World)(hE:Env w)(hA:bv w A ls)(hF:FactAt w f ps os pa oa pc)(hwf:(Lit.int .i64 f.kind).wf=true)(hG:dv ls=false)(h:fW ls f ps os m≠0) :
  Calls Tryz.prog 13 #[.slice A ls.length c,aL f (ag pa ps.length pc) (ag oa os.length oq),.int .i64 m] w fun e w'=>e = .returned (.tuple #[zR,.int .i64 (fW ls f ps os m)])∧Ext w w':=by
 have hs:=ic hG;have hn:ls.length≤100000:=by have:=(ib hG).1;omega
 by_cases h1:gX ls f ps os 4=0;rotate_left
 ·refine wT ls A c f ps os pa oa pc oq m w hE hA hF hwf hs hn _ (.inl ⟨h1,?_⟩);unfold fW;rw[if_pos h1]
 by_cases h2:m<1∨7≤m
 ·refine wT ls A c f ps os pa oa pc oq m w hE hA hF hwf hs hn _ (.inr ⟨h1,h2,?_⟩);unfold fW;rw[if_neg (by simpa using h1),if_pos h2]
 ·have h3:aH ls f.ins<valI f.qty:=by
   refine Int.not_le.1 fun g=>h ?_
   unfold fW;rw[if_neg (by simpa using h1),if_neg h2,if_neg (by omega)]
  have e:fW ls f ps os m=15:=by
   unfold fW;rw[if_neg (by simpa using h1),if_neg h2,if_pos h3]
  rcases ni ls f ps os 4 with ⟨_,e1⟩ | ⟨_,_,_,e1⟩ | ⟨a,b,c',e1⟩
  ·rw[e1]at h1;exact absurd h1 (by decide)
  ·rw[e1]at h1;exact absurd h1 (by decide)
  ·have hm:((m.toNat:Nat):Int)=m:=by omega
   have hh:=Ar ls A c f ps os pa oa pc oq m.toNat w hE hA hF ⟨hG,a,b,c'⟩ (by omega) (by omega) h3;rw[hm]at hh;rw[e];exact hh
theorem FN(ls:List LotV)(A:Option Addr)(c:Nat)(f:FactV)(ps:List Fr)(os:List OptV)(pa oa:Option Addr)(pc oq:Nat)(m:Int)(w:World)(hE:Env w)(hA:bv w A ls)(hF:FactAt w f ps os pa oa pc)(h:SellGo ls f ps os m) :
  Calls Tryz.prog 13 #[.slice A ls.length c,aL f (ag pa ps.length pc) (ag oa os.length oq),.int .i64 m] w (mE (aY ls f m.toNat ps) (cz ls f m.toNat ps) (kI ls f m.toNat ps) w):=by
 have hh:=uV ls A c f ps os pa oa pc oq m.toNat w hE hA hF h.inn h.n1 h.n6 h.q;rw[h.m_]at hh;exact hh
end
section
open Go.RowKit Go.Shelf
attribute [local go_sem] size_bs toList_bs
theorem Iz(gs:List GainV)(A:Option Addr)(c:Nat)(w:World)(hE:Env w)(hA:fG w A gs)(hs:∀g ∈ gs,g.q.length≤4000∧g.p.length≤4000∧g.c.length≤4000)(hn:gs.length≤100000) :
  Calls Tryz.prog 17 #[.slice A gs.length c] w fun e w'=>e = .returned (.tuple #[.string (bs (af (aI (·.q) gs))),.string (bs (af (aI (·.p) gs))),.string (bs (af (aI (·.c) gs)))])∧Ext w w':=by
 have HE:=qh hE;have HA:=qh hA;have HS:=qh hs;have HL1:=qh (eD (f:=(·.q)) (L:=4000) (fun g hg=>(hs g hg).1) hn);have HL2:=qh (eD (f:=(·.p)) (L:=4000) (fun g hg=>(hs g hg).2.1) hn);have HL3:=qh (eD (f:=(·.c)) (L:=4000) (fun g hg=>(hs g hg).2.2) hn);clear hE hA hs;go_enter Tryz.func17,Tryz.ntmps17;go_wp2_with fail;go_loopw [12,5,6,7] (fun i v6 v7 v8 wr=>∃k:Nat,k≤gs.length∧i = .int .i64 k∧v6 = .string (bs (af (aI (·.q) (gs.take k))))∧v7 = .string (bs (af (aI (·.p) (gs.take k))))∧v8 = .string (bs (af (aI (·.c) (gs.take k))))∧Ext w wr) (fun i _ _ _ _=>gs.length-(intOf i).toNat)
 case atStart=>exact⟨0,by omega,rfl,by simp[aI,de.2 rfl];rfl,by simp[aI,de.2 rfl];rfl,by simp[aI,de.2 rfl];rfl,Ext.refl _⟩
 case round =>
  obtain⟨k,hk,rfl,rfl,rfl,rfl,hx⟩:=hrel;have HX:=qh hx;clear hx;by_cases hlt:k<gs.length
  ·obtain⟨b,o,rfl,hb,c0,c1,c2,c3,c4,c5,c6,c7,c8,c9⟩:=(HA.out.ext HX.out).at_ hlt;have hki:(k:Int)<(gs.length:Int):=by omega
   have hk0:(0:Int)≤(k:Int):=by omega
   have hsm:=HS.out _ (List.getElem_mem hlt);have l1:=HL1.out k;have l2:=HL2.out k;have l3:=HL3.out k;have a1:=eS (af (aI (·.q) (gs.take k))) (gs[k]'hlt).q (by omega) (by have:=hsm.1;omega);have a2:=eS (af (aI (·.p) (gs.take k))) (gs[k]'hlt).p (by omega) (by have:=hsm.2.1;omega);have a3:=eS (af (aI (·.c) (gs.take k))) (gs[k]'hlt).c (by omega) (by have:=hsm.2.2;omega);rw[ah,←gD (f:=(·.q)) hlt]at a1;rw[ah,←gD (f:=(·.p)) hlt]at a2;rw[ah,←gD (f:=(·.c)) hlt]at a3;have A1:=qh a1;have A2:=qh a2;have A3:=qh a3;clear hsm l1 l2 l3 a1 a2 a3;have HG:=qh (Blk.new wr 60 (dr (gs[k]'hlt)));replace HX:=qh (HX.out.alloc (.cells (dr (gs[k]'hlt)) 60));generalize (gs[k]'hlt)=x at *;generalize hq1:af (aI (·.q) (gs.take (k+1)))=q1 at *;generalize hq2:af (aI (·.p) (gs.take (k+1)))=q2 at *;generalize hq3:af (aI (·.c) (gs.take (k+1)))=q3 at *;have HQ1:=qh hq1;have HQ2:=qh hq2;have HQ3:=qh hq3;clear hq1 hq2 hq3;generalize af (aI (·.q) (gs.take k))=z1 at *;generalize af (aI (·.p) (gs.take k))=z2 at *;generalize af (aI (·.c) (gs.take k))=z3 at *;obtain⟨gk,gl,gi,ga,gc',gq,gp,gco,gd,gr⟩:=x;simp only at *;go_upto_region 5 with fail;clear c0 c1 c2 c3 c4 c5 c6 c7 c8 c9;generalize wr.alloc (.cells #[.string (bs gk),.string (bs gl),.string (bs gi),.int .i64 ga,.int .i64 gc',.string (bs gq),.string (bs gp),.string (bs gco),.string (bs gd),.string (bs gr)] 60)=W at *;generalize wr.heap.size=G at *;obtain⟨_,_,_,_,_,p5,p6,p7,_,_⟩:=be HG.out (Ext.refl _);have HD:Hid (Ext W W.drew):=qh (Ext.refl W).drew
   go_region_held3 (fun w'=>w'.cell? ⟨G,5,none⟩=some (.string (bs gq))∧w'.cell? ⟨G,6,none⟩=some (.string (bs gp))∧w'.cell? ⟨G,7,none⟩=some (.string (bs gco)))
    (go_keep)
    (first
     |(go_at_call 19;((with_reducible refine(A1.out _ (HE.out.ext (HX.out.trans HD.out))).mono ?_);rintro e w5⟨rfl,hx⟩);(replace HD:=HD.qt hx);(obtain⟨_,_,_,_,_,p5,p6,p7,_,_⟩:=be HG.out HD.out);clear hx)
     |(go_at_call 19;((with_reducible refine(A2.out _ (HE.out.ext (HX.out.trans HD.out))).mono ?_);rintro e w5⟨rfl,hx⟩);(replace HD:=HD.qt hx);(obtain⟨_,_,_,_,_,p5,p6,p7,_,_⟩:=be HG.out HD.out);clear hx)
     |(go_at_call 19;((with_reducible refine(A3.out _ (HE.out.ext (HX.out.trans HD.out))).mono ?_);rintro e w5⟨rfl,hx⟩);(replace HD:=HD.qt hx);(obtain⟨_,_,_,_,_,p5,p6,p7,_,_⟩:=be HG.out HD.out);clear hx)
     |fail)
   all_goals
    go_wp2_with fail;exact⟨⟨k+1,by omega,by go_num,by rw[HQ1.out],by rw[HQ2.out],by rw[HQ3.out],HX.out.trans HD.out⟩,by simp[intOf];omega⟩
  ·have hkk:k=gs.length:=by omega
   subst hkk;rw[List.take_length];go_wp2_with fail;go_ret3
   exact⟨rfl,HX.out⟩
def fp(ls:List LotV)(ins:Bs):List LotV:=ls.filter (fun x=>decide (x.ins≠ins))
theorem uW(ls:List LotV)(A:Option Addr)(c:Nat)(ins:Bs)(w:World)(hA:bv w A ls)(hn:ls.length≤100000) :
  Calls Tryz.prog 21 #[.slice A ls.length c,.string (bs ins)] w fun e w'=>(∃A' c',e = .returned (.slice A' (fp ls ins).length c')∧bv w' A' (fp ls ins))∧Ext w w':=by
 have HA:=qh hA;obtain⟨i0,hI,hz0,hz1,hz2⟩:=info_parts mq;have HI:=qh hI;clear hA hI;go_enter Tryz.func21,Tryz.ntmps21;go_wp2_with fail;go_loopw [10,5] (fun i v wr=>∃k A5 c5,k≤ls.length∧i = .int .i64 (k:Nat)∧v = .slice A5 (fp (ls.take k) ins).length c5∧mS wr w.heap.size v (fp (ls.take k) ins)∧Ext w wr) (fun i _ _=>ls.length-(intOf i).toNat)
 case atStart=>exact⟨0,none,0,by omega,rfl,rfl,World.ownsRow_nil _ _ _ _,Ext.refl _⟩
 case round =>
  obtain⟨k,A5,c5,hk,rfl,rfl,ho,hx⟩:=hrel;have HX:=qh hx;have HO:=qh ho;clear hx ho;by_cases hlt:k<ls.length
  ·obtain⟨b,o,rfl,hb,d0,d1,d2,d3,d4,d5,d6⟩:=(HA.out.ext HX.out).at_ hlt;have hki:(k:Int)<(ls.length:Int):=by omega
   have hk0:(0:Int)≤(k:Int):=by omega
   have hstep:fp (ls.take (k+1)) ins=fp (ls.take k) ins++(if(ls[k]'hlt).ins=ins then [] else [ls[k]'hlt]):=by
    unfold fp;rw[List.take_succ_eq_append_getElem hlt,List.filter_append];congr 1
    by_cases h:(ls[k]'hlt).ins=ins <;> simp[h]
   have hkl:(fp (ls.take k) ins).length≤100000:=by
    have h1:(fp (ls.take k) ins).length≤(ls.take k).length:=List.length_filter_le _ _;rw[List.length_take]at h1;omega
   generalize (ls[k]'hlt)=x at *;obtain⟨xi,xn,xa,xo,xq,xc,xu⟩:=x;simp only at d0 d1 d2 d3 d4 d5 d6 hstep;have BX:=qh (Blk.new wr 62 (lc ⟨xi,xn,xa,xo,xq,xc,xu⟩));have HX3:=qh (HX.out.trans (Ext.new wr (.cells (lc ⟨xi,xn,xa,xo,xq,xc,xu⟩) 62)));have HO3:=qh (own_ext2 HO.out (Ext.new wr (.cells (lc ⟨xi,xn,xa,xo,xq,xc,xu⟩) 62)));go_upto_region 5 with fail;generalize wr.alloc (.cells #[.string (bs xi),.string (bs xn),.int .i64 xa,.int .i64 xo,.string (bs xq),.string (bs xc),.string (bs xu)] 62)=w5 at *;generalize wr.heap.size=X8 at *;obtain⟨x0,x1,x2,x3,x4,x5,x6⟩:=az BX.out (Ext.refl _);clear d0 d1 d2 d3 d4 d5 d6 HO HX;by_cases hi:xn=ins
   ·rw[if_pos hi,List.append_nil]at hstep;have HE5:=qh hstep;have hbe:(xn != ins)=false:=by rw[bne_eq_false_iff_eq];exact hi
    have hbe2:(xn == ins)=true:=by rw[beq_iff_eq];exact hi
    clear hstep hi;go_wp2_with fail;go_roundw
    case rel=>exact⟨k+1,A5,c5,by omega,by go_num,by rw[HE5.out],by rw[HE5.out];exact HO3.out,HX3.out⟩
    case measure=>simp[intOf];omega
   ·rw[if_neg hi]at hstep;have HE5:=qh hstep;have hbe:(xn != ins)=true:=by rw[bne_iff_ne];exact hi
    have hbe2:(xn == ins)=false:=by rw[beq_eq_false_iff_ne];exact hi
    clear hstep hi;have HO4:=qh (own_ext2 HO3.out (Ext.new w5 (.cells #[.string (bs xi),.string (bs xn),.int .i64 xa,.int .i64 xo,.string (bs xq),.string (bs xc),.string (bs xu)] 62)));have HX4:=qh (HX3.out.trans (Ext.new w5 (.cells #[.string (bs xi),.string (bs xn),.int .i64 xa,.int .i64 xo,.string (bs xq),.string (bs xc),.string (bs xu)] 62)));have hsz:=HX4.out.size;have hlow:=mD HO4.out;go_upto_region 6 with fail;go_wp2_with (at_builtin;go_must (refine wpList_append_own _ rfl (.tmp 18) (.tmp 20) 22 rfl w.heap.size 62 i0 _ 7 96 Tryz.underlying22 HI.out hz0 hz1 hz2 rfl (by decide) _ _ _ rfl HO4.out ⟨w5.heap.size,0,none⟩ 1 1 (ay ⟨xi,xn,xa,xo,xq,xc,xu⟩) rfl rfl (World.news_of_block (heap_alloc_new w5 _)) (nT _) (by simp only[maxLen];omega) (by omega) hsz ?_);intro v2 w' hown' hgrow hnil;(obtain⟨A3,c3,rfl⟩:=bz hown');clear hnil;(have HO5:=qh hown');(have HX5:=qh (HX4.out.grown hgrow hlow)));go_roundw
    case rel=>exact⟨k+1,A3,c3,by omega,by go_num,by rw[HE5.out,List.length_append];rfl,by
     unfold mS;rw[HE5.out,List.length_append,tX];have e1:bQ [(⟨xi,xn,xa,xo,xq,xc,xu⟩:LotV)]=ay ⟨xi,xn,xa,xo,xq,xc,xu⟩:=by simp[bQ]
     rw[e1];exact HO5.out,HX5.out⟩
    case measure=>simp[intOf];omega
  ·have hke:k=ls.length:=by omega
   subst hke;have hki:¬ ((ls.length:Int)<(ls.length:Int)):=by omega
   rw[List.take_length]at HO;go_wp2_with fail;go_ret;exact⟨⟨A5,⟨c5,rfl⟩,Reads.own HO.out⟩,HX.out⟩
end
section
open Go.ChangeShapes Go.WideShapes Go.ChangeAt Go.RowKit Go.Deep Go.Joins
instance:Inhabited OptV:=⟨⟨[],⟨[],[]⟩,⟨[],[]⟩,⟨[],[]⟩⟩⟩
section
variable {w:World} {base:Nat} {spare:Nat→Bool} {held:Bool} {H:Type} {enc:TypeId × Value→H}
theorem iW{n:Nat}{cs:List Value}{y:DataW H × List MemPlace}(h:DataW.trod enc Tryz.prog w base spare held n 26 cs=some y):∃f:Fr,cs=[.string (bs f.num),.string (bs f.den)]:=by
 obtain⟨xs,n,_,_,hlen,hl,hg⟩:=DataW.trod_struct Tryz.underlying26 h;rw[show Tryz.prog.cellsOf 26=2 by kernel_rfl]at hlen;have hc:Tryz.prog.cellsOf 24=1:=by kernel_rfl
 match cs,hlen,xs,hl with
 |[c0,c1],_,[y0,y1],_ =>
  have g0:DataW.trod enc Tryz.prog w base spare held n 24 (([c0,c1].drop 0).take (Tryz.prog.cellsOf 24))=some y0:=hg 0 _ rfl;have g1:DataW.trod enc Tryz.prog w base spare held n 24 (([c0,c1].drop 1).take (Tryz.prog.cellsOf 24))=some y1:=hg 1 _ rfl;rw[hc]at g0 g1;obtain⟨s0,e0,_⟩:=DataW.trod_string Tryz.underlying24 (x:=y0) (by simpa using g0);obtain⟨s1,e1,_⟩:=DataW.trod_string Tryz.underlying24 (x:=y1) (by simpa using g1);simp at e0 e1;subst e0;subst e1;exact⟨⟨L s0,L s1⟩,by simp[bs_L]⟩
theorem vY{n:Nat}{cs:List Value}{y:DataW H × List MemPlace}(h:DataW.trod enc Tryz.prog w base spare held n 154 cs=some y):∃o:OptV,cs=gw o:=by
 obtain⟨xs,n,_,_,hlen,hl,hg⟩:=DataW.trod_struct Tryz.underlying154 h;rw[show Tryz.prog.cellsOf 154=7 by kernel_rfl]at hlen;have hc:Tryz.prog.cellsOf 9=1:=by kernel_rfl
 have hf:Tryz.prog.cellsOf 26=2:=by kernel_rfl
 match cs,hlen,xs,hl with
 |[c0,c1,c2,c3,c4,c5,c6],_,[y0,y1,y2,y3],_ =>
  have g0:DataW.trod enc Tryz.prog w base spare held n 9 (([c0,c1,c2,c3,c4,c5,c6].drop 0).take (Tryz.prog.cellsOf 9))=some y0:=hg 0 _ rfl;have g1:DataW.trod enc Tryz.prog w base spare held n 26 (([c0,c1,c2,c3,c4,c5,c6].drop 1).take (Tryz.prog.cellsOf 26))=some y1:=hg 1 _ rfl;have g2:DataW.trod enc Tryz.prog w base spare held n 26 (([c0,c1,c2,c3,c4,c5,c6].drop 3).take (Tryz.prog.cellsOf 26))=some y2:=hg 2 _ rfl;have g3:DataW.trod enc Tryz.prog w base spare held n 26 (([c0,c1,c2,c3,c4,c5,c6].drop 5).take (Tryz.prog.cellsOf 26))=some y3:=hg 3 _ rfl;rw[hc]at g0;rw[hf]at g1 g2 g3;obtain⟨s0,e0,_⟩:=DataW.trod_string Tryz.underlying9 (x:=y0) (by simpa using g0);obtain⟨f1,e1⟩:=iW (y:=y1) (by simpa using g1);obtain⟨f2,e2⟩:=iW (y:=y2) (by simpa using g2);obtain⟨f3,e3⟩:=iW (y:=y3) (by simpa using g3);simp at e0 e1 e2 e3;obtain⟨rfl,rfl⟩:=e1;obtain⟨rfl,rfl⟩:=e2;obtain⟨rfl,rfl⟩:=e3;subst e0;exact⟨⟨L s0,f1,f2,f3⟩,by simp[gw,bs_L]⟩
end
end
section
open Go.ChangeShapes Go.WideShapes Go.ChangeAt Go.RowKit Go.Deep Go.Joins
instance:Inhabited Fr:=⟨⟨[],[]⟩⟩
structure FactIn (w:World) (f:FactV) (ps:List Fr) (os:List OptV) (pa oa:Option Addr) (pc oq:Nat):Prop where
 rp:fI w pa ps
 cp:ps.length≤pc
 ro:nI w oa os
 co:os.length≤oq
 wf:(Lit.int .i64 f.kind).wf=true
 np:ps.length≤4611686018427387904
 no:os.length≤4611686018427387904
section
variable {w:World} {base:Nat} {spare:Nat→Bool} {held:Bool} {H:Type} {enc:TypeId × Value→H}
theorem Ay{n:Nat}{cs:List Value}{y:DataW H × List MemPlace}(h:DataW.trod enc Tryz.prog w base spare held n 124 cs=some y):∃f:Fr,cs=ce f:=by
 obtain⟨xs,n,_,_,hlen,hl,hg⟩:=DataW.trod_struct Tryz.underlying124 h;rw[show Tryz.prog.cellsOf 124=2 by kernel_rfl]at hlen;have hc:Tryz.prog.cellsOf 24=1:=by kernel_rfl
 have hs:Tryz.prog.cellsOf 9=1:=by kernel_rfl
 match cs,hlen,xs,hl with
 |[c0,c1],_,[y0,y1],_ =>
  have g0:DataW.trod enc Tryz.prog w base spare held n 9 (([c0,c1].drop 0).take (Tryz.prog.cellsOf 9))=some y0:=hg 0 _ rfl;have g1:DataW.trod enc Tryz.prog w base spare held n 24 (([c0,c1].drop 1).take (Tryz.prog.cellsOf 24))=some y1:=hg 1 _ rfl;rw[hs]at g0;rw[hc]at g1;obtain⟨s0,e0,_⟩:=DataW.trod_string Tryz.underlying9 (x:=y0) (by simpa using g0);obtain⟨s1,e1,_⟩:=DataW.trod_string Tryz.underlying24 (x:=y1) (by simpa using g1);simp at e0 e1;subst e0;subst e1;exact⟨⟨L s0,L s1⟩,by simp[ce,bs_L]⟩
theorem Az{n:Nat}{cs:List Value}{y:DataW H × List MemPlace}(h:DataW.trod enc Tryz.prog w base spare held n 30 cs=some y)(hw:(y.1.weights Tryz.prog 30).all (·≤reachBytes)=true):∃(f:FactV) (ps:List Fr) (os:List OptV) (pa oa:Option Addr) (pc oq:Nat),cs=(aj f (ag pa ps.length pc) (ag oa os.length oq)).toList∧FactIn w f ps os pa oa pc oq:=by
 obtain⟨xs,n,_,hy,hlen,hl,hg⟩:=DataW.trod_struct Tryz.underlying30 h;rw[show Tryz.prog.cellsOf 30=21 by kernel_rfl]at hlen;have ht0:Tryz.prog.cellsOf 9=1:=by kernel_rfl
 have ht1:Tryz.prog.cellsOf 3=1:=by kernel_rfl
 have ht2:Tryz.prog.cellsOf 4=1:=by kernel_rfl
 have ht3:Tryz.prog.cellsOf 23=1:=by kernel_rfl
 have ht4:Tryz.prog.cellsOf 24=1:=by kernel_rfl
 have ht5:Tryz.prog.cellsOf 26=2:=by kernel_rfl
 have ht6:Tryz.prog.cellsOf 27=1:=by kernel_rfl
 have ht7:Tryz.prog.cellsOf 28=1:=by kernel_rfl
 match cs,hlen,xs,hl with
 |[c0,c1,c2,c3,c4,c5,c6,c7,c8,c9,c10,c11,c12,c13,c14,c15,c16,c17,c18,c19,c20],_,[y0,y1,y2,y3,y4,y5,y6,y7,y8,y9,y10,y11,y12,y13,y14,y15,y16,y17],_ =>
  have g0:DataW.trod enc Tryz.prog w base spare held n 9 (([c0,c1,c2,c3,c4,c5,c6,c7,c8,c9,c10,c11,c12,c13,c14,c15,c16,c17,c18,c19,c20].drop 0).take (Tryz.prog.cellsOf 9))=some y0:=hg 0 _ rfl;rw[ht0]at g0;have g1:DataW.trod enc Tryz.prog w base spare held n 3 (([c0,c1,c2,c3,c4,c5,c6,c7,c8,c9,c10,c11,c12,c13,c14,c15,c16,c17,c18,c19,c20].drop 1).take (Tryz.prog.cellsOf 3))=some y1:=hg 1 _ rfl;rw[ht1]at g1;have g2:DataW.trod enc Tryz.prog w base spare held n 4 (([c0,c1,c2,c3,c4,c5,c6,c7,c8,c9,c10,c11,c12,c13,c14,c15,c16,c17,c18,c19,c20].drop 2).take (Tryz.prog.cellsOf 4))=some y2:=hg 2 _ rfl;rw[ht2]at g2;have g3:DataW.trod enc Tryz.prog w base spare held n 23 (([c0,c1,c2,c3,c4,c5,c6,c7,c8,c9,c10,c11,c12,c13,c14,c15,c16,c17,c18,c19,c20].drop 3).take (Tryz.prog.cellsOf 23))=some y3:=hg 3 _ rfl;rw[ht3]at g3;have g4:DataW.trod enc Tryz.prog w base spare held n 3 (([c0,c1,c2,c3,c4,c5,c6,c7,c8,c9,c10,c11,c12,c13,c14,c15,c16,c17,c18,c19,c20].drop 4).take (Tryz.prog.cellsOf 3))=some y4:=hg 4 _ rfl;rw[ht1]at g4;have g5:DataW.trod enc Tryz.prog w base spare held n 9 (([c0,c1,c2,c3,c4,c5,c6,c7,c8,c9,c10,c11,c12,c13,c14,c15,c16,c17,c18,c19,c20].drop 5).take (Tryz.prog.cellsOf 9))=some y5:=hg 5 _ rfl;rw[ht0]at g5;have g6:DataW.trod enc Tryz.prog w base spare held n 9 (([c0,c1,c2,c3,c4,c5,c6,c7,c8,c9,c10,c11,c12,c13,c14,c15,c16,c17,c18,c19,c20].drop 6).take (Tryz.prog.cellsOf 9))=some y6:=hg 6 _ rfl;rw[ht0]at g6;have g7:DataW.trod enc Tryz.prog w base spare held n 9 (([c0,c1,c2,c3,c4,c5,c6,c7,c8,c9,c10,c11,c12,c13,c14,c15,c16,c17,c18,c19,c20].drop 7).take (Tryz.prog.cellsOf 9))=some y7:=hg 7 _ rfl;rw[ht0]at g7;have g8:DataW.trod enc Tryz.prog w base spare held n 9 (([c0,c1,c2,c3,c4,c5,c6,c7,c8,c9,c10,c11,c12,c13,c14,c15,c16,c17,c18,c19,c20].drop 8).take (Tryz.prog.cellsOf 9))=some y8:=hg 8 _ rfl;rw[ht0]at g8;have g9:DataW.trod enc Tryz.prog w base spare held n 24 (([c0,c1,c2,c3,c4,c5,c6,c7,c8,c9,c10,c11,c12,c13,c14,c15,c16,c17,c18,c19,c20].drop 9).take (Tryz.prog.cellsOf 24))=some y9:=hg 9 _ rfl;rw[ht4]at g9;have g10:DataW.trod enc Tryz.prog w base spare held n 24 (([c0,c1,c2,c3,c4,c5,c6,c7,c8,c9,c10,c11,c12,c13,c14,c15,c16,c17,c18,c19,c20].drop 10).take (Tryz.prog.cellsOf 24))=some y10:=hg 10 _ rfl;rw[ht4]at g10;have g11:DataW.trod enc Tryz.prog w base spare held n 24 (([c0,c1,c2,c3,c4,c5,c6,c7,c8,c9,c10,c11,c12,c13,c14,c15,c16,c17,c18,c19,c20].drop 11).take (Tryz.prog.cellsOf 24))=some y11:=hg 11 _ rfl;rw[ht4]at g11;have g12:DataW.trod enc Tryz.prog w base spare held n 26 (([c0,c1,c2,c3,c4,c5,c6,c7,c8,c9,c10,c11,c12,c13,c14,c15,c16,c17,c18,c19,c20].drop 12).take (Tryz.prog.cellsOf 26))=some y12:=hg 12 _ rfl;rw[ht5]at g12;have g13:DataW.trod enc Tryz.prog w base spare held n 26 (([c0,c1,c2,c3,c4,c5,c6,c7,c8,c9,c10,c11,c12,c13,c14,c15,c16,c17,c18,c19,c20].drop 14).take (Tryz.prog.cellsOf 26))=some y13:=hg 13 _ rfl;rw[ht5]at g13;have g14:DataW.trod enc Tryz.prog w base spare held n 26 (([c0,c1,c2,c3,c4,c5,c6,c7,c8,c9,c10,c11,c12,c13,c14,c15,c16,c17,c18,c19,c20].drop 16).take (Tryz.prog.cellsOf 26))=some y14:=hg 14 _ rfl;rw[ht5]at g14;have g15:DataW.trod enc Tryz.prog w base spare held n 27 (([c0,c1,c2,c3,c4,c5,c6,c7,c8,c9,c10,c11,c12,c13,c14,c15,c16,c17,c18,c19,c20].drop 18).take (Tryz.prog.cellsOf 27))=some y15:=hg 15 _ rfl;rw[ht6]at g15;have g16:DataW.trod enc Tryz.prog w base spare held n 28 (([c0,c1,c2,c3,c4,c5,c6,c7,c8,c9,c10,c11,c12,c13,c14,c15,c16,c17,c18,c19,c20].drop 19).take (Tryz.prog.cellsOf 28))=some y16:=hg 16 _ rfl;rw[ht7]at g16;have g17:DataW.trod enc Tryz.prog w base spare held n 3 (([c0,c1,c2,c3,c4,c5,c6,c7,c8,c9,c10,c11,c12,c13,c14,c15,c16,c17,c18,c19,c20].drop 20).take (Tryz.prog.cellsOf 3))=some y17:=hg 17 _ rfl;rw[ht1]at g17;clear hg;rw[hy]at hw;simp only[List.map_cons,List.map_nil,DataW.weights,Tryz.underlying30,DataW.weightsEach,List.all_append,Bool.and_eq_true]at hw;obtain⟨_,_,_,_,_,_,_,_,_,_,_,_,_,_,_,hwp,hwo,_⟩:=hw;replace g0:DataW.trod enc Tryz.prog w base spare held n 9 [c0]=some y0:=g0;obtain⟨s0,e0,_⟩:=DataW.trod_string Tryz.underlying9 g0;injection e0 with e0 _
  subst e0;replace g1:DataW.trod enc Tryz.prog w base spare held n 3 [c1]=some y1:=g1;obtain⟨s1,e1,_,w1⟩:=DataW.trod_int Tryz.underlying3 g1;injection e1 with e1 _
  subst e1;replace g2:DataW.trod enc Tryz.prog w base spare held n 4 [c2]=some y2:=g2;obtain⟨s2,e2,_⟩:=DataW.trod_bool Tryz.underlying4 g2;injection e2 with e2 _
  subst e2;replace g3:DataW.trod enc Tryz.prog w base spare held n 23 [c3]=some y3:=g3;obtain⟨s3,e3,_,w3⟩:=DataW.trod_int Tryz.underlying23 g3;injection e3 with e3 _
  subst e3;replace g4:DataW.trod enc Tryz.prog w base spare held n 3 [c4]=some y4:=g4;obtain⟨s4,e4,_,w4⟩:=DataW.trod_int Tryz.underlying3 g4;injection e4 with e4 _
  subst e4;replace g5:DataW.trod enc Tryz.prog w base spare held n 9 [c5]=some y5:=g5;obtain⟨s5,e5,_⟩:=DataW.trod_string Tryz.underlying9 g5;injection e5 with e5 _
  subst e5;replace g6:DataW.trod enc Tryz.prog w base spare held n 9 [c6]=some y6:=g6;obtain⟨s6,e6,_⟩:=DataW.trod_string Tryz.underlying9 g6;injection e6 with e6 _
  subst e6;replace g7:DataW.trod enc Tryz.prog w base spare held n 9 [c7]=some y7:=g7;obtain⟨s7,e7,_⟩:=DataW.trod_string Tryz.underlying9 g7;injection e7 with e7 _
  subst e7;replace g8:DataW.trod enc Tryz.prog w base spare held n 9 [c8]=some y8:=g8;obtain⟨s8,e8,_⟩:=DataW.trod_string Tryz.underlying9 g8;injection e8 with e8 _
  subst e8;replace g9:DataW.trod enc Tryz.prog w base spare held n 24 [c9]=some y9:=g9;obtain⟨s9,e9,_⟩:=DataW.trod_string Tryz.underlying24 g9;injection e9 with e9 _
  subst e9;replace g10:DataW.trod enc Tryz.prog w base spare held n 24 [c10]=some y10:=g10;obtain⟨s10,e10,_⟩:=DataW.trod_string Tryz.underlying24 g10;injection e10 with e10 _
  subst e10;replace g11:DataW.trod enc Tryz.prog w base spare held n 24 [c11]=some y11:=g11;obtain⟨s11,e11,_⟩:=DataW.trod_string Tryz.underlying24 g11;injection e11 with e11 _
  subst e11;replace g12:DataW.trod enc Tryz.prog w base spare held n 26 [c12,c13]=some y12:=g12;obtain⟨s12,e12⟩:=iW g12;injection e12 with e12a e12b
  injection e12b with e12b _
  subst e12a;subst e12b;replace g13:DataW.trod enc Tryz.prog w base spare held n 26 [c14,c15]=some y13:=g13;obtain⟨s13,e13⟩:=iW g13;injection e13 with e13a e13b
  injection e13b with e13b _
  subst e13a;subst e13b;replace g14:DataW.trod enc Tryz.prog w base spare held n 26 [c16,c17]=some y14:=g14;obtain⟨s14,e14⟩:=iW g14;injection e14 with e14a e14b
  injection e14b with e14b _
  subst e14a;subst e14b;replace g15:DataW.trod enc Tryz.prog w base spare held n 27 [c18]=some y15:=g15;obtain⟨pa,pc,ps,e15,hp,hpc,hpl⟩:=lL (α:=Fr) ce 2 (by decide) en Tryz.underlying27 (by kernel_rfl) (fun n cs y hy=>Ay hy) g15;injection e15 with e15 _
  subst e15;replace g16:DataW.trod enc Tryz.prog w base spare held n 28 [c19]=some y16:=g16;obtain⟨oa,oq,os,e16,ho,hoq,hol⟩:=lL (α:=OptV) gw 7 (by decide) kW Tryz.underlying28 (by kernel_rfl) (fun n cs y hy=>vY hy) g16;injection e16 with e16 _
  subst e16;replace g17:DataW.trod enc Tryz.prog w base spare held n 3 [c20]=some y17:=g17;obtain⟨s17,e17,_,w17⟩:=DataW.trod_int Tryz.underlying3 g17;injection e17 with e17 _
  subst e17;exact⟨⟨L s0,s1,s2,s3,s4,L s5,L s6,L s7,L s8,L s9,L s10,L s11,s12,s13,s14,s17⟩,ps,os,pa,oa,pc,oq,by simp[bs_L,ag],⟨hp,hpc,ho,hoq,w4,kB Tryz.underlying27 (by rw[show Tryz.prog.bytesOf 124=32 by kernel_rfl];decide) hwp hpl,kB Tryz.underlying28 (by rw[show Tryz.prog.bytesOf 154=112 by kernel_rfl];decide) hwo hol⟩⟩
end
theorem open_fact1{H:Type}{enc:TypeId × Value→H}{W:World}{r:Reach}{b0 base:Nat}{spare:Nat→Bool}{held:Bool}{v:Value}{d:DataW H}{p:List MemPlace}(hv:Value.okWide Tryz.prog W r b0 30 v)(h:DataW.Trod enc Tryz.prog W base spare held 30 v d p)(hw:(d.weights Tryz.prog 30).all (·≤reachBytes)=true) :
  ∃(f:FactV) (ps:List Fr) (os:List OptV) (pa oa:Option Addr) (pc oq:Nat),v=aL f (ag pa ps.length pc) (ag oa os.length oq)∧FactIn W f ps os pa oa pc oq:=by
 obtain⟨cs,rfl,_⟩:=okWide_struct Tryz.underlying30 hv;obtain⟨fuel,hf⟩:=h;obtain⟨f,ps,os,pa,oa,pc,oq,e,hF⟩:=Az hf hw;simp only[Value.cells]at e;exact⟨f,ps,os,pa,oa,pc,oq,congrArg Value.agg (Array.toList_inj.1 e),hF⟩
end
end Go.Proofs.YtaegjkllenlfpaaGreatDoor
