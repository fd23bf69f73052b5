/- The seat's texts, part QC. -/
import Derived.Test.YtaegjkllenlfpaaGreatDoorQ21
import Derived.Test.YtaegjkllenlfpaaGreatDoorQ34
import Derived.Test.YtaegjkllenlfpaaGreatDoorQX
import Derived.Test.YtaegjkllenlfpaaGreatDoorQL
import Derived.Deep.RegionHeld3
set_option maxRecDepth 100000
set_option maxHeartbeats 8000000
namespace Go.Proofs.YtaegjkllenlfpaaGreatDoor
section
open Go.RowKit Go.Shelf
attribute [local go_sem] size_bs toList_bs
theorem fW{W W':World}{F R:Nat}{f:FactV}{P O a b c d:Value}(hf:Blk W F 30 (af f P O))(hr:Blk W R rT #[a,b,c,d])(hx:Ext W W') :
  W'.cell? ⟨F,0,none⟩=some (.string (bs f.key))∧W'.cell? ⟨F,1,none⟩=some (.int .i64 f.stamp)∧W'.cell? ⟨F,3,none⟩=some (.int .i64 f.day)∧W'.cell? ⟨F,5,none⟩=some (.string (bs f.ins))∧W'.cell? ⟨F,12,none⟩=some (.string (bs f.price.num))∧W'.cell? ⟨F,13,none⟩=some (.string (bs f.price.den))∧W'.cell? ⟨R,0,none⟩=some a∧W'.cell? ⟨R,1,none⟩=some b:=by
 have k:=hf.ext hx;have l:=hr.ext hx;exact⟨k.cell 0,k.cell 1,k.cell 3,k.cell 5,k.cell 12,k.cell 13,l.cell 0,l.cell 1⟩
theorem yy(ls:List LotV)(A:Option Addr)(c:Nat)(f:FactV)(ps:List Fr)(os:List OptV)(pa oa:Option Addr)(pc oq:Nat)(w:World)(hE:Env w)(hL:LawIn w ls A f ps os pa oa pc) :
  Calls Tryz.prog 6 #[.slice A ls.length c,az f (ae pa ps.length pc) (ae oa os.length oq)] w fun e w'=>e = .returned (.bool true)∧Ext w w':=by
 have HE:=qh hE;have HL:=qh hL;have HB:=qh (Blk.new w 30 (af f (ae pa ps.length pc) (ae oa os.length oq)));have HX:Hid (Ext w (w.alloc (.cells (af f (ae pa ps.length pc) (ae oa os.length oq)) 30))):=qh (Ext.new _ _);have hs1:(Tryz.prog.info? 30).map (·.size)=some (af f (ae pa ps.length pc) (ae oa os.length oq)).toList.length:=by kernel_rfl
 have GR:=qh (fun W (hx:Ext w W)=>uW ls A c f ps os pa oa pc oq W (hL.la.ext hx) (hL.rp.ext hx) (hL.ro.ext hx) hL.np hL.no hL.nl);clear hE hL;go_enter Tryz.func6,Tryz.ntmps6;go_upto_region 1 with fail;generalize w.alloc (.cells (af f (ae pa ps.length pc) (ae oa os.length oq)) 30)=w0 at *;generalize hF0:w.heap.size=F at *;obtain⟨FV,hfv⟩:∃FV,az f (ae pa ps.length pc) (ae oa os.length oq)=FV:=⟨_,rfl⟩;rw[hfv]at GR ⊢;have HFV:Hid (Value.agg (af f (ae pa ps.length pc) (ae oa os.length oq)).toList.toArray=FV):=qh hfv;have HF2:=qh hfv;clear hfv;have hrg:=aE HB.out;go_wp2_with (first|refine cJ (by kernel_rfl) 30 _ rfl F 0 rfl _ _ hrg Tryz.underlying30 rfl hs1 _ HFV.out ?_|fail);refine(GR.out _ HX.out).mono ?_;rintro e w1⟨⟨b,rfl,hb⟩,hx1⟩;replace HX:=HX.qt hx1;replace HB:=qh (HB.out.ext hx1);clear hx1 GR hrg
 cases b;rotate_left
 ·clear hb;go_wp2_with fail;refine(dp _ (HE.out.ext HX.out)).mono ?_;rintro e v9⟨rfl,hx1⟩;replace HX:=HX.qt hx1;clear hx1;go_wp2_with fail;go_ret;exact⟨rfl,HX.out⟩
 obtain⟨hg,hn⟩:=hb rfl;have HG:=qh hg;have HN:=qh hn;have HFA:=qh (HL.out.fact hn);have hsm:=bM hg;have hln:ls.length<=100000:=by have:=(cI hg).1;omega
 have CA:=qh (fun W (hx:Ext w W)=>cT ls A c W (HE.out.ext hx) (HL.out.la.ext hx) hsm hln);have CT:=qh (fun W (hx:Ext w W)=>eu ls A c f.ins W (HE.out.ext hx) (HL.out.la.ext hx) hsm hln);have FC:=qh (fun W (hx:Ext w W)=>kY f ps os pa oa pc oq W (HFA.out.ext hx) HL.out.wf (HE.out.ext hx));rw[HF2.out]at FC;clear hb hg hn hsm;have x4:=HB.out.cell 4;simp only[List.getElem?_toArray,List.getElem?_cons_zero,List.getElem?_cons_succ]at x4;by_cases hkd:f.kind=14;rotate_left
 ·have g1:(f.kind != 14)=true:=by rw[bne_iff_ne];exact hkd
  clear hkd;go_wp2_with fail;refine(dp _ (HE.out.ext HX.out)).mono ?_;rintro e v9⟨rfl,hx1⟩;replace HX:=HX.qt hx1;clear hx1;go_wp2_with fail;go_ret;exact⟨rfl,HX.out⟩
 have g1:(f.kind != 14)=false:=by rw[bne_eq_false_iff_eq];exact hkd
 have HKD:=qh hkd;clear hkd;go_wp2_with fail;refine(CA.out _ HX.out).mono ?_;rintro e w2⟨rfl,hx1⟩;replace HX:=HX.qt hx1;replace HB:=qh (HB.out.ext hx1);clear hx1 CA x4 g1;by_cases hall:checkAllL ls=0;rotate_left
 ·have g1:(checkAllL ls != 0)=true:=by rw[bne_iff_ne];exact hall
  generalize checkAllL ls=z at *;clear hall;go_wp2_with fail;refine(dp _ (HE.out.ext HX.out)).mono ?_;rintro e v9⟨rfl,hx1⟩;replace HX:=HX.qt hx1;clear hx1;go_wp2_with fail;go_ret;exact⟨rfl,HX.out⟩
 rw[hall];have HAL:=qh hall;clear hall;have hrg:=aE HB.out;go_wp2_with (first|refine cJ (by kernel_rfl) 30 _ rfl F 0 rfl _ _ hrg Tryz.underlying30 rfl hs1 _ HFV.out ?_|fail);refine(FC.out _ HX.out).mono ?_;rintro e w3⟨rfl,hx1⟩;replace HX:=HX.qt hx1;replace HB:=qh (HB.out.ext hx1);clear hx1 hrg FC;by_cases hfe:aU f ps os=0;rotate_left
 ·have g1:(aU f ps os != 0)=true:=by rw[bne_iff_ne];exact hfe
  generalize aU f ps os=z at *;clear hfe;go_wp2_with fail;refine(dp _ (HE.out.ext HX.out)).mono ?_;rintro e v9⟨rfl,hx1⟩;replace HX:=HX.qt hx1;clear hx1;go_wp2_with fail;go_ret;exact⟨rfl,HX.out⟩
 rw[hfe];have hci:CalIn ls f ps os:=⟨HG.out,HAL.out,hfe,HKD.out⟩;have hsm:=bM HG.out;have hgr:=cI HG.out;have hle:(ofL ls f.ins).length<=ls.length:=List.length_filter_le _ _
 have hql:(ofI (totQ ls f.ins)).length<=20:=by
  have e2:totQ ls f.ins=aW ((ofL ls f.ins).map (·.q)):=by unfold totQ aW;rw[List.map_map];rfl
  rw[e2];refine gM 13 _ (fun b hb=>?_) (by rw[List.length_map];omega);obtain⟨z,hz,rfl⟩:=List.mem_map.1 hb;exact(fI (hgr.2 z (bH hz).1)).1
 have hpn:f.price.num.length<=30:=by have:=HN.out.pr.1;omega
 have hpd:f.price.den.length<=30:=by have:=HN.out.pr.2;omega
 have hvl:(eD ls f).length<=62:=mg (sr (L:=30) (by decide) hpn hpd (by omega));have CC:=qh (fun W (hx:Ext w W)=>Dx ls A c f ps os pa oa pc oq W (HE.out.ext hx) (HL.out.la.ext hx) (HFA.out.ext hx) hci (by omega) (by omega) (by omega));rw[HF2.out]at CC;obtain⟨su1,su2,su3⟩:=AX (f:=f) HAL.out hsm;have hm:(aV ls f).length=(ofL ls f.ins).length:=lZ ls f
 have hfn:∀g ∈ aV ls f,g.q.length<=4000∧g.p.length<=4000∧g.c.length<=4000:=by
  by_cases h0:0<(ofL ls f.ins).length
  ·exact Dw HG.out HAL.out h0 (by omega)
  ·intro g hg;have e:(aV ls f).length=0:=by omega
   rw[List.length_eq_zero_iff.1 e]at hg
   cases hg
 have su:∀W B d,Ext w W->jQ W B (aV ls f)->Calls Tryz.prog 17 #[.slice B (ofL ls f.ins).length d] W fun e w'=>e = .returned (.tuple #[.string (bs (ofI (totQ ls f.ins))),.string (bs (eD ls f)),.string (bs (ofI (totC ls f.ins)))])∧Ext W w':=fun W B d hx h=>by
  have:=tx (aV ls f) B d W (HE.out.ext hx) h hfn (by omega);rw[su1,su2,su3,hm]at this
  exact this
 have SU:=qh su;have VL:=qh (fun W (hx:Ext w W)=>sv (L:=30) (by omega) (by omega) f.price (ofI (totQ ls f.ins)) hpn hpd (by omega) W (HE.out.ext hx));rw[show ofI (jp f.price (ofI (totQ ls f.ins)))=eD ls f from rfl]at VL;have OA:=qh (fun W (hx:Ext w W)=>tz ls A c f.ins W (HL.out.la.ext hx) (by omega))
 have OFF:Hid (∀W,Ext w W->Calls Tryz.prog 29 #[.slice A ls.length c,.string (bs f.ins)] W fun e w'=>(∃A' c',e = .returned (.slice A' (ofL ls f.ins).length c')∧aG w' A' (ofL ls f.ins))∧Ext W w'):=qh (fun W hx=>(jT ls A c f.ins W (HL.out.la.ext hx) (by omega)).mono (by
  rintro e w'⟨A',c',rfl,ho,_,hx'⟩;exact⟨⟨A',c',rfl,Reads.own ho⟩,hx'⟩))
 have hol:(aX ls f.ins).length<=100000:=Nat.le_trans (List.length_filter_le _ _) (by omega)
 have SM:Hid (∀W B C b d,aG W B (aX ls f.ins)->aG W C (aX ls f.ins)->Calls Tryz.prog 20 #[.slice B (aX ls f.ins).length b,.slice C (aX ls f.ins).length d] W fun e w'=>e = .returned (.bool true)∧Ext W w'):=qh (fun W B C b d h1 h2=>(pU _ _ B C b d W h1 h2 (by omega) (by omega)).mono (by
  rintro e w'⟨rfl,hx⟩;exact⟨by simp,hx⟩))
 have SN:Hid (totQ ls f.ins=0->∀W B b d,aG W B (aX ls f.ins)->aG W A ls->Calls Tryz.prog 20 #[.slice B (aX ls f.ins).length b,.slice A ls.length d] W fun e w'=>e = .returned (.bool true)∧Ext W w'):=qh (fun h0 W B b d h1 h2=>(pU _ _ B A b d W h1 h2 (by omega) (by omega)).mono (by
  rintro e w'⟨rfl,hx⟩;exact⟨by rw[(oy (f:=f) ((qO HAL.out).1 h0)).1];simp,hx⟩))
 have SE:=qh (AU (ls:=ls) (f:=f) HAL.out);have AW:=qh (fun W (hx:Ext w W)=>dp W (HE.out.ext hx));have HSF:Hid (∀W,FactAt W (aI ls f) [] [] none none 0):=qh (fun W=>Fm HFA.out.sm (by omega) (by omega) W);have SY:Hid (cN ls (aI ls f) [] [] 1=0->∀W,Ext w W->Calls Tryz.prog 13 #[.slice A ls.length c,az (aI ls f) (ae none 0 0) (ae none 0 0),.int .i64 1] W (fw (bP ls (aI ls f) 1 []) (aP ls (aI ls f) 1 []) (iZ ls (aI ls f) 1 []) W)):=qh (fun h W hx=>qp ls A c (aI ls f) [] [] none none 0 0 1 W (HE.out.ext hx) (HL.out.la.ext hx) (HSF.out W) (j5 HG.out h));have SX:Hid (cN ls (aI ls f) [] [] 1≠0->∀W,Ext w W->Calls Tryz.prog 13 #[.slice A ls.length c,az (aI ls f) (ae none 0 0) (ae none 0 0),.int .i64 1] W fun e w'=>e = .returned (.tuple #[zR,.int .i64 (cN ls (aI ls f) [] [] 1)])∧Ext W w'):=qh (fun h W hx=>yh ls A c (aI ls f) [] [] none none 0 0 1 W (HE.out.ext hx) (HL.out.la.ext hx) (HSF.out W) (by show(Lit.int .i64 4).wf=true;decide) HG.out h);have FSL:Hid (∀W,Ext w W->Calls Tryz.prog 15 #[az (aI ls f) (ae none 0 0) (ae none 0 0)] W fun e w'=>e = .returned (.int .i64 (aU (aI ls f) [] []))∧Ext W w'):=qh (fun W hx=>kY (aI ls f) [] [] none none 0 0 W (HSF.out W) (by show(Lit.int .i64 4).wf=true;decide) (HE.out.ext hx));have HIX:Hid (cN ls (aI ls f) [] [] 1=0->∀k (hk:k<(aV ls f).length),(∃h':k<(ofL ls f.ins).length,((aV ls f)[k]'hk).lot=((ofL ls f.ins)[k]'h').id)∧(aP ls (aI ls f) 1 []).any (m7 ((aV ls f)[k]'hk))=true):=qh (fun h k hk=>Fn HG.out h k hk)
 have hyl:Hid (cN ls (aI ls f) [] [] 1=0->(aP ls (aI ls f) 1 []).length<=1000):=qh (fun h=>by
  have hgo:=j5 HG.out h;exact(hgo.inn.gnsLen 1 hgo.q).1)
 have HQZ:Hid ((ofI (totQ ls f.ins)).isEmpty=decide (totQ ls f.ins=0)):=qh (BJ _);have HM:=qh hm;have HLE:Hid ((ofL ls f.ins).length<=1002):=qh (by omega);clear hfe hci hsm hgr hle hql hpn hpd hvl su1 su2 su3 hm hfn su hol HSF HFA HN HKD;have hrg:=aE HB.out;go_wp2_with (first|refine cJ (by kernel_rfl) 30 _ rfl F 0 rfl _ _ hrg Tryz.underlying30 rfl hs1 _ HFV.out ?_|fail);refine(CC.out _ HX.out).mono ?_;rintro e w4⟨Ra,ra,Rb,rb,Rc,rc',rfl,h1,h2,_,hx1⟩;rw[HM.out];generalize ofL ls f.ins=own at *;have hxn:=Ext.new w4 (.cells #[.slice Ra (aX ls f.ins).length ra,.slice Rb own.length rb,.slice Rc (jk ls f).length rc',.slice none 0 0] 39);have hx2:=hx1.trans hxn;have HR:=qh (Blk.new w4 39 #[.slice Ra (aX ls f.ins).length ra,.slice Rb own.length rb,.slice Rc (jk ls f).length rc',.slice none 0 0]);have HRL:=qh (h1.ext hxn);have HRG:=qh (h2.ext hxn);replace HX:=HX.qt hx2;replace HB:=qh (HB.out.ext hx2);clear hx1 hx2 hxn hrg CC h1 h2;generalize (jk ls f).length=nst at *;go_upto_region 4 with fail;generalize w4.alloc (.cells #[.slice Ra (aX ls f.ins).length ra,.slice Rb own.length rb,.slice Rc nst rc',.slice none 0 0] 39)=W4 at *;generalize w4.heap.size=R at *;generalize hrs:aX ls f.ins=rs at *;generalize ofI (totC ls f.ins)=tc at *;have hsc:af (aI ls f) (ae none 0 0) (ae none 0 0)=pj f (ofI (totQ ls f.ins)) (eD ls f):=rfl;have HSC:=qh hsc;obtain⟨SV,hsv⟩:∃SV,az (aI ls f) (ae none 0 0) (ae none 0 0)=SV:=⟨_,rfl⟩;rw[hsv]at SY SX FSL;have HSV:Hid (Value.agg (af (aI ls f) (ae none 0 0) (ae none 0 0)).toList.toArray=SV):=qh hsv;clear hsv;have hs2:(Tryz.prog.info? 30).map (·.size)=some (af (aI ls f) (ae none 0 0) (ae none 0 0)).toList.length:=by kernel_rfl
 clear hsc;generalize hZ:totQ ls f.ins=zq at *;generalize hvb:eD ls f=vb at *;generalize hqs:ofI zq=tq at *;clear hZ hvb hqs;obtain⟨p0,p1,p3,p5,p12,p13,r0,r1⟩:=fW HB.out HR.out (Ext.refl _);go_wp2_with fail;refine(CT.out _ HX.out).mono ?_;rintro e w5⟨rfl,hx1⟩;replace HX:=HX.qt hx1;replace HB:=qh (HB.out.ext hx1);replace HR:=qh (HR.out.ext hx1);replace HRL:=qh (HRL.out.ext hx1);replace HRG:=qh (HRG.out.ext hx1);clear hx1 CT;clear p0 p1 p3 p5 p12 p13 r0 r1;obtain⟨p0,p1,p3,p5,p12,p13,r0,r1⟩:=fW HB.out HR.out (Ext.refl _);go_upto_region 5 with fail;have HD:Hid (Ext w5 w5.drew):=qh (Ext.refl w5).drew
 go_region_held3 (fun w'=>w'.cell? ⟨F,5,none⟩=some (.string (bs f.ins))∧w'.cell? ⟨R,0,none⟩=some (.slice Ra rs.length ra)∧w'.cell? ⟨R,1,none⟩=some (.slice Rb own.length rb))
  (go_keep)
  (first
   |(go_at_call 21;((with_reducible refine(OA.out _ (HX.out.trans HD.out)).mono ?_);rintro e w6⟨⟨A7,c7,rfl,hq7⟩,hx⟩);(replace HD:=HD.qt hx);(have HQ7:=qh hq7);(obtain⟨p0,p1,p3,p5,p12,p13,r0,r1⟩:=fW HB.out HR.out HD.out);clear hx hq7 OA)
   |(go_at_call 20;((with_reducible refine(SM.out _ _ _ _ _ (HRL.out.ext HD.out) HQ7.out).mono ?_);rintro e w6⟨rfl,hx⟩);(replace HD:=HD.qt hx);(obtain⟨p0,p1,p3,p5,p12,p13,r0,r1⟩:=fW HB.out HR.out HD.out);clear hx HQ7)
   |(go_at_call 29;((with_reducible refine(OFF.out _ (HX.out.trans HD.out)).mono ?_);rintro e w6⟨⟨A8,c8,rfl,_⟩,hx⟩);(replace HD:=HD.qt hx);(obtain⟨p0,p1,p3,p5,p12,p13,r0,r1⟩:=fW HB.out HR.out HD.out);clear hx)
   |fail)
 have hx1:=HD.out;replace HX:=HX.qt hx1;replace HB:=qh (HB.out.ext hx1);replace HR:=qh (HR.out.ext hx1);replace HRL:=qh (HRL.out.ext hx1);replace HRG:=qh (HRG.out.ext hx1);clear hx1 HD SM;clear p0 p1 p3 p5 p12 p13 r0 r1;obtain⟨p0,p1,p3,p5,p12,p13,r0,r1⟩:=fW HB.out HR.out (Ext.refl _);go_wp2_with fail;refine(SU.out _ _ _ HX.out HRG.out).mono ?_;rintro e w7⟨rfl,hx1⟩;replace HX:=HX.qt hx1;replace HB:=qh (HB.out.ext hx1);replace HR:=qh (HR.out.ext hx1);replace HRL:=qh (HRL.out.ext hx1);replace HRG:=qh (HRG.out.ext hx1);clear hx1 SU;clear p0 p1 p3 p5 p12 p13 r0 r1;obtain⟨p0,p1,p3,p5,p12,p13,r0,r1⟩:=fW HB.out HR.out (Ext.refl _);go_wp2_with fail;refine(VL.out _ HX.out).mono ?_;rintro e w8⟨rfl,hx1⟩;replace HX:=HX.qt hx1;replace HB:=qh (HB.out.ext hx1);replace HR:=qh (HR.out.ext hx1);replace HRL:=qh (HRL.out.ext hx1);replace HRG:=qh (HRG.out.ext hx1);clear hx1 VL;clear p0 p1 p3 p5 p12 p13 r0 r1;obtain⟨p0,p1,p3,p5,p12,p13,r0,r1⟩:=fW HB.out HR.out (Ext.refl _);by_cases hz:zq=0
 ·have q1:tq.isEmpty=true:=by rw[HQZ.out];simpa using hz
  have SN2:=qh (SN.out hz);clear hz SN SY SX FSL HIX hyl HQZ SE;go_wp2_with fail;refine(SN2.out _ _ _ _ HRL.out (HL.out.la.ext HX.out)).mono ?_;rintro e w9⟨rfl,hx1⟩;replace HX:=HX.qt hx1;clear hx1;clear p0 p1 p3 p5 p12 p13 r0 r1;go_wp2_with fail;refine(dp _ (HE.out.ext HX.out)).mono ?_;rintro e v9⟨rfl,hx1⟩;replace HX:=HX.qt hx1;clear hx1;go_wp2_with fail;go_ret;exact⟨rfl,HX.out⟩
 have q1:tq.isEmpty=false:=by rw[HQZ.out];simpa using hz
 clear hz SN HQZ;have HZ:=qh (Blk.new w8 30 xz);have hth:World.there _ w8.heap.size 0 (pj f tq vb).size:=(jE HZ.out:World.there _ w8.heap.size 0 (xz:Array Value).size);have hs3:(Tryz.prog.info? 30).map (·.size)=some (pj f tq vb).size:=by kernel_rfl
 have hoc:(pj f tq vb).all (·.oneCell')=true:=by simp[Value.oneCell']
 have HS:=qh (kw (w:=_) (xs:=xz.toList) (ys:=(pj f tq vb).toList) (show Blk _ _ _ xz.toList.toArray from HZ.out) rfl);have HXS:=qh (ext_sets (pj f tq vb).toList 0 _ () (Ext.new w8 (.cells xz 30)) (Nat.le_refl w8.heap.size));go_upto_region 13 with (first|(refine wpList_store_mid rfl 30 _ _ rfl w8.heap.size 0 (pj f tq vb) rfl rfl hth hs3 hoc ?_)|fail)
 clear p0 p1 p3 p5 p12 p13 r0 r1;clear HZ hth hs3 hoc;generalize World.setCells (w8.alloc (.cells xz 30)) w8.heap.size 0 (pj f tq vb).toList=W8 at *;generalize w8.heap.size=S at *;replace HS:Hid (Blk W8 S 30 (pj f tq vb)):=HS;rw[←HSC.out]at HS;have hx1:=HXS.out;replace HX:=HX.qt hx1;replace HB:=qh (HB.out.ext hx1);replace HR:=qh (HR.out.ext hx1);replace HRL:=qh (HRL.out.ext hx1);replace HRG:=qh (HRG.out.ext hx1);clear hx1 HXS HSC;by_cases he:cN ls (aI ls f) [] [] 1=0;rotate_left
 ·have SX2:=qh (SX.out he)
  have hfs:aU (aI ls f) [] []≠0:=by
   rcases SE.out with h|h
   ·exact absurd h he
   ·exact h.2
  have g1:(cN ls (aI ls f) [] [] 1 != 0)=true:=by rw[bne_iff_ne];exact he
  have g2:(aU (aI ls f) [] [] != 0)=true:=by rw[bne_iff_ne];exact hfs
  have hrg:=aE HS.out;generalize cN ls (aI ls f) [] [] 1=z at *;generalize aU (aI ls f) [] []=z2 at *;generalize aI ls f=sf at *;clear he hfs SX SY SE HIX hyl;go_wp2_with (first|refine cJ (by kernel_rfl) 30 _ rfl S 0 rfl _ _ hrg Tryz.underlying30 rfl hs2 _ HSV.out ?_|fail);refine(SX2.out _ HX.out).mono ?_;rintro e w9⟨rfl,hx1⟩;replace hx1:=hx1.trans (Ext.new w9 (.cells #[.slice none 0 0,.slice none 0 0,.slice none 0 0,.slice none 0 0] 39));replace HX:=HX.qt hx1;replace HS:=qh (HS.out.ext hx1);clear hx1 hrg SX2;have hrg:=aE HS.out;go_wp2_with (first|refine cJ (by kernel_rfl) 30 _ rfl S 0 rfl _ _ hrg Tryz.underlying30 rfl hs2 _ HSV.out ?_|fail);refine(FSL.out _ HX.out).mono ?_;rintro e w10⟨rfl,hx1⟩;replace HX:=HX.qt hx1;clear hx1 hrg FSL HS;go_wp2_with fail;refine(dp _ (HE.out.ext HX.out)).mono ?_;rintro e v9⟨rfl,hx1⟩;replace HX:=HX.qt hx1;clear hx1;go_wp2_with fail;go_ret;exact⟨rfl,HX.out⟩
 have SY2:=qh (SY.out he);have HIX2:=qh (HIX.out he);have HYL:=qh (hyl.out he);clear he SX SY SE HIX hyl FSL;have hrg:=aE HS.out;generalize bP ls (aI ls f) 1 []=rs2 at *;generalize aP ls (aI ls f) 1 []=ys at *;generalize iZ ls (aI ls f) 1 []=ss2 at *;generalize aI ls f=sf at *;generalize hgs:aV ls f=gs at *;clear hgs;go_wp2_with (first|refine cJ (by kernel_rfl) 30 _ rfl S 0 rfl _ _ hrg Tryz.underlying30 rfl hs2 _ HSV.out ?_|fail);refine(SY2.out _ HX.out).mono ?_;rintro e w9⟨Ya,ya,Yb,yb,Yc,yc,rfl,_,h2,_,hx1⟩;have hxn:=Ext.new w9 (.cells #[.slice Ya rs2.length ya,.slice Yb ys.length yb,.slice Yc ss2.length yc,.slice none 0 0] 39);have HY:=qh (Blk.new w9 39 #[.slice Ya rs2.length ya,.slice Yb ys.length yb,.slice Yc ss2.length yc,.slice none 0 0]);have HYG:=qh (h2.ext hxn);replace hx1:=hx1.trans hxn;replace HX:=HX.qt hx1;replace HB:=qh (HB.out.ext hx1);replace HR:=qh (HR.out.ext hx1);replace HRL:=qh (HRL.out.ext hx1);replace HRG:=qh (HRG.out.ext hx1);clear hx1 hxn hrg SY2 HS h2;go_upto_region 14 with fail;generalize w9.alloc (.cells #[.slice Ya rs2.length ya,.slice Yb ys.length yb,.slice Yc ss2.length yc,.slice none 0 0] 39)=W9 at *;generalize w9.heap.size=Y at *;obtain⟨p0,p1,p3,p5,p12,p13,r0,r1⟩:=fW HB.out HR.out (Ext.refl _);go_wp2_with fail;clear p0 p1 p3 p5 p12 p13 r0 r1;go_loopw [133,15,17] (fun i _ _ wr=>∃k:Nat,k<=own.length∧i = .int .i64 k∧Ext W9 wr) (fun i _ _ _=>own.length-(intOf i).toNat)
 case atStart=>exact⟨0,by omega,rfl,Ext.refl _⟩
 case round =>
  obtain⟨k,hk,rfl,hx⟩:=hrel;have HXX:=qh hx;clear hx;by_cases hlt:k<own.length;rotate_left
  ·have hke:k=own.length:=by omega
   subst hke;have hki:¬ ((own.length:Int)<(own.length:Int)):=by omega
   replace HX:=qh (HX.out.trans HXX.out);clear HXX;go_wp2_with fail;refine(dp _ (HE.out.ext HX.out)).mono ?_;rintro e v9⟨rfl,hx1⟩;replace HX:=HX.qt hx1;clear hx1;go_wp2_with fail;go_ret;exact⟨rfl,HX.out⟩
  have hkg:k<gs.length:=by rw[HM.out];exact hlt
  have hkl:k<1002:=by have:=HLE.out;omega
  obtain⟨b,o,rfl,hb,c0,c1,c2,c3,c4,c5,c6,c7,c8,c9⟩:=(HRG.out.ext HXX.out).at_ hkg;have hki:(k:Int)<(own.length:Int):=by omega
  have hk0:(0:Int)<=(k:Int):=by omega
  obtain⟨⟨hko,hlo⟩,hany⟩:=HIX2.out k hkg;generalize (gs[k]'hkg)=x at *
  have CF:Hid (∀X W,Ext W9 W->Blk W X 60 (nk x)->Calls Tryz.prog 31 #[.slice Yb ys.length yb,.func (.func 32) #[] #[.pointer (some ⟨X,0,none⟩)]] W fun e w'=>e = .returned (.bool true)∧Ext W w'):=qh (fun X W hx hb=>by
   have h:=yr 32 #[.pointer (some ⟨X,0,none⟩)] (fun _ _=>by rfl) (m7 x) ys Yb yb W (HYG.out.ext hx) (by have:=HYL.out;omega) (fun z _ W' hxx=>It z x X W' (hb.ext hxx));rw[hany]at h;exact h)
  have HLO:=qh hlo;clear hany hlo;obtain⟨gk,gl,gi,ga,gc',gq,gp,gco,gd,gr⟩:=x;simp only at c0 c1 c2 c3 c4 c5 c6 c7 c8 c9 HLO;have BX:=qh (Blk.new wr 60 (nk ⟨gk,gl,gi,ga,gc',gq,gp,gco,gd,gr⟩));replace HXX:=qh (HXX.out.trans (Ext.new wr (.cells (nk ⟨gk,gl,gi,ga,gc',gq,gp,gco,gd,gr⟩) 60)));go_upto_region 19 with fail;generalize wr.alloc (.cells #[.string (bs gk),.string (bs gl),.string (bs gi),.int .i64 ga,.int .i64 gc',.string (bs gq),.string (bs gp),.string (bs gco),.string (bs gd),.string (bs gr)] 60)=w11 at *;generalize wr.heap.size=X8 at *;clear c0 c1 c2 c3 c4 c5 c6 c7 c8 c9;have f5:=(HB.out.ext HXX.out).cell 5;simp only[List.getElem?_toArray,List.getElem?_cons_zero,List.getElem?_cons_succ]at f5;go_wp2_with fail;refine(OFF.out _ (HX.out.trans HXX.out)).mono ?_;rintro e w12⟨⟨A7,c7,rfl,hr7⟩,hx1⟩;replace HXX:=HXX.qt hx1;replace BX:=qh (BX.out.ext hx1);have HR7:=qh hr7;clear hx1 hr7 f5;obtain⟨b7,o7,rfl,hb7,d0,d1,d2,d3,d4,d5,d6⟩:=HR7.out.at_ hko;rw[←HLO.out]at d0;clear d1 d2 d3 d4 d5 d6;obtain⟨g0,g1,g2,g3,g4,g5,g6,g7,g8,g9⟩:=lA BX.out (Ext.refl _);have y1:=(HY.out.ext HXX.out).cell 1;simp only[List.getElem?_toArray,List.getElem?_cons_zero,List.getElem?_cons_succ]at y1;clear g0 g2 g3 g4 g5 g6 g7 g8 g9;go_upto_region 20 with fail;have HD:Hid (Ext w12 w12.drew):=qh (Ext.refl w12).drew
  go_region_held3 (fun w'=>w'.cell? ⟨X8,1,none⟩=some (.string (bs gl))∧w'.cell? ⟨Y,1,none⟩=some (.slice Yb ys.length yb)∧w'.cell? ⟨b7,o7+k*7,none⟩=some (.string (bs gl)))
   (go_keep)
   (first
    |(go_at_call 31;((with_reducible refine(CF.out X8 _ (HXX.out.trans HD.out) (BX.out.ext HD.out)).mono ?_);rintro e w13⟨rfl,hx⟩);(replace HD:=HD.qt hx);(have y1:=(HY.out.ext (HXX.out.trans HD.out)).cell 1);(have g1:=(BX.out.ext HD.out).cell 1);(have d0:=Fl (HR7.out.ext HD.out) hko);(rw[←HLO.out]at d0);clear hx CF)
    |fail)
  all_goals
   go_wp2_with fail;go_roundw
   case rel=>exact⟨k+1,by omega,by go_num,HXX.out.trans HD.out⟩
   case measure=>simp[intOf];omega
end
section
open Go.RowKit Go.Shelf
theorem dlCalls(ls:List LotV)(A:Option Addr)(c:Nat)(f:FactV)(ps:List Fr)(os:List OptV)(pa oa:Option Addr)(pc oq:Nat)(W:World)(hR:aG W A ls)(_:ls.length<=c)(hn:ls.length<=4611686018427387904)(hF:FactIn W f ps os pa oa pc oq)(hE:Env W) :
  Calls Tryz.prog 6 #[.slice A ls.length c,az f (ae pa ps.length pc) (ae oa os.length oq)] W fun e w'=>e = .returned (.bool true)∧Ext W w' :=
 yy ls A c f ps os pa oa pc oq W hE ⟨hR,hF.rp,hF.cp,hF.ro,hF.wf,hn,hF.np,hF.no⟩
end
end Go.Proofs.YtaegjkllenlfpaaGreatDoor
