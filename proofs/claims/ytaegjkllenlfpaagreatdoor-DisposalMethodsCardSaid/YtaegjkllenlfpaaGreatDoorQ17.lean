/- The seat's texts, part Q17. -/
import Derived.Test.YtaegjkllenlfpaaGreatDoorQ14
import Derived.Test.YtaegjkllenlfpaaGreatDoorQ15
import Derived.Test.YtaegjkllenlfpaaGreatDoorQ16
import Derived.Deep.RegionHeld3
import Derived.BigQuiet
set_option maxRecDepth 100000
set_option maxHeartbeats 8000000
namespace Go.Proofs.YtaegjkllenlfpaaGreatDoor
section
open Go.RowKit
attribute [local go_sem] size_bs toList_bs
def i7(ins:Bs)(o:OptV):Int :=
 if o.other≠[]∧isName o.other=false then 23 else if o.other=ins then 18 else if cz o.r false≠0 then cz o.r false else if cz o.p false≠0 then cz o.p false else if cz o.v false≠0 then cz o.v false else if fC o=true then 2 else 0
def iQ(ins:Bs)(os:List OptV)(k:Nat):Int:=match os[k]? with
 |some o=>i7 ins o
 |none=>0
def kj(ins:Bs)(os:List OptV):Int:=if os.length=0 then 11 else if 8<os.length then 4 else cX (iQ ins os) os.length
structure OptFP (ins:Bs) (o:OptV) (e:Int):Prop where
 n:o.other≠[]->isName o.other=false->e=23
 q:(o.other=[]∨isName o.other=true)->o.other=ins->e=18
 l:(o.other=[]∨isName o.other=true)->o.other≠ins->(cz o.r false≠0->e=cz o.r false)∧(cz o.r false=0->cz o.p false≠0->e=cz o.p false)∧(cz o.r false=0->cz o.p false=0->cz o.v false≠0->e=cz o.v false) ∧
  (cz o.r false=0->cz o.p false=0->cz o.v false=0->(fC o=true->e=2)∧(fC o=false->e=0))
theorem FA(ins:Bs)(o:OptV):OptFP ins o (i7 ins o):=by
 refine⟨fun a b=>?_,fun a b=>?_,fun a b=>⟨fun c=>?_,fun c d=>?_,fun c d e=>?_,fun c d e=>⟨fun g=>?_,fun g=>?_⟩⟩⟩
 ·unfold i7;rw[if_pos ⟨a,b⟩]
 ·unfold i7;rw[if_neg (by rintro⟨k1,k2⟩;rcases a with a|a <;> simp_all),if_pos b]
 ·unfold i7;rw[if_neg (by rintro⟨k1,k2⟩;rcases a with a|a <;> simp_all),if_neg b,if_pos c]
 ·unfold i7;rw[if_neg (by rintro⟨k1,k2⟩;rcases a with a|a <;> simp_all),if_neg b,if_neg (by simpa using c),if_pos d]
 ·unfold i7;rw[if_neg (by rintro⟨k1,k2⟩;rcases a with a|a <;> simp_all),if_neg b,if_neg (by simpa using c),if_neg (by simpa using d),if_pos e]
 ·unfold i7;rw[if_neg (by rintro⟨k1,k2⟩;rcases a with a|a <;> simp_all),if_neg b,if_neg (by simpa using c),if_neg (by simpa using d),if_neg (by simpa using e),if_pos g]
 ·unfold i7;rw[if_neg (by rintro⟨k1,k2⟩;rcases a with a|a <;> simp_all),if_neg b,if_neg (by simpa using c),if_neg (by simpa using d),if_neg (by simpa using e),if_neg (by rw[g];decide)]
structure OptsP (ins:Bs) (os:List OptV) (e:Int):Prop where
 zero:os.length=0->e=11
 long:8<os.length->e=4
 hit:0<os.length->¬ 8<os.length->∀k,k<os.length->(∀j,j<k->iQ ins os j=0)->iQ ins os k≠0->e=iQ ins os k
 ok:0<os.length->¬ 8<os.length->(∀j,j<os.length->iQ ins os j=0)->e=0
theorem FB(ins:Bs)(os:List OptV):OptsP ins os (kj ins os):=by
 refine⟨fun a=>?_,fun a=>?_,fun z a k hk b c=>?_,fun z a b=>?_⟩
 ·unfold kj;rw[if_pos a]
 ·unfold kj;rw[if_neg (by omega),if_pos a]
 ·unfold kj;rw[if_neg (by omega),if_neg a,iw b c hk]
 ·unfold kj;rw[if_neg (by omega),if_neg a,ez b]
theorem zx(n d:Bs)(h1:n.length<=9000)(h2:d.length<=9000)(g1 g2:Nat)(w:World)(hE:Env w)(b1:Blk w g1 4 #[.bool false])(b2:Blk w g2 4 #[.bool false]) :
  Calls Tryz.prog 199 #[.agg #[.string (bs n),.string (bs d)],.pointer (some ⟨g1,0,none⟩),.pointer (some ⟨g2,0,none⟩)] w fun e w'=>e = .returned (.int .i64 (cz ⟨n,d⟩ false))∧Ext w w':=vH ⟨n,d⟩ h1 h2 false g1 g2 w hE b1 b2
theorem wZ(f:FactV)(P:Value)(os:List OptV)(A:Option Addr)(c:Nat)(w:World)(hA:l8 w A os)(hs:∀o ∈ os,j9 9000 o)(hn:os.length<=100000)(hE:Env w) :
  Calls Tryz.prog 136 #[az f P (ae A os.length c)] w fun e w'=>e = .returned (.int .i64 (kj f.ins os))∧Ext w w':=by
 have HE:=qh hE;have HA:=qh hA;have HSm:=qh hs;have hp:=FB f.ins os;have P0:=qh hp.zero;have P1:=qh hp.long;have P2:=qh hp.hit;have P3:=qh hp.ok;generalize kj f.ins os=res at *;have HB:=qh (Blk.new w 30 (af f P (ae A os.length c)));have HX:Hid (Ext w (w.alloc (.cells (af f P (ae A os.length c)) 30))):=qh (Ext.new _ _);clear hA hs hp hE;go_enter Tryz.func136,Tryz.ntmps136;obtain⟨-,-,-,-,-,x5,-,-,-,-,-,-,-,-,-,-,-,-,-,x19,-⟩:=ah HB.out (Ext.refl _);by_cases h0:os.length=0
 ·have q0:((os.length:Int) == 0)=true:=by rw[beq_iff_eq];omega
  have e0:=P0.out h0;subst e0;clear P0 P1 P2 P3 h0;go_wp2_with fail;go_ret;exact⟨rfl,HX.out⟩
 have q0:((os.length:Int) == 0)=false:=by rw[beq_eq_false_iff_ne];omega
 by_cases h8:8<os.length
 ·have q8:decide (8<(os.length:Int))=true:=by rw[decide_eq_true_iff];omega
  have e0:=P1.out h8;subst e0;clear P0 P1 P2 P3 h0;go_wp2_with fail;go_ret;exact⟨rfl,HX.out⟩
 have q8:decide (8<(os.length:Int))=false:=by rw[decide_eq_false_iff_not];omega
 replace P2:=qh (P2.out (by omega) h8);replace P3:=qh (P3.out (by omega) h8);clear P0 P1 h0 h8;go_wp2_with fail;generalize w.alloc (.cells (af f P (ae A os.length c)) 30)=W0 at *;generalize hgx:w.heap.size=gx at *;go_loopw [19,4,6,7] (fun i _ _ _ wr=>∃k:Nat,k<=os.length∧i = .int .i64 k∧(∀j,j<k->iQ f.ins os j=0)∧Ext W0 wr) (fun i _ _ _ _=>os.length-(intOf i).toNat)
 case atStart=>exact⟨0,by omega,rfl,fun j hj=>absurd hj (by omega),Ext.refl _⟩
 case round =>
  obtain⟨k,hk,rfl,hz,hx⟩:=hrel;have HZ:=qh hz;clear hz;replace HX:=HX.qt hx;replace HB:=qh (HB.out.ext hx);have HL:=qh hx;clear hx;by_cases hlt:k<os.length
  ·obtain⟨b,o,rfl,hb,c0,c1,c2,c3,c4,c5,c6⟩:=(HA.out.ext HX.out).at_ hlt;have hkE:iQ f.ins os k=i7 f.ins (os[k]'hlt):=by unfold iQ;rw[List.getElem?_eq_getElem hlt]
   have pk:=FA f.ins (os[k]'hlt);have HHit:Hid (iQ f.ins os k≠0->res=iQ f.ins os k):=qh (P2.out k hlt HZ.out)
   have HNx:Hid (iQ f.ins os k=0->∀j,j<k+1->iQ f.ins os j=0):=qh (fun h j hj=>by
    by_cases e:j=k
    ·subst e;exact h
    ·exact HZ.out j (by omega))
   rw[←hkE]at pk;have hsm:=HSm.out _ (List.getElem_mem hlt);have hki:(k:Int)<(os.length:Int):=by omega
   have hk0:(0:Int)<=(k:Int):=by omega
   clear hkE HSm P2 P3 HZ;generalize iQ f.ins os k=pe at *;generalize os[k]'hlt=y at *;obtain⟨ot,⟨rn,rd⟩,⟨pn,pd⟩,⟨vn,vd⟩⟩:=y;obtain⟨s0,s1,s2,s3,s4,s5,s6⟩:=hsm;dsimp only at c0 c1 c2 c3 c4 c5 c6 s0 s1 s2 s3 s4 s5 s6;have K1:=qh pk.n;have K2:=qh pk.q;have HF:=qh pk.l;dsimp only at K1 K2 HF;have LG1:=qh (fun g1 g2 W hE b1 b2=>zx rn rd s1 s2 g1 g2 W hE b1 b2);have LG2:=qh (fun g1 g2 W hE b1 b2=>zx pn pd s3 s4 g1 g2 W hE b1 b2);have LG3:=qh (fun g1 g2 W hE b1 b2=>zx vn vd s5 s6 g1 g2 W hE b1 b2);have HNm:=qh (fun W=>jG ot W (by omega));clear pk s0 s1 s2 s3 s4 s5 s6;generalize cz ⟨rn,rd⟩ false=lr at *;generalize cz ⟨pn,pd⟩ false=lp at *;generalize cz ⟨vn,vd⟩ false=lv at *;have HG:=qh (Blk.new wr 154 (oc ⟨ot,⟨rn,rd⟩,⟨pn,pd⟩,⟨vn,vd⟩⟩));replace HX:=qh (HX.out.alloc (.cells (oc ⟨ot,⟨rn,rd⟩,⟨pn,pd⟩,⟨vn,vd⟩⟩) 154));replace HL:=qh (HL.out.alloc (.cells (oc ⟨ot,⟨rn,rd⟩,⟨pn,pd⟩,⟨vn,vd⟩⟩) 154));replace HB:=qh (HB.out.alloc (.cells (oc ⟨ot,⟨rn,rd⟩,⟨pn,pd⟩,⟨vn,vd⟩⟩) 154));by_cases h0:ot=[]
   ·subst h0;clear HNm K1;obtain⟨r0,r1,r2,r3,r4,r5,r6⟩:=jd HG.out (Ext.refl _);obtain⟨-,-,-,-,-,x5,-⟩:=ah HB.out (Ext.refl _);by_cases hi:([]:Bs)=f.ins
    ·have qi:(([]:Bs) == f.ins)=true:=beq_iff_eq.2 hi;have e0:=K2.out (.inl rfl) hi;have e1:=HHit.out (by rw[e0];decide);rw[e0]at e1;subst e1;clear K2 HF HHit HNx LG1 LG2 LG3 hi;go_wp2_with fail;go_ret;exact⟨rfl,HX.out⟩
    have qi:(([]:Bs) == f.ins)=false:=beq_eq_false_iff_ne.2 hi;replace HF:=qh (HF.out (.inl rfl) hi);clear K2 hi;have HS:=qh (Blk.newAt (wr.alloc (.cells (oc ⟨[],⟨rn,rd⟩,⟨pn,pd⟩,⟨vn,vd⟩⟩) 154)) 26 #[.string (bs rn),.string (bs rd),.string (bs pn),.string (bs pd),.string (bs vn),.string (bs vd)] (wr.heap.size+1) (by simp));replace HX:=qh (HX.out.alloc (.cells #[.string (bs rn),.string (bs rd),.string (bs pn),.string (bs pd),.string (bs vn),.string (bs vd)] 26));replace HL:=qh (HL.out.alloc (.cells #[.string (bs rn),.string (bs rd),.string (bs pn),.string (bs pd),.string (bs vn),.string (bs vd)] 26));replace HB:=qh (HB.out.alloc (.cells #[.string (bs rn),.string (bs rd),.string (bs pn),.string (bs pd),.string (bs vn),.string (bs vd)] 26));replace HG:=qh (HG.out.alloc (.cells #[.string (bs rn),.string (bs rd),.string (bs pn),.string (bs pd),.string (bs vn),.string (bs vd)] 26));go_wp2_with fail;clear r0 r1 r2 r3 r4 r5 r6 x5;generalize (wr.alloc (.cells (oc ⟨[],⟨rn,rd⟩,⟨pn,pd⟩,⟨vn,vd⟩⟩) 154)).alloc (.cells #[.string (bs rn),.string (bs rd),.string (bs pn),.string (bs pd),.string (bs vn),.string (bs vd)] 26)=W5 at *;generalize wr.heap.size=G4 at *;go_loopw [45,6,7] (fun i _ _ wr=>∃j:Nat,j<=3∧i = .int .i64 j∧(0<j->lr=0)∧(1<j->lp=0)∧(2<j->lv=0)∧Ext w wr∧Ext W0 wr∧Blk wr gx 30 (af f P (ae (some ⟨b,o,none⟩) os.length c))∧Blk wr G4 154 (oc ⟨[],⟨rn,rd⟩,⟨pn,pd⟩,⟨vn,vd⟩⟩)∧Blk wr (G4+1) 26 #[.string (bs rn),.string (bs rd),.string (bs pn),.string (bs pd),.string (bs vn),.string (bs vd)]) (fun i _ _ _=>3-(intOf i).toNat)
    case atStart=>exact⟨0,by omega,rfl,fun h=>absurd h (by omega),fun h=>absurd h (by omega),fun h=>absurd h (by omega),HX.out,HL.out,HB.out,HG.out,HS.out⟩
    case round =>
     clear HX HL HB HG HS;obtain⟨j,hj,rfl,z1,z2,z3,hx,hl,hb,hg,hs⟩:=hrel;have HX:=qh hx;have HL:=qh hl;have HB:=qh hb;have HG:=qh hg;have HS:=qh hs;clear hx hl hb hg hs;obtain rfl|rfl|rfl|rfl:j=0∨j=1∨j=2∨j=3:=by omega
     ·skip;have a0:=HS.out.cell 0;have a1:=HS.out.cell 1;simp only[List.getElem?_toArray,List.getElem?_cons_zero,List.getElem?_cons_succ]at a0 a1;clear z1 z2 z3;have HV:=qh (Blk.new wr 26 #[.string (bs rn),.string (bs rd)]);replace HX:=qh (HX.out.alloc (.cells #[.string (bs rn),.string (bs rd)] 26));replace HL:=qh (HL.out.alloc (.cells #[.string (bs rn),.string (bs rd)] 26));replace HB:=qh (HB.out.alloc (.cells #[.string (bs rn),.string (bs rd)] 26));replace HG:=qh (HG.out.alloc (.cells #[.string (bs rn),.string (bs rd)] 26));replace HS:=qh (HS.out.alloc (.cells #[.string (bs rn),.string (bs rd)] 26));have LG:=LG1;clear LG1 LG2 LG3;go_upto_region 15 with fail;generalize wr.alloc (.cells #[.string (bs rn),.string (bs rd)] 26)=W6 at *;generalize wr.heap.size=G6 at *;obtain⟨b0,b1,_,_⟩:=ar HV.out (Ext.refl _);have HD:Hid (Ext W6 W6.drew):=qh (Ext.refl W6).drew
      go_region_held3 (fun w'=>w'.cell? ⟨G6,0,none⟩=some (.string (bs rn))∧w'.cell? ⟨G6,1,none⟩=some (.string (bs rd)))
       (go_keep)
       (first
        |(go_at_call 129;((with_reducible refine(dC false false _).mono ?_);rintro e w5⟨rfl,hb1,hb2,hx5⟩);(replace HD:=HD.qt hx5);(have HB1:Hid (Blk w5 W6.heap.size 4 #[.bool false]):=qh hb1);(have HB2:Hid (Blk w5 (W6.heap.size+1) 4 #[.bool false]):=qh hb2);(obtain⟨b0,b1,_,_⟩:=ar HV.out HD.out);clear hx5 hb1 hb2)
        |(go_at_call 199;((with_reducible refine(LG.out _ _ _ (HE.out.ext (HX.out.trans HD.out)) HB1.out HB2.out).mono ?_);rintro e w6⟨rfl,hx6⟩);(replace HD:=HD.qt hx6);(obtain⟨b0,b1,_,_⟩:=ar HV.out HD.out);clear hx6)
        |fail)
      all_goals
       clear LG;by_cases yl:lr=0
       ·have g5:(lr != 0)=false:=by rw[bne_eq_false_iff_eq];exact yl
        have hz1:Hid ((0<1->lr=0)∧(1<1->lp=0)∧(2<1->lv=0)):=qh (⟨fun _=>yl,fun h=>absurd h (by omega),fun h=>absurd h (by omega)⟩);clear HF;go_wp2_with fail;exact⟨⟨1,by omega,by go_num,hz1.out.1,hz1.out.2.1,hz1.out.2.2,HX.out.trans HD.out,HL.out.trans HD.out,HB.out.ext HD.out,HG.out.ext HD.out,HS.out.ext HD.out⟩,by simp[intOf]⟩
       ·have g5:(lr != 0)=true:=by rw[bne_iff_ne];exact yl
        have e0:=HF.out.1 yl;have e1:=HHit.out (by rw[e0];exact yl);rw[e0]at e1;subst e1;replace HX:=qh (HX.out.trans HD.out);clear HF HHit HNx;go_wp2_with fail;go_ret;exact⟨rfl,HX.out⟩
     ·skip;have a0:=HS.out.cell 2;have a1:=HS.out.cell 3;simp only[List.getElem?_toArray,List.getElem?_cons_zero,List.getElem?_cons_succ]at a0 a1;replace z1:=z1 (by omega);clear z2 z3;have hzr:=qh z1;clear z1;have HV:=qh (Blk.new wr 26 #[.string (bs pn),.string (bs pd)]);replace HX:=qh (HX.out.alloc (.cells #[.string (bs pn),.string (bs pd)] 26));replace HL:=qh (HL.out.alloc (.cells #[.string (bs pn),.string (bs pd)] 26));replace HB:=qh (HB.out.alloc (.cells #[.string (bs pn),.string (bs pd)] 26));replace HG:=qh (HG.out.alloc (.cells #[.string (bs pn),.string (bs pd)] 26));replace HS:=qh (HS.out.alloc (.cells #[.string (bs pn),.string (bs pd)] 26));have LG:=LG2;clear LG1 LG2 LG3;go_upto_region 15 with fail;generalize wr.alloc (.cells #[.string (bs pn),.string (bs pd)] 26)=W6 at *;generalize wr.heap.size=G6 at *;obtain⟨b0,b1,_,_⟩:=ar HV.out (Ext.refl _);have HD:Hid (Ext W6 W6.drew):=qh (Ext.refl W6).drew
      go_region_held3 (fun w'=>w'.cell? ⟨G6,0,none⟩=some (.string (bs pn))∧w'.cell? ⟨G6,1,none⟩=some (.string (bs pd)))
       (go_keep)
       (first
        |(go_at_call 129;((with_reducible refine(dC false false _).mono ?_);rintro e w5⟨rfl,hb1,hb2,hx5⟩);(replace HD:=HD.qt hx5);(have HB1:Hid (Blk w5 W6.heap.size 4 #[.bool false]):=qh hb1);(have HB2:Hid (Blk w5 (W6.heap.size+1) 4 #[.bool false]):=qh hb2);(obtain⟨b0,b1,_,_⟩:=ar HV.out HD.out);clear hx5 hb1 hb2)
        |(go_at_call 199;((with_reducible refine(LG.out _ _ _ (HE.out.ext (HX.out.trans HD.out)) HB1.out HB2.out).mono ?_);rintro e w6⟨rfl,hx6⟩);(replace HD:=HD.qt hx6);(obtain⟨b0,b1,_,_⟩:=ar HV.out HD.out);clear hx6)
        |fail)
      all_goals
       clear LG;by_cases yl:lp=0
       ·have g5:(lp != 0)=false:=by rw[bne_eq_false_iff_eq];exact yl
        have hz1:Hid ((0<2->lr=0)∧(1<2->lp=0)∧(2<2->lv=0)):=qh (⟨fun _=>hzr.out,fun _=>yl,fun h=>absurd h (by omega)⟩);clear HF;go_wp2_with fail;exact⟨⟨2,by omega,by go_num,hz1.out.1,hz1.out.2.1,hz1.out.2.2,HX.out.trans HD.out,HL.out.trans HD.out,HB.out.ext HD.out,HG.out.ext HD.out,HS.out.ext HD.out⟩,by simp[intOf]⟩
       ·have g5:(lp != 0)=true:=by rw[bne_iff_ne];exact yl
        have e0:=HF.out.2.1 hzr.out yl;have e1:=HHit.out (by rw[e0];exact yl);rw[e0]at e1;subst e1;replace HX:=qh (HX.out.trans HD.out);clear HF HHit HNx;go_wp2_with fail;go_ret;exact⟨rfl,HX.out⟩
     ·skip;have a0:=HS.out.cell 4;have a1:=HS.out.cell 5;simp only[List.getElem?_toArray,List.getElem?_cons_zero,List.getElem?_cons_succ]at a0 a1;have hzr:=qh (z1 (by omega));have hzp:=qh (z2 (by omega));clear z1 z2 z3;have HV:=qh (Blk.new wr 26 #[.string (bs vn),.string (bs vd)]);replace HX:=qh (HX.out.alloc (.cells #[.string (bs vn),.string (bs vd)] 26));replace HL:=qh (HL.out.alloc (.cells #[.string (bs vn),.string (bs vd)] 26));replace HB:=qh (HB.out.alloc (.cells #[.string (bs vn),.string (bs vd)] 26));replace HG:=qh (HG.out.alloc (.cells #[.string (bs vn),.string (bs vd)] 26));replace HS:=qh (HS.out.alloc (.cells #[.string (bs vn),.string (bs vd)] 26));have LG:=LG3;clear LG1 LG2 LG3;go_upto_region 15 with fail;generalize wr.alloc (.cells #[.string (bs vn),.string (bs vd)] 26)=W6 at *;generalize wr.heap.size=G6 at *;obtain⟨b0,b1,_,_⟩:=ar HV.out (Ext.refl _);have HD:Hid (Ext W6 W6.drew):=qh (Ext.refl W6).drew
      go_region_held3 (fun w'=>w'.cell? ⟨G6,0,none⟩=some (.string (bs vn))∧w'.cell? ⟨G6,1,none⟩=some (.string (bs vd)))
       (go_keep)
       (first
        |(go_at_call 129;((with_reducible refine(dC false false _).mono ?_);rintro e w5⟨rfl,hb1,hb2,hx5⟩);(replace HD:=HD.qt hx5);(have HB1:Hid (Blk w5 W6.heap.size 4 #[.bool false]):=qh hb1);(have HB2:Hid (Blk w5 (W6.heap.size+1) 4 #[.bool false]):=qh hb2);(obtain⟨b0,b1,_,_⟩:=ar HV.out HD.out);clear hx5 hb1 hb2)
        |(go_at_call 199;((with_reducible refine(LG.out _ _ _ (HE.out.ext (HX.out.trans HD.out)) HB1.out HB2.out).mono ?_);rintro e w6⟨rfl,hx6⟩);(replace HD:=HD.qt hx6);(obtain⟨b0,b1,_,_⟩:=ar HV.out HD.out);clear hx6)
        |fail)
      all_goals
       clear LG;by_cases yl:lv=0
       ·have g5:(lv != 0)=false:=by rw[bne_eq_false_iff_eq];exact yl
        have hz1:Hid ((0<3->lr=0)∧(1<3->lp=0)∧(2<3->lv=0)):=qh (⟨fun _=>hzr.out,fun _=>hzp.out,fun _=>yl⟩);clear HF;go_wp2_with fail;exact⟨⟨3,by omega,by go_num,hz1.out.1,hz1.out.2.1,hz1.out.2.2,HX.out.trans HD.out,HL.out.trans HD.out,HB.out.ext HD.out,HG.out.ext HD.out,HS.out.ext HD.out⟩,by simp[intOf]⟩
       ·have g5:(lv != 0)=true:=by rw[bne_iff_ne];exact yl
        have e0:=HF.out.2.2.1 hzr.out hzp.out yl;have e1:=HHit.out (by rw[e0];exact yl);rw[e0]at e1;subst e1;replace HX:=qh (HX.out.trans HD.out);clear HF HHit HNx;go_wp2_with fail;go_ret;exact⟨rfl,HX.out⟩
     ·skip;obtain⟨r0,r1,r2,r3,r4,r5,r6⟩:=jd HG.out (Ext.refl _);have HBK:=qh (HF.out.2.2.2 (z1 (by omega)) (z2 (by omega)) (z3 (by omega)));clear LG1 LG2 LG3 HF hj z1 z2 z3;by_cases b1:rn=[];rotate_left
      ·have q1:rn.isEmpty=false:=by simpa using b1
       have q:=fh b1;have e0:=HBK.out.1 (by simp[fC,b1]);have e1:=HHit.out (by rw[e0];decide);rw[e0]at e1;subst e1;clear HBK HHit HNx;go_wp2_with fail;go_quiet (fail);go_wp2_with fail;go_ret;exact⟨rfl,HX.out.drewN _⟩
      subst b1;by_cases b2:rd=[];rotate_left
      ·have q1:rd.isEmpty=false:=by simpa using b2
       have q:=fh b2;have e0:=HBK.out.1 (by simp[fC,b2]);have e1:=HHit.out (by rw[e0];decide);rw[e0]at e1;subst e1;clear HBK HHit HNx;go_wp2_with fail;go_quiet (fail);go_wp2_with fail;go_ret;exact⟨rfl,HX.out.drewN _⟩
      subst b2;by_cases b3:vn=[];rotate_left
      ·have q1:vn.isEmpty=false:=by simpa using b3
       have q:=fh b3;have e0:=HBK.out.1 (by simp[fC,b3]);have e1:=HHit.out (by rw[e0];decide);rw[e0]at e1;subst e1;clear HBK HHit HNx;go_wp2_with fail;go_quiet (fail);go_wp2_with fail;go_ret;exact⟨rfl,HX.out.drewN _⟩
      subst b3;by_cases b4:vd=[];rotate_left
      ·have q1:vd.isEmpty=false:=by simpa using b4
       have q:=fh b4;have e0:=HBK.out.1 (by simp[fC,b4]);have e1:=HHit.out (by rw[e0];decide);rw[e0]at e1;subst e1;clear HBK HHit HNx;go_wp2_with fail;go_quiet (fail);go_wp2_with fail;go_ret;exact⟨rfl,HX.out.drewN _⟩
      subst b4;have hp0:=HBK.out.2 (by simp[fC]);have hz1:=qh (HNx.out hp0);clear HBK HHit HNx hp0;go_wp2_with fail;go_quiet (fail);go_wp2_with fail;exact⟨⟨k+1,by omega,by go_num,hz1.out,HL.out.drewN _⟩,by simp[intOf];omega⟩
   ·have qe:ot.isEmpty=false:=by simpa using h0
    replace K1:=qh (K1.out h0);obtain⟨r0,r1,r2,r3,r4,r5,r6⟩:=jd HG.out (Ext.refl _);obtain⟨-,-,-,-,-,x5,-⟩:=ah HB.out (Ext.refl _);go_wp2_with fail;refine(HNm.out _).mono ?_;rintro e W4⟨rfl,hx1⟩;replace HX:=HX.qt hx1;replace HL:=HL.qt hx1;replace HB:=qh (HB.out.ext hx1);replace HG:=qh (HG.out.ext hx1);clear hx1 c0 c1 c2 c3 c4 c5 c6 hb HNm x5 r0 r1 r2 r3 r4 r5 r6;generalize hG4:wr.heap.size=G4 at *;clear hG4;generalize isName ot=nm at *
    cases nm
    ·have e0:=K1.out (by trivial);have e1:=HHit.out (by rw[e0];decide);rw[e0]at e1;subst e1;clear K1 K2 HF HHit HNx LG1 LG2 LG3;go_wp2_with fail;go_ret;exact⟨rfl,HX.out⟩
    obtain⟨r0,r1,r2,r3,r4,r5,r6⟩:=jd HG.out (Ext.refl _);obtain⟨-,-,-,-,-,x5,-⟩:=ah HB.out (Ext.refl _);by_cases hi:ot=f.ins
    ·have qi:(ot == f.ins)=true:=beq_iff_eq.2 hi;have e0:=K2.out (.inr (by trivial)) hi;have e1:=HHit.out (by rw[e0];decide);rw[e0]at e1;subst e1;clear K1 K2 HF HHit HNx LG1 LG2 LG3 hi;go_wp2_with fail;go_ret;exact⟨rfl,HX.out⟩
    have qi:(ot == f.ins)=false:=beq_eq_false_iff_ne.2 hi;replace HF:=qh (HF.out (.inr (by trivial)) hi);clear K1 K2 hi;have HS:=qh (Blk.new W4 26 #[.string (bs rn),.string (bs rd),.string (bs pn),.string (bs pd),.string (bs vn),.string (bs vd)]);replace HX:=qh (HX.out.alloc (.cells #[.string (bs rn),.string (bs rd),.string (bs pn),.string (bs pd),.string (bs vn),.string (bs vd)] 26));replace HL:=qh (HL.out.alloc (.cells #[.string (bs rn),.string (bs rd),.string (bs pn),.string (bs pd),.string (bs vn),.string (bs vd)] 26));replace HB:=qh (HB.out.alloc (.cells #[.string (bs rn),.string (bs rd),.string (bs pn),.string (bs pd),.string (bs vn),.string (bs vd)] 26));replace HG:=qh (HG.out.alloc (.cells #[.string (bs rn),.string (bs rd),.string (bs pn),.string (bs pd),.string (bs vn),.string (bs vd)] 26));go_wp2_with fail;clear r0 r1 r2 r3 r4 r5 r6 x5;generalize hG5:W4.heap.size=G5 at *;generalize W4.alloc (.cells #[.string (bs rn),.string (bs rd),.string (bs pn),.string (bs pd),.string (bs vn),.string (bs vd)] 26)=W5 at *;clear hG5;go_loopw [45,6,7] (fun i _ _ wr=>∃j:Nat,j<=3∧i = .int .i64 j∧(0<j->lr=0)∧(1<j->lp=0)∧(2<j->lv=0)∧Ext w wr∧Ext W0 wr∧Blk wr gx 30 (af f P (ae (some ⟨b,o,none⟩) os.length c))∧Blk wr G4 154 (oc ⟨ot,⟨rn,rd⟩,⟨pn,pd⟩,⟨vn,vd⟩⟩)∧Blk wr G5 26 #[.string (bs rn),.string (bs rd),.string (bs pn),.string (bs pd),.string (bs vn),.string (bs vd)]) (fun i _ _ _=>3-(intOf i).toNat)
    case atStart=>exact⟨0,by omega,rfl,fun h=>absurd h (by omega),fun h=>absurd h (by omega),fun h=>absurd h (by omega),HX.out,HL.out,HB.out,HG.out,HS.out⟩
    case round =>
     clear HX HL HB HG HS;obtain⟨j,hj,rfl,z1,z2,z3,hx,hl,hb,hg,hs⟩:=hrel;have HX:=qh hx;have HL:=qh hl;have HB:=qh hb;have HG:=qh hg;have HS:=qh hs;clear hx hl hb hg hs;obtain rfl|rfl|rfl|rfl:j=0∨j=1∨j=2∨j=3:=by omega
     ·skip;have a0:=HS.out.cell 0;have a1:=HS.out.cell 1;simp only[List.getElem?_toArray,List.getElem?_cons_zero,List.getElem?_cons_succ]at a0 a1;clear z1 z2 z3;have HV:=qh (Blk.new wr 26 #[.string (bs rn),.string (bs rd)]);replace HX:=qh (HX.out.alloc (.cells #[.string (bs rn),.string (bs rd)] 26));replace HL:=qh (HL.out.alloc (.cells #[.string (bs rn),.string (bs rd)] 26));replace HB:=qh (HB.out.alloc (.cells #[.string (bs rn),.string (bs rd)] 26));replace HG:=qh (HG.out.alloc (.cells #[.string (bs rn),.string (bs rd)] 26));replace HS:=qh (HS.out.alloc (.cells #[.string (bs rn),.string (bs rd)] 26));have LG:=LG1;clear LG1 LG2 LG3;go_upto_region 15 with fail;generalize wr.alloc (.cells #[.string (bs rn),.string (bs rd)] 26)=W6 at *;generalize wr.heap.size=G6 at *;obtain⟨b0,b1,_,_⟩:=ar HV.out (Ext.refl _);have HD:Hid (Ext W6 W6.drew):=qh (Ext.refl W6).drew
      go_region_held3 (fun w'=>w'.cell? ⟨G6,0,none⟩=some (.string (bs rn))∧w'.cell? ⟨G6,1,none⟩=some (.string (bs rd)))
       (go_keep)
       (first
        |(go_at_call 129;((with_reducible refine(dC false false _).mono ?_);rintro e w5⟨rfl,hb1,hb2,hx5⟩);(replace HD:=HD.qt hx5);(have HB1:Hid (Blk w5 W6.heap.size 4 #[.bool false]):=qh hb1);(have HB2:Hid (Blk w5 (W6.heap.size+1) 4 #[.bool false]):=qh hb2);(obtain⟨b0,b1,_,_⟩:=ar HV.out HD.out);clear hx5 hb1 hb2)
        |(go_at_call 199;((with_reducible refine(LG.out _ _ _ (HE.out.ext (HX.out.trans HD.out)) HB1.out HB2.out).mono ?_);rintro e w6⟨rfl,hx6⟩);(replace HD:=HD.qt hx6);(obtain⟨b0,b1,_,_⟩:=ar HV.out HD.out);clear hx6)
        |fail)
      all_goals
       clear LG;by_cases yl:lr=0
       ·have g5:(lr != 0)=false:=by rw[bne_eq_false_iff_eq];exact yl
        have hz1:Hid ((0<1->lr=0)∧(1<1->lp=0)∧(2<1->lv=0)):=qh (⟨fun _=>yl,fun h=>absurd h (by omega),fun h=>absurd h (by omega)⟩);clear HF;go_wp2_with fail;exact⟨⟨1,by omega,by go_num,hz1.out.1,hz1.out.2.1,hz1.out.2.2,HX.out.trans HD.out,HL.out.trans HD.out,HB.out.ext HD.out,HG.out.ext HD.out,HS.out.ext HD.out⟩,by simp[intOf]⟩
       ·have g5:(lr != 0)=true:=by rw[bne_iff_ne];exact yl
        have e0:=HF.out.1 yl;have e1:=HHit.out (by rw[e0];exact yl);rw[e0]at e1;subst e1;replace HX:=qh (HX.out.trans HD.out);clear HF HHit HNx;go_wp2_with fail;go_ret;exact⟨rfl,HX.out⟩
     ·skip;have a0:=HS.out.cell 2;have a1:=HS.out.cell 3;simp only[List.getElem?_toArray,List.getElem?_cons_zero,List.getElem?_cons_succ]at a0 a1;replace z1:=z1 (by omega);clear z2 z3;have hzr:=qh z1;clear z1;have HV:=qh (Blk.new wr 26 #[.string (bs pn),.string (bs pd)]);replace HX:=qh (HX.out.alloc (.cells #[.string (bs pn),.string (bs pd)] 26));replace HL:=qh (HL.out.alloc (.cells #[.string (bs pn),.string (bs pd)] 26));replace HB:=qh (HB.out.alloc (.cells #[.string (bs pn),.string (bs pd)] 26));replace HG:=qh (HG.out.alloc (.cells #[.string (bs pn),.string (bs pd)] 26));replace HS:=qh (HS.out.alloc (.cells #[.string (bs pn),.string (bs pd)] 26));have LG:=LG2;clear LG1 LG2 LG3;go_upto_region 15 with fail;generalize wr.alloc (.cells #[.string (bs pn),.string (bs pd)] 26)=W6 at *;generalize wr.heap.size=G6 at *;obtain⟨b0,b1,_,_⟩:=ar HV.out (Ext.refl _);have HD:Hid (Ext W6 W6.drew):=qh (Ext.refl W6).drew
      go_region_held3 (fun w'=>w'.cell? ⟨G6,0,none⟩=some (.string (bs pn))∧w'.cell? ⟨G6,1,none⟩=some (.string (bs pd)))
       (go_keep)
       (first
        |(go_at_call 129;((with_reducible refine(dC false false _).mono ?_);rintro e w5⟨rfl,hb1,hb2,hx5⟩);(replace HD:=HD.qt hx5);(have HB1:Hid (Blk w5 W6.heap.size 4 #[.bool false]):=qh hb1);(have HB2:Hid (Blk w5 (W6.heap.size+1) 4 #[.bool false]):=qh hb2);(obtain⟨b0,b1,_,_⟩:=ar HV.out HD.out);clear hx5 hb1 hb2)
        |(go_at_call 199;((with_reducible refine(LG.out _ _ _ (HE.out.ext (HX.out.trans HD.out)) HB1.out HB2.out).mono ?_);rintro e w6⟨rfl,hx6⟩);(replace HD:=HD.qt hx6);(obtain⟨b0,b1,_,_⟩:=ar HV.out HD.out);clear hx6)
        |fail)
      all_goals
       clear LG;by_cases yl:lp=0
       ·have g5:(lp != 0)=false:=by rw[bne_eq_false_iff_eq];exact yl
        have hz1:Hid ((0<2->lr=0)∧(1<2->lp=0)∧(2<2->lv=0)):=qh (⟨fun _=>hzr.out,fun _=>yl,fun h=>absurd h (by omega)⟩);clear HF;go_wp2_with fail;exact⟨⟨2,by omega,by go_num,hz1.out.1,hz1.out.2.1,hz1.out.2.2,HX.out.trans HD.out,HL.out.trans HD.out,HB.out.ext HD.out,HG.out.ext HD.out,HS.out.ext HD.out⟩,by simp[intOf]⟩
       ·have g5:(lp != 0)=true:=by rw[bne_iff_ne];exact yl
        have e0:=HF.out.2.1 hzr.out yl;have e1:=HHit.out (by rw[e0];exact yl);rw[e0]at e1;subst e1;replace HX:=qh (HX.out.trans HD.out);clear HF HHit HNx;go_wp2_with fail;go_ret;exact⟨rfl,HX.out⟩
     ·skip;have a0:=HS.out.cell 4;have a1:=HS.out.cell 5;simp only[List.getElem?_toArray,List.getElem?_cons_zero,List.getElem?_cons_succ]at a0 a1;have hzr:=qh (z1 (by omega));have hzp:=qh (z2 (by omega));clear z1 z2 z3;have HV:=qh (Blk.new wr 26 #[.string (bs vn),.string (bs vd)]);replace HX:=qh (HX.out.alloc (.cells #[.string (bs vn),.string (bs vd)] 26));replace HL:=qh (HL.out.alloc (.cells #[.string (bs vn),.string (bs vd)] 26));replace HB:=qh (HB.out.alloc (.cells #[.string (bs vn),.string (bs vd)] 26));replace HG:=qh (HG.out.alloc (.cells #[.string (bs vn),.string (bs vd)] 26));replace HS:=qh (HS.out.alloc (.cells #[.string (bs vn),.string (bs vd)] 26));have LG:=LG3;clear LG1 LG2 LG3;go_upto_region 15 with fail;generalize wr.alloc (.cells #[.string (bs vn),.string (bs vd)] 26)=W6 at *;generalize wr.heap.size=G6 at *;obtain⟨b0,b1,_,_⟩:=ar HV.out (Ext.refl _);have HD:Hid (Ext W6 W6.drew):=qh (Ext.refl W6).drew
      go_region_held3 (fun w'=>w'.cell? ⟨G6,0,none⟩=some (.string (bs vn))∧w'.cell? ⟨G6,1,none⟩=some (.string (bs vd)))
       (go_keep)
       (first
        |(go_at_call 129;((with_reducible refine(dC false false _).mono ?_);rintro e w5⟨rfl,hb1,hb2,hx5⟩);(replace HD:=HD.qt hx5);(have HB1:Hid (Blk w5 W6.heap.size 4 #[.bool false]):=qh hb1);(have HB2:Hid (Blk w5 (W6.heap.size+1) 4 #[.bool false]):=qh hb2);(obtain⟨b0,b1,_,_⟩:=ar HV.out HD.out);clear hx5 hb1 hb2)
        |(go_at_call 199;((with_reducible refine(LG.out _ _ _ (HE.out.ext (HX.out.trans HD.out)) HB1.out HB2.out).mono ?_);rintro e w6⟨rfl,hx6⟩);(replace HD:=HD.qt hx6);(obtain⟨b0,b1,_,_⟩:=ar HV.out HD.out);clear hx6)
        |fail)
      all_goals
       clear LG;by_cases yl:lv=0
       ·have g5:(lv != 0)=false:=by rw[bne_eq_false_iff_eq];exact yl
        have hz1:Hid ((0<3->lr=0)∧(1<3->lp=0)∧(2<3->lv=0)):=qh (⟨fun _=>hzr.out,fun _=>hzp.out,fun _=>yl⟩);clear HF;go_wp2_with fail;exact⟨⟨3,by omega,by go_num,hz1.out.1,hz1.out.2.1,hz1.out.2.2,HX.out.trans HD.out,HL.out.trans HD.out,HB.out.ext HD.out,HG.out.ext HD.out,HS.out.ext HD.out⟩,by simp[intOf]⟩
       ·have g5:(lv != 0)=true:=by rw[bne_iff_ne];exact yl
        have e0:=HF.out.2.2.1 hzr.out hzp.out yl;have e1:=HHit.out (by rw[e0];exact yl);rw[e0]at e1;subst e1;replace HX:=qh (HX.out.trans HD.out);clear HF HHit HNx;go_wp2_with fail;go_ret;exact⟨rfl,HX.out⟩
     ·skip;obtain⟨r0,r1,r2,r3,r4,r5,r6⟩:=jd HG.out (Ext.refl _);have HBK:=qh (HF.out.2.2.2 (z1 (by omega)) (z2 (by omega)) (z3 (by omega)));clear LG1 LG2 LG3 HF hj z1 z2 z3;by_cases b1:rn=[];rotate_left
      ·have q1:rn.isEmpty=false:=by simpa using b1
       have q:=fh b1;have hp0:=HBK.out.2 (by simp[fC,h0,b1]);have hz1:=qh (HNx.out hp0);clear HBK HHit HNx hp0;go_wp2_with fail;go_quiet (fail);go_wp2_with fail;exact⟨⟨k+1,by omega,by go_num,hz1.out,HL.out.drewN _⟩,by simp[intOf];omega⟩
      subst b1;by_cases b2:rd=[];rotate_left
      ·have q1:rd.isEmpty=false:=by simpa using b2
       have q:=fh b2;have hp0:=HBK.out.2 (by simp[fC,h0,b2]);have hz1:=qh (HNx.out hp0);clear HBK HHit HNx hp0;go_wp2_with fail;go_quiet (fail);go_wp2_with fail;exact⟨⟨k+1,by omega,by go_num,hz1.out,HL.out.drewN _⟩,by simp[intOf];omega⟩
      subst b2;have e0:=HBK.out.1 (by simp[fC,h0]);have e1:=HHit.out (by rw[e0];decide);rw[e0]at e1;subst e1;clear HBK HHit HNx;go_wp2_with fail;go_quiet (fail);go_wp2_with fail;go_ret;exact⟨rfl,HX.out.drewN _⟩
  ·obtain rfl:k=os.length:=by omega
   have hki:¬ ((os.length:Int)<(os.length:Int)):=by omega
   have e0:=P3.out HZ.out;subst e0;clear hk hlt P2 P3 HZ;go_wp2_with fail;go_ret;exact⟨rfl,HX.out⟩
end
section
open Go.RowKit
open Go.Maps (Keyed)
inductive KK
 |lv (p q:Bool)|mk|am|wc|mm|tm|no
 |nm (es:List (Nat × Nat × Bool × Bool))
 |tn (s:Nat) (es:List (Nat × Nat × Bool × Bool))
 |kd (word:Bs) (cl:Int) (bits:List Bool) (src:Option Nat) (code:Bool)
 |ka (word:Bs)
 |sl (ms:List Nat)
structure KC where
 w0:World
 G1:Nat
 G3:Nat
 lvP:Value
 Bt:Nat
abbrev KC.amV(c:KC):Value := .func (.func 131) #[] #[.pointer (some ⟨c.G3,0,none⟩),.pointer (some ⟨c.G1,0,none⟩)]
abbrev iR:kE:=[(4,true,false),(5,false,false),(6,false,false)]
abbrev Tm:=Nat->Value
def ce(a:Act):Tm:=fun d=>a.tmps.getD d undef
def NM(f:Nat)(ls:Array Bool)(w:World)(es:List (Nat × Nat × Bool × Bool))(b:Nat):Prop :=
 ∃n D,bD w b n D∧n+f<=200∧gA D (es.map (·.2.1))∧∀e ∈ es,ls.getD e.1 false=true->iu w D e.2.1 e.2.2.1 e.2.2.2
def nT(T:Tm):Option Nat->Value
 |none => .map none
 |some s=>T s
def lO(c:KC)(f:Nat)(ops:Array Oper)(ls:Array Bool)(bm:Option Nat)(T:Tm)(w:World):KK->Value->Prop
 |.lv p q,v=>dz w v p q
 |.mk,v=>v=fE
 |.am,v=>v=c.amV
 |.wc,v=>v=Iw
 |.mm,v=>∃b,v = .map (some b)∧bm=some b
 |.tm,v=>v = .map (some c.Bt)
 |.nm es,v=>∃b,v = .map (some b)∧c.w0.heap.size<=b∧some b≠bm∧b≠c.Bt∧NM f ls w es b
 |.tn s es,v=>v=T s∧aO ops ls s∧∀e ∈ es,ls.getD e.1 false=true
 |.kd word cl bits src code,v=>v=kv word cl bits (nT T src) code∧∀s,src=some s->aO ops ls s
 |.ka word,v=>∃b,v=kv word 2 d9 (.map (some b)) false∧c.w0.heap.size<=b∧some b≠bm∧b≠c.Bt∧CM w b [(5,true,false)]
 |.sl ms,v=>pI w v ms
 |.no,_=>True
def sw:Value->Option Nat
 |.map (some b)=>some b
 |_=>none
def gB:Value->Option Nat
 |.map (some b)=>some b
 |.agg a=>(a[15]?).bind sw
 |_=>none
def KK.own:KK->Bool
 |.nm _=>true
 |.ka _=>true
 |_=>false
def oV(c:KC)(tab:List (Nat × Nat × Nat))(f:Nat)(ops:Array Oper)(ls:Array Bool)(T:Tm)(b:Nat)(w:World):Prop :=
 c.w0.heap.size<=b∧b≠c.Bt∧∃n D,bD w b n D∧n+f<=200∧gA D (tab.map (·.2.1)) ∧
  ∀e ∈ tab,ls.getD e.1 false=true->aO ops ls e.2.2∧Maps.has D (.int .i64 (e.2.1:Nat))=true∧∀z,D.atKey (.int .i64 (e.2.1:Nat)) z = .held (T e.2.2)
structure KInv (c:KC) (sk:Nat->KK) (tab:List (Nat × Nat × Nat)) (ops:Array Oper) (f:Nat) (ls:Array Bool) (bm:Option Nat) (a:Act) (w:World):Prop where
 size:ls.size=ops.size
 cnt:ls.toList.count false<=f
 ext:Ext c.w0 w
 tms:a.tmps.size=105
 dfr:a.defers=[]
 t1:ce a 1 = .pointer (some ⟨c.G1,0,none⟩)
 t3:ce a 3 = .pointer (some ⟨c.G3,0,none⟩)
 b1:Blk w c.G1 oO #[c.lvP]
 b3:Blk w c.G3 FT #[fE]
 lp:dz w c.lvP true false
 tr:CM w c.Bt iR
 fits:∀d,aO ops ls d->lO c f ops ls bm (ce a) w (sk d) (ce a d)
 dist:∀d d',d≠d'->aO ops ls d->aO ops ls d'->(sk d).own=true->(sk d').own=true->gB (ce a d)≠gB (ce a d')
 main:∀b,bm=some b->oV c tab f ops ls (ce a) b w
 fst:ls.getD 0 false=false->bm=none
 cl:∀(j:Nat) (oj:Oper) (p:Nat),ops[j]? = some oj->ls.getD j false=true->(oj.after.toList.any fun e=>e.on == p && Region.binds .any e)=true->ls.getD p false=true
def db(c:KC)(sk:Nat->KK)(tab:List (Nat × Nat × Nat))(ops:Array Oper)(f:Nat)(ls:Array Bool)(a:Act)(w:World):Prop:=∃bm,KInv c sk tab ops f ls bm a w
structure Uniq (ops:Array Oper):Prop where
 one:∀(i j:Nat) (oi oj:Oper) (d:Nat),ops[i]? = some oi->ops[j]? = some oj->oi.dst=some d->oj.dst=some d->i=j
 base:∀(i:Nat) (o:Oper) (d:Nat),ops[i]? = some o->o.dst=some d->d≠1∧d≠2∧d≠3∧d≠4∧d≠5∧d≠6∧d<105
theorem ef{ops:Array Oper}{ls:Array Bool}{d i:Nat}(h:aO ops ls d):aO ops (ls.setIfInBounds i true) d:=by
 rcases h with h | ⟨j,o,h1,h2,h3⟩
 ·exact .inl h
 ·exact .inr ⟨j,o,h1,gP h2,h3⟩
theorem Uniq.fresh{ops:Array Oper}(u:Uniq ops){ls:Array Bool}{i:Nat}(hi:i ∈ Region.ready .any ops ls){o:Oper}(ho:ops[i]? = some o){d:Nat}(hd:o.dst=some d):¬ aO ops ls d:=by
 rintro(h | ⟨j,oj,h1,h2,h3⟩)
 ·have:=u.base i o d ho hd;omega
 ·have:=u.one i j o oj d ho h1 hd h3;subst this
  have hr:=dD hi;rw[Array.getD_eq_getD_getElem?]at hr h2
  cases e:ls[i]? with
  |none=>rw[e]at hr;cases hr
  |some x=>rw[e]at hr h2;exact absurd (hr.symm.trans h2) (by simp)
theorem sA{a:Act}{o:Oper}{v:Value}{x:Nat}(h:∀d,o.dst=some d->x≠d):ce (a.put o.dst v) x=ce a x:=by
 cases hd:o.dst with
 |none=>rfl
 |some d=>exact zj (h d hd)
theorem jB{ops:Array Oper}{ls:Array Bool}{d i:Nat}{o:Oper}(ho:ops[i]? = some o)(h:aO ops (ls.setIfInBounds i true) d):o.dst=some d∨aO ops ls d:=by
 rcases h with h | ⟨j,oj,h1,h2,h3⟩
 ·exact .inr (.inl h)
 ·rcases cM h2 with e|e
  ·subst e;rw[ho]at h1
   cases h1;exact .inl h3
  ·exact .inr (.inr ⟨j,oj,h1,e,h3⟩)
section
variable {c:KC} {sk:Nat->KK} {tab:List (Nat × Nat × Nat)} {ops:Array Oper} {f:Nat} {ls:Array Bool} {bm:Option Nat} {a:Act} {w:World} {i:Nat} {o:Oper}
theorem KInv.step(u:Uniq ops)(h:KInv c sk tab ops (f+1) ls bm a w)(hi:i ∈ Region.ready .any ops ls)(ho:ops[i]? = some o)(v:Value)(w':World)(bm':Option Nat)
  (hfit:∀d,aO ops ls d->lO c f ops (ls.setIfInBounds i true) bm' (ce (a.put o.dst v)) w' (sk d) (ce a d))
  (hnew:∀d,o.dst=some d->lO c f ops (ls.setIfInBounds i true) bm' (ce (a.put o.dst v)) w' (sk d) v∧((sk d).own=true->∃b,gB v=some b∧w.heap.size<=b))
  (hext:Ext c.w0 w') (hblk:∀g t cs,Blk w g t cs->Blk w' g t cs) (htr:CM w' c.Bt iR)
  (hmain:∀b,bm'=some b->oV c tab f ops (ls.setIfInBounds i true) (ce (a.put o.dst v)) b w')
  (hnone:(ls.setIfInBounds i true).getD 0 false=false->bm'=none):db c sk tab ops f (ls.setIfInBounds i true) (a.put o.dst v) w':=by
 have hc:=count_set (dD hi);have hcn:=h.cnt;have hput:∀x,(∀d,o.dst=some d->x≠d)->ce (a.put o.dst v) x=ce a x:=fun x hx=>sA hx
 have hold:∀d,aO ops ls d->ce (a.put o.dst v) d=ce a d:=fun d hf=>hput d fun d' hd' e=>u.fresh hi ho hd' (e ▸ hf)
 have hself:∀d,o.dst=some d->ce (a.put o.dst v) d=v:=fun d hd=>by
  rw[hd];exact zk (by rw[h.tms];exact(u.base i o d ho hd).2.2.2.2.2.2)
 have hlt:∀d b,aO ops ls d->(sk d).own=true->gB (ce a d)=some b->b<w.heap.size:=fun d b hf ho' hm=>by
  have hF:=h.fits d hf;generalize sk d=k at *;generalize ce a d=vd at *
  cases k with
  |nm es =>
   obtain⟨b',rfl,_,_,_,n,D,hM,_⟩:=hF;have:b'=b:=by simpa[gB] using hm
   subst this
   exact hM.lt
  |ka word =>
   obtain⟨b',rfl,_,_,_,hM⟩:=hF;have:b'=b:=by simpa[gB,sw,aJ,d9] using hm
   subst this
   exact hM.lt
  |_=>cases ho'
 refine⟨bm',by rw[Array.size_setIfInBounds];exact h.size,by omega,hext,?_,?_,?_,?_,hblk _ _ _ h.b1,hblk _ _ _ h.b3,h.lp.on hblk,htr,?_,?_,hmain,hnone,?_⟩
 ·unfold Act.put;split
  ·rw[←h.tms];exact Array.size_setIfInBounds ..
  ·exact h.tms
 ·unfold Act.put;split <;> exact h.dfr
 ·rw[hput 1 (fun d hd=>(u.base i o d ho hd).1.symm)];exact h.t1
 ·rw[hput 3 (fun d hd=>(u.base i o d ho hd).2.2.1.symm)];exact h.t3
 ·intro d hf;rcases jB ho hf with hd|hd
  ·rw[hself d hd];exact(hnew d hd).1
  ·rw[hold d hd];exact hfit d hd
 ·intro d d' hne hf hf' h1 h2;rcases jB ho hf with hd|hd
  ·rcases jB ho hf' with hd' | hd'
   ·rw[hd]at hd'
    cases hd';exact absurd rfl hne
   ·obtain⟨b,e,hb⟩:=(hnew d hd).2 h1;rw[hself d hd,hold d' hd',e];intro e2;have:=hlt d' b hd' h2 e2.symm;omega
  ·rcases jB ho hf' with hd' | hd'
   ·obtain⟨b,e,hb⟩:=(hnew d' hd').2 h2;rw[hself d' hd',hold d hd,e];intro e2;have:=hlt d b hd h1 e2;omega
   ·rw[hold d hd,hold d' hd'];exact h.dist d d' hne hd hd' h1 h2
 ·intro j oj p hj hl hp;rcases cM hl with e|e
  ·subst e;rw[ho]at hj
   cases hj;exact gP (eP hi ho hp)
  ·exact gP (h.cl j oj p hj e hp)
end
end
end Go.Proofs.YtaegjkllenlfpaaGreatDoor
