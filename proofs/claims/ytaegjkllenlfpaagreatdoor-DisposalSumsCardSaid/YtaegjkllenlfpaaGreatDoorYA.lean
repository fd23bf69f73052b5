/- The seat's texts, part YA. -/
import Derived.Test.YtaegjkllenlfpaaGreatDoorYI
set_option maxRecDepth 100000
set_option maxHeartbeats 8000000
namespace Go.Proofs.YtaegjkllenlfpaaGreatDoor
open Go.Proofs.Tryz
section
open Go.RowKit
attribute [local go_sem] size_bs toList_bs extract_bs get_bs append_bs lit_append append_lit
theorem DX(l:Bs)(w:World)(hs:l.length<=1000000):Calls prog 116 #[.string (bs l)] w fun e w'=>e = .returned (.bool (isId l))∧w'=w:=by
 go_enter func116,ntmps116;go_wp2_with fail;go_loop [3,4] (fun a i=>∃k:Nat,k<=l.length∧a = .int .i64 (-1)∧i = .int .i64 k∧(∀x ∈ l.take k,x≠47)) (fun a i=>l.length-(intOf i).toNat)
 case atStart=>exact⟨0,Om _,rfl,rfl,by simp⟩
 case round =>
  obtain⟨k,hk,rfl,rfl,hd⟩:=hrel;have HD:=qh hd;clear hd;by_cases hlt:k<l.length
  ·by_cases hc:l[k]'hlt=47
   ·have g:(((l[k]'hlt).toNat:Int) == 47)=true:=by rw[hc];rfl
    have g0:decide ((k:Int)<0)=false:=by simp
    have HI:Hid (isId l=(isName (l.take k) && numOK (l.drop (k+1)))):=qh (by unfold isId;rw[DV l k hlt HD.out hc]);have HN:=qh (si (l.take k) w (by rw[Mu];omega));have hul:(l.drop (k+1)).length<=1000000:=by rw[MU];omega
    clear hc
    cases hz:isName (l.take k)
    ·rw[hz]at HN HI;clear hz;go_wp2_with fail;refine HN.out.mono ?_;rintro e w1⟨rfl,rfl⟩;go_wp2_with fail;go_ret;exact⟨by rw[HI.out];rfl,rfl⟩
    ·rw[hz]at HN HI;clear hz;go_wp2_with fail;refine HN.out.mono ?_;rintro e w1⟨rfl,rfl⟩;go_upto_region 10 with fail;rw[show(l.drop (k+1)).take (l.length-(k+1))=l.drop (k+1) from Mv (by rw[MU];exact Mn _)];generalize l.drop (k+1)=u at *;clear HN g g0;go_wp2_with fail;go_loop [6] (fun i=>∃j:Nat,j<=u.length∧i = .int .i64 j∧(u.take j).all isD=true) (fun i=>u.length-(intOf i).toNat)
     case atStart=>exact⟨0,Om _,rfl,rfl⟩
     case round =>
      obtain⟨j,hj,rfl,hd⟩:=hrel;replace HD:=qh hd;clear hd;by_cases hltj:j<u.length
      ·by_cases hc1:((u[j]'hltj).toNat:Int)<48
       ·have HU:=qh (nM u j hltj (by rw[←Oa,isD_iff];omega));have g5:decide (((u[j]'hltj).toNat:Int)<48)=true:=by simp[hc1]
        go_wp2_with fail;go_ret;exact⟨by rw[HI.out,HU.out];rfl,rfl⟩
       ·have g5:decide (((u[j]'hltj).toNat:Int)<48)=false:=by simp;omega
        by_cases hc2:57<((u[j]'hltj).toNat:Int)
        ·have HU:=qh (nM u j hltj (by rw[←Oa,isD_iff];omega));have g6:decide (57<((u[j]'hltj).toNat:Int))=true:=by simp[hc2]
         go_wp2_with fail;go_ret;exact⟨by rw[HI.out,HU.out];rfl,rfl⟩
        ·have g6:decide (57<((u[j]'hltj).toNat:Int))=false:=by simp;omega
         have HT:=qh (yz u j hltj HD.out ((isD_iff _).2 (by omega)));clear hc1 hc2;go_wp2_with fail;go_round
         case rel=>exact⟨j+1,by omega,by go_num,HT.out⟩
         case measure=>simp[intOf];omega
      ·have HA:Hid (u.all isD=true):=qh (by have:=HD.out;rwa[Mv (by omega)]at this);by_cases h1:1<=u.length
       ·by_cases h4:u.length<=4
        ·have h0:0<u.length:=by omega
         have hh:u.headD 48=u[0]'h0:=by cases u with
          |nil=>simp at h0
          |cons c r=>rfl
         have g1:decide (1<=(u.length:Int))=true:=by simp;omega
         have g2:decide ((u.length:Int)<=4)=true:=by simp;omega
         by_cases hz:u[0]'h0=48
         focus
          have HU:Hid (numOK u=false):=qh (by unfold numOK;rw[hh,hz];simp);have g3:(((u[0]'h0).toNat:Int) == 48)=true:=by rw[hz];rfl
          have g4:(((u[0]'h0).toNat:Int) != 48)=false:=by rw[bne,g3];rfl
         rotate_left
         focus
          have HU:Hid (numOK u=true):=qh (by unfold numOK;rw[hh,HA.out];simp[hz];omega)
          have g3:(((u[0]'h0).toNat:Int) == 48)=false:=by
           rw[Mt];intro e;apply hz;apply Po.1;show _=48;omega
          have g4:(((u[0]'h0).toNat:Int) != 48)=true:=by rw[bne,g3];rfl
         all_goals
          clear hz hh;go_wp2_with fail;go_ret;exact⟨by rw[HI.out,HU.out];rfl,rfl⟩
        ·have HU:Hid (numOK u=false):=qh (by unfold numOK;simp[h4]);have g1:decide (1<=(u.length:Int))=true:=by simp;omega
         have g2:decide ((u.length:Int)<=4)=false:=by simp;omega
         go_wp2_with fail;go_ret;exact⟨by rw[HI.out,HU.out];rfl,rfl⟩
       ·have HU:Hid (numOK u=false):=qh (by unfold numOK;simp[h1]);have g1:decide (1<=(u.length:Int))=false:=by simp;omega
        go_wp2_with fail;go_ret;exact⟨by rw[HI.out,HU.out];rfl,rfl⟩
   ·have g:(((l[k]'hlt).toNat:Int) == 47)=false:=by
     rw[Mt];intro e;apply hc;apply Po.1;show _=47;omega
    have HT:Hid (∀x ∈ l.take (k+1),x≠47):=qh (by
     intro x hx;rw[Mo hlt]at hx;rcases MN.1 hx with h|h
     ·exact HD.out x h
     ·rw[Pd.1 h];exact hc)
    clear hc;go_wp2_with fail;go_round
    case rel=>exact⟨k+1,by omega,rfl,by go_num,HT.out⟩
    case measure=>simp[intOf];omega
  ·have HI:Hid (isId l=false):=qh (by
    have h:=HD.out;rw[Mv (by omega)]at h;unfold isId;rw[yA l h];simp[numOK])
   go_wp2_with fail;go_ret;exact⟨by rw[HI.out];rfl,rfl⟩
end
section
open Go.RowKit Go.Shelf
attribute [local go_sem] size_bs toList_bs
def ju(d:Int):Int:=if dayOK d then 0 else 13
theorem oI(d:Int)(w:World):Calls prog 114 #[.int .i64 d] w fun e w'=>e = .returned (.int .i64 (ju d))∧w=w':=by
 by_cases a:d < -25567
 ·have H:Hid (ju d=13):=qh (by unfold ju dayOK;simp;omega);go_enter func114,ntmps114;go_wp2_with fail;go_ret;exact⟨by rw[H.out];rfl,rfl⟩
 ·by_cases b:84005<d
  focus have H:Hid (ju d=13):=qh (by unfold ju dayOK;simp;omega)
  rotate_left
  focus have H:Hid (ju d=0):=qh (by unfold ju dayOK;simp;omega)
  all_goals
   go_enter func114,ntmps114;go_wp2_with fail;go_ret;exact⟨by rw[H.out];rfl,rfl⟩
theorem oJ{d:Int}:(ju d != 0)=!dayOK d:=by unfold ju;cases dayOK d <;> rfl
theorem fx(z:Int):decide (cmpI z 0<0)=decide (z<0):=by unfold cmpI;split <;> (try split) <;> simp <;> omega
theorem nN(a:Bs)(ha:a.length<=90000):jw 118 #[.string (bs a)] (.int .i64 (cmpI (valI a) 0)):=fun W=>kg (Ga a W (by omega))
theorem IY(g:GainV)(hs:SmallG g):jw 120 #[kB g] (.string (bs (dj g))):=by
 intro w;have C1:=qh (IW g.c g.p (by have:=hs.c;omega) (by have:=hs.p;omega));have hl:=jg (x:=g.c) (y:=g.p) (L:=1000) hs.c hs.p;have C2:=qh (nN (ofI (valI g.c-valI g.p)) (by omega));rw[valI_ofI]at C2;have HZ:Hid (dj g=if valI g.c-valI g.p<0 then [] else ofI (valI g.c-valI g.p)):=qh rfl;have HB:=qh (ID w 60 (dr g));have HX:Hid (Ext w (w.alloc (.cells (dr g) 60))):=qh (Id _ _);obtain⟨g0,g1,g2,g3,g4,g5,g6,g7,g8,g9⟩:=ax HB.out (iD _);clear hs hl;generalize dj g=z at *;generalize valI g.c-valI g.p=d at *;obtain⟨gk,gl,gi,ga,gc',gq,gp,gco,gd,gr⟩:=g;simp only at *;go_enter func120,ntmps120;go_wp2_with fail;refine(C1.out _).mono ?_;rintro e w1⟨rfl,hx1⟩;replace HX:=HX.qt hx1;clear hx1 g0 g1 g2 g3 g4 g5 g6 g7 g8 g9;go_wp2_with fail;refine(C2.out _).mono ?_;rintro e w2⟨rfl,hx1⟩;replace HX:=HX.qt hx1;clear hx1;have hns:=fx d;by_cases hd:d<0
 focus have hz:=HZ.out;rw[Mq hd]at hz;subst hz;rw[show decide (d<0)=true by simpa using hd]at hns
 rotate_left
 focus have hz:=HZ.out;rw[Mj hd]at hz;subst hz;rw[show decide (d<0)=false by simpa using hd]at hns
 all_goals
  generalize cmpI d 0=y at *;clear HZ hd;go_wp2_with fail;go_ret;exact⟨rfl,HX.out⟩
theorem IZ{f:FuncId}{args:Array Value}{v:Value}{W:World}(h:Calls prog f args W fun e w'=>e = .returned v∧w'=W):Calls prog f args W fun e w'=>e = .returned v∧Ext W w' :=
 h.mono fun _ _ ⟨h1,h2⟩=>⟨h1,h2 ▸ iD _⟩
theorem Gb(a:Bs)(ha:a.length<=90000):jw 117 #[.string (bs a)] (.int .i64 (checkI a)):=fun W=>kg (AI a W (by omega))
theorem sj(g:GainV)(hs:SmallG g):jw 46 #[kB g] (.int .i64 (aR g)):=by
 intro w;obtain⟨s1,s2,s3,s4,s5,s6,s7,s8⟩:=hs;have HK:=qh (IL g);have K1:=qh (fun W=>kg (si g.cause W (by omega)));have K2:=qh (fun W=>IZ (DX g.lot W (by omega)));have K3:=qh (fun W=>kg (si g.ins W (by omega)))
 have KI:Hid (∀x ∈ fw g,jw 117 #[.string (bs x)] (.int .i64 (checkI x))):=qh (fun x hx=>Gb x (by
  simp only[fw,MS,N7,Qg]at hx;rcases hx with rfl|rfl|rfl|rfl|rfl <;> omega))
 have NQ:=qh (nN g.q (by omega));have NC:=qh (nN g.c (by omega));have NR:=qh (nN g.r (by omega));have CQ:=qh (IX g.r g.q (by omega) (by omega));have ND:=qh (nN g.d (by omega));have LO:=qh (IY g ⟨s1,s2,s3,s4,s5,s6,s7,s8⟩)
 have hll:(dj g).length<=2000:=by
  have:=jg (x:=g.c) (y:=g.p) (L:=1000) (by omega) (by omega);unfold dj;split
  ·simp
  ·omega
 have CL:=qh (IX g.d (dj g) (by omega) (by omega));clear s1 s2 s3 s4 s5 s6 s7 s8 hll;have HBG:Hid (mR g↔valI g.d<0∨valI (dj g)<valI g.d∨(g.r=[]∧g.d≠[])):=qh Iff.rfl;have HNG:Hid (fw g=[g.q,g.p,g.c,g.d,g.r]):=qh rfl;obtain⟨HN,HDD,HO,HI,HV,HH,HKK⟩:=HK.out;replace HN:=qh HN;replace HDD:=qh HDD;replace HO:=qh HO;replace HI:=qh HI;replace HV:=qh HV;replace HH:=qh HH;replace HKK:=qh HKK;clear HK;generalize aR g=r at *;generalize dj g=lo at *;generalize mR g=bad at *;generalize fw g=ns at *;have HB:=qh (ID w 60 (dr g));have HX:Hid (Ext w (w.alloc (.cells (dr g) 60))):=qh (Id _ _);obtain⟨gk,gl,gi,ga,gc',gq,gp,gco,gd,gr⟩:=g;simp only at *;go_enter func46,ntmps46;go_upto_region 1 with fail;generalize hG:w.heap.size=G at *;generalize w.alloc (.cells #[.string (bs gk),.string (bs gl),.string (bs gi),.int .i64 ga,.int .i64 gc',.string (bs gq),.string (bs gp),.string (bs gco),.string (bs gd),.string (bs gr)] 60)=w0 at *;clear hG;obtain⟨g0,g1,g2,g3,g4,g5,g6,g7,g8,g9⟩:=ax HB.out (iD _);go_wp2_with fail;refine(K1.out _).mono ?_;rintro e v9⟨rfl,hx1⟩;replace HB:=qh (HB.out.ext hx1);replace HX:=HX.qt hx1;clear hx1;clear g0 g1 g2 g3 g4 g5 g6 g7 g8 g9;obtain⟨g0,g1,g2,g3,g4,g5,g6,g7,g8,g9⟩:=ax HB.out (iD _)
 cases hk:isName gk
 ·obtain rfl:=HN.out (.inl hk);clear HN HDD HO HI HV HH HKK hk;go_wp2_with fail;go_ret;exact⟨rfl,HX.out⟩
 have BK:=qh hk;clear hk K1;go_wp2_with fail;refine(K2.out _).mono ?_;rintro e v9⟨rfl,hx1⟩;replace HB:=qh (HB.out.ext hx1);replace HX:=HX.qt hx1;clear hx1;clear g0 g1 g2 g3 g4 g5 g6 g7 g8 g9;obtain⟨g0,g1,g2,g3,g4,g5,g6,g7,g8,g9⟩:=ax HB.out (iD _)
 cases hl:isId gl
 ·obtain rfl:=HN.out (.inr (.inl hl));clear HN HDD HO HI HV HH HKK hl;go_wp2_with fail;go_ret;exact⟨rfl,HX.out⟩
 have BL:=qh hl;clear hl K2;go_wp2_with fail;refine(K3.out _).mono ?_;rintro e v9⟨rfl,hx1⟩;replace HB:=qh (HB.out.ext hx1);replace HX:=HX.qt hx1;clear hx1;clear g0 g1 g2 g3 g4 g5 g6 g7 g8 g9;obtain⟨g0,g1,g2,g3,g4,g5,g6,g7,g8,g9⟩:=ax HB.out (iD _)
 cases hi:isName gi
 ·obtain rfl:=HN.out (.inr (.inr hi));clear HN HDD HO HI HV HH HKK hi;go_wp2_with fail;go_ret;exact⟨rfl,HX.out⟩
 have BI:=qh hi;clear hi K3 HN;replace HDD:=qh (HDD.out BK.out BL.out BI.out);replace HO:=qh (HO.out BK.out BL.out BI.out);replace HI:=qh (HI.out BK.out BL.out BI.out);replace HV:=qh (HV.out BK.out BL.out BI.out);replace HH:=qh (HH.out BK.out BL.out BI.out);replace HKK:=qh (HKK.out BK.out BL.out BI.out);clear BK BL BI;have KA:=qh (fun W=>kg (oI ga W));have KB:=qh (fun W=>kg (oI gc' W));have ha2:=oJ (d:=ga);have hb2:=oJ (d:=gc');generalize dayOK ga=da at *;generalize dayOK gc'=db at *;generalize ju ga=ea at *;generalize ju gc'=eb at *;go_wp2_with fail;refine(KA.out _).mono ?_;rintro e v9⟨rfl,hx1⟩;replace HB:=qh (HB.out.ext hx1);replace HX:=HX.qt hx1;clear hx1;clear g0 g1 g2 g3 g4 g5 g6 g7 g8 g9;obtain⟨g0,g1,g2,g3,g4,g5,g6,g7,g8,g9⟩:=ax HB.out (iD _)
 cases da
 ·obtain rfl:=HDD.out rfl;clear HDD HO HI HV HH HKK;rw[RV]at ha2;go_wp2_with fail;go_ret;exact⟨rfl,HX.out⟩
 rw[QP]at ha2;go_wp2_with fail;refine(KB.out _).mono ?_;rintro e v9⟨rfl,hx1⟩;replace HB:=qh (HB.out.ext hx1);replace HX:=HX.qt hx1;clear hx1;clear g0 g1 g2 g3 g4 g5 g6 g7 g8 g9;obtain⟨g0,g1,g2,g3,g4,g5,g6,g7,g8,g9⟩:=ax HB.out (iD _)
 cases db
 ·obtain rfl:=HDD.out rfl;clear HDD HO HI HV HH HKK;rw[RV]at hb2;go_wp2_with fail;go_ret;exact⟨rfl,HX.out⟩
 rw[QP]at hb2;by_cases hd:gc'<ga
 ·obtain rfl:=HO.out rfl hd;clear HDD HO HI HV HH HKK;go_wp2_with fail;go_ret;exact⟨rfl,HX.out⟩
 replace HI:=qh (HI.out rfl (Pk.1 hd));replace HV:=qh (HV.out rfl (Pk.1 hd));replace HH:=qh (HH.out rfl (Pk.1 hd));replace HKK:=qh (HKK.out rfl (Pk.1 hd));clear HDD HO;have hd2:decide (gc'<ga)=false:=by simpa using hd
 have HL:=qh (RdS.lit5 v9 gq gp gco gd gr);rw[←HNG.out]at HL;have HXW:Hid (Ext v9 (v9.alloc (.cells #[.string (bs gq),.string (bs gp),.string (bs gco),.string (bs gd),.string (bs gr)] 24))):=qh (Id _ _);replace HB:=qh (HB.out.ext HXW.out);replace HX:=qh (HX.out.trans HXW.out);have HN5:Hid (ns.length=5):=qh (by rw[HNG.out];rfl);clear HXW;go_upto_region 8 with fail;generalize v9.alloc (.cells #[.string (bs gq),.string (bs gp),.string (bs gco),.string (bs gd),.string (bs gr)] 24)=w5 at *;generalize v9.heap.size=S at *;clear g0 g1 g2 g3 g4 g5 g6 g7 g8 g9;go_wp2_with fail;go_loopw [4] (fun i wr=>∃k:Nat,k<=5∧i = .int .i64 k∧(∀x ∈ ns.take k,checkI x=0)∧Ext w5 wr) (fun i _=>5-(intOf i).toNat)
 case atStart=>exact⟨0,by omega,rfl,by simp,iD _⟩
 case round =>
  obtain⟨k,hk,rfl,hall,hxx⟩:=hrel;have HAL:=qh hall;have HXX:=qh hxx;clear hall hxx;by_cases hlt:k<5
  ·have hlt5:k<ns.length:=by rw[HN5.out];exact hlt
   obtain⟨b,o,hA2,hbl,c0⟩:=(HL.out.ext HXX.out).at_ hlt5;injection hA2 with hA2
   injection hA2 with e1 e2
   subst e1 e2;simp only[MV]at c0;have KX:=qh (KI.out _ (Ml hlt5))
   have HNX:Hid (checkI (ns[k]'hlt5)=0->∀x ∈ ns.take (k+1),checkI x=0):=qh (fun h x hx=>by
    rw[Mo hlt5]at hx;rcases MN.1 hx with hx|hx
    ·exact HAL.out x hx
    ·simp at hx;rw[hx];exact h)
   have HBD:Hid (checkI (ns[k]'hlt5)≠0->r=1):=qh (fun h=>HI.out ⟨_,Ml hlt5,h⟩);have hki:(k:Int)<5:=by omega
   have hk0:(0:Int)<=(k:Int):=by omega
   generalize ns[k]'hlt5=x at *;generalize checkI x=z at *;go_wp2_with fail;refine(KX.out _).mono ?_;rintro e v7⟨rfl,hx1⟩;replace HXX:=HXX.qt hx1;clear hx1;by_cases hz:z=0
   ·have HNY:=qh (HNX.out hz);subst hz;clear HNX HBD;go_wp2_with fail;go_roundw
    case rel=>exact⟨k+1,by omega,by go_num,HNY.out,HXX.out⟩
    case measure=>simp[intOf];omega
   ·obtain rfl:=HBD.out hz;have hz2:(z != 0)=true:=by rw[Nc];exact hz
    clear HNX HBD HI HV HH HKK;go_wp2_with fail;go_ret;exact⟨rfl,HX.out.trans HXX.out⟩
  ·have hke:k=5:=by omega
   subst hke
   have hall5:∀x ∈ ns,checkI x=0:=by
    have:=HAL.out;rwa[Mv (by rw[HN5.out];exact Mn _)]at this
   replace HV:=qh (HV.out hall5);replace HH:=qh (HH.out hall5);replace HKK:=qh (HKK.out hall5);replace HB:=qh (HB.out.ext HXX.out);replace HX:=qh (HX.out.trans HXX.out);clear hall5 HAL HXX HI HL KI HNG HN5;obtain⟨g0,g1,g2,g3,g4,g5,g6,g7,g8,g9⟩:=ax HB.out (iD _);go_wp2_with fail;refine(NQ.out _).mono ?_;rintro e v9⟨rfl,hx1⟩;replace HB:=qh (HB.out.ext hx1);replace HX:=HX.qt hx1;clear hx1;clear g0 g1 g2 g3 g4 g5 g6 g7 g8 g9;obtain⟨g0,g1,g2,g3,g4,g5,g6,g7,g8,g9⟩:=ax HB.out (iD _);by_cases hq:valI gq<0
   ·obtain rfl:=HV.out (.inl hq);have tq:decide (cmpI (valI gq) 0<0)=true:=by rw[fx];simpa using hq
    generalize cmpI (valI gq) 0=zq at *;clear HV HH HKK hq;go_wp2_with fail;go_ret;exact⟨rfl,HX.out⟩
   have tq:decide (cmpI (valI gq) 0<0)=false:=by rw[fx];simpa using hq
   generalize cmpI (valI gq) 0=zq at *;have Q1:=qh hq;clear hq NQ;go_wp2_with fail;refine(NC.out _).mono ?_;rintro e v9⟨rfl,hx1⟩;replace HB:=qh (HB.out.ext hx1);replace HX:=HX.qt hx1;clear hx1;clear g0 g1 g2 g3 g4 g5 g6 g7 g8 g9;obtain⟨g0,g1,g2,g3,g4,g5,g6,g7,g8,g9⟩:=ax HB.out (iD _);by_cases hq:valI gco<0
   ·obtain rfl:=HV.out (.inr (.inl hq));have tc:decide (cmpI (valI gco) 0<0)=true:=by rw[fx];simpa using hq
    generalize cmpI (valI gco) 0=zc at *;clear HV HH HKK hq;go_wp2_with fail;go_ret;exact⟨rfl,HX.out⟩
   have tc:decide (cmpI (valI gco) 0<0)=false:=by rw[fx];simpa using hq
   generalize cmpI (valI gco) 0=zc at *;have Q2:=qh hq;clear hq NC;go_wp2_with fail;refine(NR.out _).mono ?_;rintro e v9⟨rfl,hx1⟩;replace HB:=qh (HB.out.ext hx1);replace HX:=HX.qt hx1;clear hx1;clear g0 g1 g2 g3 g4 g5 g6 g7 g8 g9;obtain⟨g0,g1,g2,g3,g4,g5,g6,g7,g8,g9⟩:=ax HB.out (iD _);by_cases hq:valI gr<0
   ·obtain rfl:=HV.out (.inr (.inr (.inl hq)));have tr:decide (cmpI (valI gr) 0<0)=true:=by rw[fx];simpa using hq
    generalize cmpI (valI gr) 0=zr at *;clear HV HH HKK hq;go_wp2_with fail;go_ret;exact⟨rfl,HX.out⟩
   have tr:decide (cmpI (valI gr) 0<0)=false:=by rw[fx];simpa using hq
   generalize cmpI (valI gr) 0=zr at *;have Q3:=qh hq;clear hq NR;go_wp2_with fail;refine(CQ.out _).mono ?_;rintro e v9⟨rfl,hx1⟩;replace HB:=qh (HB.out.ext hx1);replace HX:=HX.qt hx1;clear hx1;clear g0 g1 g2 g3 g4 g5 g6 g7 g8 g9;obtain⟨g0,g1,g2,g3,g4,g5,g6,g7,g8,g9⟩:=ax HB.out (iD _);by_cases hq:valI gq<valI gr
   ·obtain rfl:=HV.out (.inr (.inr (.inr hq)));have t1:decide (0<cmpI (valI gr) (valI gq))=true:=by rw[MA,bA];exact hq
    generalize cmpI (valI gr) (valI gq)=z at *;clear HV HH HKK hq;go_wp2_with fail;go_ret;exact⟨rfl,HX.out⟩
   have t1:decide (0<cmpI (valI gr) (valI gq))=false:=by rw[Mi,bA];exact hq
   generalize cmpI (valI gr) (valI gq)=z at *
   have HQ:Hid (¬ (valI gq<0∨valI gco<0∨valI gr<0∨valI gq<valI gr)):=qh (by
    have q1:=Q1.out;have q2:=Q2.out;have q3:=Q3.out;omega)
   replace HH:=qh (HH.out HQ.out);replace HKK:=qh (HKK.out HQ.out);clear HQ Q1 Q2 Q3 hq CQ HV;by_cases d1:valI gd<0
   ·obtain rfl:=HH.out (HBG.out.2 (.inl d1));have t2:decide (cmpI (valI gd) 0<0)=true:=by rw[fx];simpa using d1
    generalize cmpI (valI gd) 0=zd at *;clear HH HKK HBG d1 LO CL;go_upto_region 15 with fail;refine PR (by kernel_rfl) ?_;change wpAny _ _ _ _ _ _ _ (World.drew v9);replace HB:=qh HB.out.drew;replace HX:=qh HX.out.drew;generalize World.drew v9=Wd at *;clear g0 g1 g2 g3 g4 g5 g6 g7 g8 g9
    have l8':∀W,Ext Wd W->(Instr.loadAt 24 (.pointer (some ⟨G,8,none⟩))).run prog W = .ok (Value.string (bs gd)) W:=fun W hx=>by
     obtain⟨g0,g1,g2,g3,g4,g5,g6,g7,g8,g9⟩:=ax HB.out hx;go_simp
    have f8:∀W:World,(Instr.fieldAt 60 (.pointer (some ⟨G,0,none⟩)) 8).run prog W = .ok (.pointer (some ⟨G,8,none⟩)) W:=fun W=>by go_simp
    refine en (Inv:=GrInv _ _ (fun s=>(#[Value.pointer (some ⟨G,8,none⟩),Value.string (bs gd),Value.int .i64 zd,Value.bool true,Value.bool true,undef,undef,undef,undef,undef,undef,Value.bool true,Value.bool true,undef,undef,undef,undef,undef,undef,undef,undef,Value.bool true]:Array Value).getD (s-83) undef) 83 21 (fun W=>Ext Wd W) (fun W=>Ext Wd W)) ?hend ?hz ?hstep _ _ _ _ (GrInv.start _ (iD Wd))
    case hz=>exact fun listed a w' h=>eu (by have:=h.cnt;omega) h.size
    case hend =>
     intro f listed a w' h hr;obtain⟨ha,hj⟩:=h.fin (by decide) hr (by kernel_rfl);have ha2:a=({ tmps:=#[kB ⟨gk,gl,gi,ga,gc',gq,gp,gco,gd,gr⟩,Value.pointer (some ⟨G,0,none⟩),u2,Value.slice (some ⟨S,0,none⟩) 5 5,Value.int .i64 5,Value.pointer (some ⟨G,0,none⟩),Value.string (bs gk),Value.bool true,Value.bool false,Value.bool false,Value.pointer (some ⟨G,1,none⟩),Value.string (bs gl),Value.bool true,Value.bool false,Value.bool false,Value.bool false,Value.pointer (some ⟨G,2,none⟩),Value.string (bs gi),Value.bool true,Value.bool false,Value.bool false,Value.pointer (some ⟨G,3,none⟩),Value.int .i64 ga,Value.int .i64 ea,Value.bool false,Value.bool false,Value.pointer (some ⟨G,4,none⟩),Value.int .i64 gc',Value.int .i64 eb,Value.bool false,Value.bool false,Value.pointer (some ⟨G,3,none⟩),Value.int .i64 ga,Value.pointer (some ⟨G,4,none⟩),Value.int .i64 gc',Value.bool false,Value.pointer (some ⟨G,5,none⟩),Value.string (bs gq),Value.pointer (some ⟨G,6,none⟩),Value.string (bs gp),Value.pointer (some ⟨G,7,none⟩),Value.string (bs gco),Value.pointer (some ⟨G,8,none⟩),Value.string (bs gd),Value.pointer (some ⟨G,9,none⟩),Value.string (bs gr),Value.slice (some ⟨S,0,none⟩) 5 5,Value.int .i64 5,Value.slice (some ⟨S,0,none⟩) 5 5,Value.int .i64 5,Value.bool false,u51,u52,u53,u54,u55,u56,u57,u58,Value.pointer (some ⟨G,5,none⟩),Value.string (bs gq),Value.int .i64 zq,Value.bool false,Value.bool false,Value.pointer (some ⟨G,7,none⟩),Value.string (bs gco),Value.int .i64 zc,Value.bool false,Value.bool false,Value.bool false,Value.pointer (some ⟨G,9,none⟩),Value.string (bs gr),Value.int .i64 zr,Value.bool false,Value.bool false,Value.bool false,Value.pointer (some ⟨G,9,none⟩),Value.string (bs gr),Value.pointer (some ⟨G,5,none⟩),Value.string (bs gq),Value.int .i64 z,Value.bool false,Value.bool false,Value.pointer (some ⟨G,8,none⟩),Value.string (bs gd),Value.int .i64 zd,Value.bool true,Value.bool true,undef,undef,undef,undef,undef,undef,Value.bool true,Value.bool true,undef,undef,undef,undef,undef,undef,undef,undef,Value.bool true],defers:=[] }:Act):=ha.trans (by kernel_rfl);clear ha;subst ha2;have HJ:=qh hj;clear h hr hj l8' f8;go_wp2_with fail;go_ret;exact⟨rfl,HX.out.trans HJ.out⟩
    case hstep =>
     intro f listed a w' i h hi;have hW:Ext Wd w':=by rcases h.wld with ⟨_,h2⟩ | ⟨_,h2⟩ <;> exact h2
     have hlt:i<22:=bP hi;have hbz:∀s,s<83->a.tmps.getD s undef=_:=fun s hs=>h.base' (s:=s) (by show s<105;omega) (.inl hs)
     obtain rfl|rfl|rfl|rfl|rfl|rfl|rfl|rfl|rfl|rfl|rfl|rfl|rfl|rfl|rfl|rfl|rfl|rfl|rfl|rfl|rfl|rfl:i=0∨i=1∨i=2∨i=3∨i=4∨i=5∨i=6∨i=7∨i=8∨i=9∨i=10∨i=11∨i=12∨i=13∨i=14∨i=15∨i=16∨i=17∨i=18∨i=19∨i=20∨i=21:=by omega
     all_goals have nd:=fun p (q:p<22)=>h.need hi rfl p q (show 83+p<105 by omega)
     ·skip;have e1:a.tmps.getD 1 undef=Value.pointer (some ⟨G,0,none⟩):=hbz 1 (by omega);refine ar rfl rfl _ ?_ (h.step hi rfl rfl _ (.inl ⟨by decide,fun h=>h,fun h=>h⟩));simp[execOp,af,e1,f8]
     ·skip;have e83:a.tmps.getD 83 undef=Value.pointer (some ⟨G,8,none⟩):=nd 0 (by decide) rfl;refine ar rfl rfl _ ?_ (h.step hi rfl rfl _ (.inl ⟨by decide,fun h=>h,fun h=>h⟩));simp[execOp,af,e83,l8' _ hW]
     ·skip;have e84:a.tmps.getD 84 undef=Value.string (bs gd):=nd 1 (by decide) rfl;refine dx (fn:=118) (args:=#[.string (bs gd)]) rfl rfl ?_ (ND.out _) ?_
      ·simp[execOp,af,e84,resolve,invoke,Deferred.ofValue];rfl
      ·rintro e W3⟨rfl,hx⟩;exact⟨_,rfl,h.step hi rfl rfl _ (.inl ⟨by decide,fun h=>h.trans hx,fun h=>h.trans hx⟩)⟩
     ·skip;have e85:a.tmps.getD 85 undef=Value.int .i64 zd:=nd 2 (by decide) rfl;refine ar rfl rfl _ ?_ (h.step hi rfl rfl _ (.inl ⟨by decide,fun h=>h,fun h=>h⟩));simp[execOp,af,e85];go_simp
     ·skip;have e86:a.tmps.getD 86 undef=Value.bool true:=nd 3 (by decide) rfl;refine ar rfl rfl _ ?_ (h.step hi rfl rfl _ (.inl ⟨by decide,fun h=>h,fun h=>h⟩));simp[execOp,af,e86]
     iterate 6
      ·skip;have e87:a.tmps.getD 87 undef=Value.bool true:=nd 4 (by decide) rfl;refine cS rfl (iC rfl rfl e87 rfl) (h.step hi rfl rfl _ (.inl ⟨by decide,fun h=>h,fun h=>h⟩))
     ·skip;have e87:a.tmps.getD 87 undef=Value.bool true:=nd 4 (by decide) rfl;refine ar rfl rfl _ ?_ (h.step hi rfl rfl _ (.inl ⟨by decide,fun h=>h,fun h=>h⟩));simp[execOp,af,e87];go_simp
     ·skip;have e94:a.tmps.getD 94 undef=Value.bool true:=nd 11 (by decide) rfl;refine ar rfl rfl _ ?_ (h.step hi rfl rfl _ (.inl ⟨by decide,fun h=>h,fun h=>h⟩));simp[execOp,af,e94]
     iterate 4
      ·skip;have e95:a.tmps.getD 95 undef=Value.bool true:=nd 12 (by decide) rfl;refine cS rfl (iC rfl rfl e95 rfl) (h.step hi rfl rfl _ (.inl ⟨by decide,fun h=>h,fun h=>h⟩))
     iterate 3
      ·skip;have e99:a.tmps.getD 99 undef=undef:=nd 16 (by decide) rfl;refine cS rfl (mS rfl rfl e99 rfl) (h.step hi rfl rfl _ (.inl ⟨by decide,fun h=>h,fun h=>h⟩))
     ·skip;have e95:a.tmps.getD 95 undef=Value.bool true:=nd 12 (by decide) rfl;refine cS rfl (iC rfl rfl e95 rfl) (h.step hi rfl rfl _ (.inl ⟨by decide,fun h=>h,fun h=>h⟩))
     ·skip;have e95:a.tmps.getD 95 undef=Value.bool true:=nd 12 (by decide) rfl;refine ar rfl rfl _ ?_ (h.step hi rfl rfl _ (.inr ⟨rfl,hW⟩));simp[execOp,af,e95];go_simp
   have t2:decide (cmpI (valI gd) 0<0)=false:=by rw[fx];simpa using d1
   generalize cmpI (valI gd) 0=zd at *;by_cases d2:valI lo<valI gd
   ·obtain rfl:=HH.out (HBG.out.2 (.inr (.inl d2)));have t3:decide (0<cmpI (valI gd) (valI lo))=true:=by rw[MA,bA];exact d2
    generalize cmpI (valI gd) (valI lo)=y at *;clear HH HKK HBG d1 d2;go_upto_region 15 with fail;refine PR (by kernel_rfl) ?_;change wpAny _ _ _ _ _ _ _ (World.drew v9);replace HB:=qh HB.out.drew;replace HX:=qh HX.out.drew;generalize World.drew v9=Wd at *;clear g0 g1 g2 g3 g4 g5 g6 g7 g8 g9
    have l8':∀W,Ext Wd W->(Instr.loadAt 24 (.pointer (some ⟨G,8,none⟩))).run prog W = .ok (Value.string (bs gd)) W:=fun W hx=>by
     obtain⟨g0,g1,g2,g3,g4,g5,g6,g7,g8,g9⟩:=ax HB.out hx;go_simp
    have f8:∀W:World,(Instr.fieldAt 60 (.pointer (some ⟨G,0,none⟩)) 8).run prog W = .ok (.pointer (some ⟨G,8,none⟩)) W:=fun W=>by go_simp
    have l60:∀W,Ext Wd W->(Instr.loadAt 60 (.pointer (some ⟨G,0,none⟩))).run prog W = .ok (Value.agg #[.string (bs gk),.string (bs gl),.string (bs gi),.int .i64 ga,.int .i64 gc',.string (bs gq),.string (bs gp),.string (bs gco),.string (bs gd),.string (bs gr)]) W:=fun W hx=>by
     obtain⟨g0,g1,g2,g3,g4,g5,g6,g7,g8,g9⟩:=ax HB.out hx;go_simp
    refine en (Inv:=GrInv _ _ (fun s=>(#[Value.pointer (some ⟨G,8,none⟩),Value.string (bs gd),Value.int .i64 zd,Value.bool false,Value.bool false,Value.pointer (some ⟨G,8,none⟩),Value.string (bs gd),Value.agg #[.string (bs gk),.string (bs gl),.string (bs gi),.int .i64 ga,.int .i64 gc',.string (bs gq),.string (bs gp),.string (bs gco),.string (bs gd),.string (bs gr)],Value.string (bs lo),Value.int .i64 y,Value.bool true,Value.bool true,Value.bool true,undef,undef,undef,undef,undef,undef,undef,undef,Value.bool true]:Array Value).getD (s-83) undef) 83 21 (fun W=>Ext Wd W) (fun W=>Ext Wd W)) ?hend ?hz ?hstep _ _ _ _ (GrInv.start _ (iD Wd))
    case hz=>exact fun listed a w' h=>eu (by have:=h.cnt;omega) h.size
    case hend =>
     intro f listed a w' h hr;obtain⟨ha,hj⟩:=h.fin (by decide) hr (by kernel_rfl);have ha2:a=({ tmps:=#[kB ⟨gk,gl,gi,ga,gc',gq,gp,gco,gd,gr⟩,Value.pointer (some ⟨G,0,none⟩),u2,Value.slice (some ⟨S,0,none⟩) 5 5,Value.int .i64 5,Value.pointer (some ⟨G,0,none⟩),Value.string (bs gk),Value.bool true,Value.bool false,Value.bool false,Value.pointer (some ⟨G,1,none⟩),Value.string (bs gl),Value.bool true,Value.bool false,Value.bool false,Value.bool false,Value.pointer (some ⟨G,2,none⟩),Value.string (bs gi),Value.bool true,Value.bool false,Value.bool false,Value.pointer (some ⟨G,3,none⟩),Value.int .i64 ga,Value.int .i64 ea,Value.bool false,Value.bool false,Value.pointer (some ⟨G,4,none⟩),Value.int .i64 gc',Value.int .i64 eb,Value.bool false,Value.bool false,Value.pointer (some ⟨G,3,none⟩),Value.int .i64 ga,Value.pointer (some ⟨G,4,none⟩),Value.int .i64 gc',Value.bool false,Value.pointer (some ⟨G,5,none⟩),Value.string (bs gq),Value.pointer (some ⟨G,6,none⟩),Value.string (bs gp),Value.pointer (some ⟨G,7,none⟩),Value.string (bs gco),Value.pointer (some ⟨G,8,none⟩),Value.string (bs gd),Value.pointer (some ⟨G,9,none⟩),Value.string (bs gr),Value.slice (some ⟨S,0,none⟩) 5 5,Value.int .i64 5,Value.slice (some ⟨S,0,none⟩) 5 5,Value.int .i64 5,Value.bool false,u51,u52,u53,u54,u55,u56,u57,u58,Value.pointer (some ⟨G,5,none⟩),Value.string (bs gq),Value.int .i64 zq,Value.bool false,Value.bool false,Value.pointer (some ⟨G,7,none⟩),Value.string (bs gco),Value.int .i64 zc,Value.bool false,Value.bool false,Value.bool false,Value.pointer (some ⟨G,9,none⟩),Value.string (bs gr),Value.int .i64 zr,Value.bool false,Value.bool false,Value.bool false,Value.pointer (some ⟨G,9,none⟩),Value.string (bs gr),Value.pointer (some ⟨G,5,none⟩),Value.string (bs gq),Value.int .i64 z,Value.bool false,Value.bool false,Value.pointer (some ⟨G,8,none⟩),Value.string (bs gd),Value.int .i64 zd,Value.bool false,Value.bool false,Value.pointer (some ⟨G,8,none⟩),Value.string (bs gd),Value.agg #[.string (bs gk),.string (bs gl),.string (bs gi),.int .i64 ga,.int .i64 gc',.string (bs gq),.string (bs gp),.string (bs gco),.string (bs gd),.string (bs gr)],Value.string (bs lo),Value.int .i64 y,Value.bool true,Value.bool true,Value.bool true,undef,undef,undef,undef,undef,undef,undef,undef,Value.bool true],defers:=[] }:Act):=ha.trans (by kernel_rfl);clear ha;subst ha2;have HJ:=qh hj;clear h hr hj l8' f8 l60;go_wp2_with fail;go_ret;exact⟨rfl,HX.out.trans HJ.out⟩
    case hstep =>
     intro f listed a w' i h hi;have hW:Ext Wd w':=by rcases h.wld with ⟨_,h2⟩ | ⟨_,h2⟩ <;> exact h2
     have hlt:i<22:=bP hi;have hbz:∀s,s<83->a.tmps.getD s undef=_:=fun s hs=>h.base' (s:=s) (by show s<105;omega) (.inl hs)
     obtain rfl|rfl|rfl|rfl|rfl|rfl|rfl|rfl|rfl|rfl|rfl|rfl|rfl|rfl|rfl|rfl|rfl|rfl|rfl|rfl|rfl|rfl:i=0∨i=1∨i=2∨i=3∨i=4∨i=5∨i=6∨i=7∨i=8∨i=9∨i=10∨i=11∨i=12∨i=13∨i=14∨i=15∨i=16∨i=17∨i=18∨i=19∨i=20∨i=21:=by omega
     all_goals have nd:=fun p (q:p<22)=>h.need hi rfl p q (show 83+p<105 by omega)
     ·skip;have e1:a.tmps.getD 1 undef=Value.pointer (some ⟨G,0,none⟩):=hbz 1 (by omega);refine ar rfl rfl _ ?_ (h.step hi rfl rfl _ (.inl ⟨by decide,fun h=>h,fun h=>h⟩));simp[execOp,af,e1,f8]
     ·skip;have e83:a.tmps.getD 83 undef=Value.pointer (some ⟨G,8,none⟩):=nd 0 (by decide) rfl;refine ar rfl rfl _ ?_ (h.step hi rfl rfl _ (.inl ⟨by decide,fun h=>h,fun h=>h⟩));simp[execOp,af,e83,l8' _ hW]
     ·skip;have e84:a.tmps.getD 84 undef=Value.string (bs gd):=nd 1 (by decide) rfl;refine dx (fn:=118) (args:=#[.string (bs gd)]) rfl rfl ?_ (ND.out _) ?_
      ·simp[execOp,af,e84,resolve,invoke,Deferred.ofValue];rfl
      ·rintro e W3⟨rfl,hx⟩;exact⟨_,rfl,h.step hi rfl rfl _ (.inl ⟨by decide,fun h=>h.trans hx,fun h=>h.trans hx⟩)⟩
     ·skip;have e85:a.tmps.getD 85 undef=Value.int .i64 zd:=nd 2 (by decide) rfl;refine ar rfl rfl _ ?_ (h.step hi rfl rfl _ (.inl ⟨by decide,fun h=>h,fun h=>h⟩));simp[execOp,af,e85];go_simp
     ·skip;have e86:a.tmps.getD 86 undef=Value.bool false:=nd 3 (by decide) rfl;refine ar rfl rfl _ ?_ (h.step hi rfl rfl _ (.inl ⟨by decide,fun h=>h,fun h=>h⟩));simp[execOp,af,e86]
     ·skip;have e1:a.tmps.getD 1 undef=Value.pointer (some ⟨G,0,none⟩):=hbz 1 (by omega);have e87:a.tmps.getD 87 undef=Value.bool false:=nd 4 (by decide) rfl;refine aX rfl (aU rfl rfl e87 rfl) _ ?_ (h.step hi rfl rfl _ (.inl ⟨by decide,fun h=>h,fun h=>h⟩));simp[execOp,af,e1,f8]
     ·skip;have e88:a.tmps.getD 88 undef=Value.pointer (some ⟨G,8,none⟩):=nd 5 (by decide) rfl;have e87:a.tmps.getD 87 undef=Value.bool false:=nd 4 (by decide) rfl;refine aX rfl (aU rfl rfl e87 rfl) _ ?_ (h.step hi rfl rfl _ (.inl ⟨by decide,fun h=>h,fun h=>h⟩));simp[execOp,af,e88,l8' _ hW]
     ·skip;have e1:a.tmps.getD 1 undef=Value.pointer (some ⟨G,0,none⟩):=hbz 1 (by omega);have e87:a.tmps.getD 87 undef=Value.bool false:=nd 4 (by decide) rfl;refine aX rfl (aU rfl rfl e87 rfl) _ ?_ (h.step hi rfl rfl _ (.inl ⟨by decide,fun h=>h,fun h=>h⟩));simp[execOp,af,e1,l60 _ hW]
     ·skip;have e90:a.tmps.getD 90 undef=Value.agg #[.string (bs gk),.string (bs gl),.string (bs gi),.int .i64 ga,.int .i64 gc',.string (bs gq),.string (bs gp),.string (bs gco),.string (bs gd),.string (bs gr)]:=nd 7 (by decide) rfl;have e87:a.tmps.getD 87 undef=Value.bool false:=nd 4 (by decide) rfl;refine dH (fn:=120) (args:=#[Value.agg #[.string (bs gk),.string (bs gl),.string (bs gi),.int .i64 ga,.int .i64 gc',.string (bs gq),.string (bs gp),.string (bs gco),.string (bs gd),.string (bs gr)]]) rfl (aU rfl rfl e87 rfl) ?_ (LO.out _) ?_
      ·simp[execOp,af,e90,resolve,invoke,Deferred.ofValue];rfl
      ·rintro e W3⟨rfl,hx⟩;exact⟨_,rfl,h.step hi rfl rfl _ (.inl ⟨by decide,fun h=>h.trans hx,fun h=>h.trans hx⟩)⟩
     ·skip;have e89:a.tmps.getD 89 undef=Value.string (bs gd):=nd 6 (by decide) rfl;have e91:a.tmps.getD 91 undef=Value.string (bs lo):=nd 8 (by decide) rfl;have e87:a.tmps.getD 87 undef=Value.bool false:=nd 4 (by decide) rfl;refine dH (fn:=119) (args:=#[.string (bs gd),.string (bs lo)]) rfl (aU rfl rfl e87 rfl) ?_ (CL.out _) ?_
      ·simp[execOp,af,e89,e91,resolve,invoke,Deferred.ofValue];rfl
      ·rintro e W3⟨rfl,hx⟩;exact⟨_,rfl,h.step hi rfl rfl _ (.inl ⟨by decide,fun h=>h.trans hx,fun h=>h.trans hx⟩)⟩
     ·skip;have e92:a.tmps.getD 92 undef=Value.int .i64 y:=nd 9 (by decide) rfl;have e87:a.tmps.getD 87 undef=Value.bool false:=nd 4 (by decide) rfl;refine aX rfl (aU rfl rfl e87 rfl) _ ?_ (h.step hi rfl rfl _ (.inl ⟨by decide,fun h=>h,fun h=>h⟩));simp[execOp,af,e92];go_simp
     ·skip;have e87:a.tmps.getD 87 undef=Value.bool false:=nd 4 (by decide) rfl;have e93:a.tmps.getD 93 undef=Value.bool true:=nd 10 (by decide) rfl;refine ar rfl rfl _ ?_ (h.step hi rfl rfl _ (.inl ⟨by decide,fun h=>h,fun h=>h⟩));simp[execOp,af,e87,e93];go_simp
     ·skip;have e94:a.tmps.getD 94 undef=Value.bool true:=nd 11 (by decide) rfl;refine ar rfl rfl _ ?_ (h.step hi rfl rfl _ (.inl ⟨by decide,fun h=>h,fun h=>h⟩));simp[execOp,af,e94]
     iterate 4
      ·skip;have e95:a.tmps.getD 95 undef=Value.bool true:=nd 12 (by decide) rfl;refine cS rfl (iC rfl rfl e95 rfl) (h.step hi rfl rfl _ (.inl ⟨by decide,fun h=>h,fun h=>h⟩))
     iterate 3
      ·skip;have e99:a.tmps.getD 99 undef=undef:=nd 16 (by decide) rfl;refine cS rfl (mS rfl rfl e99 rfl) (h.step hi rfl rfl _ (.inl ⟨by decide,fun h=>h,fun h=>h⟩))
     ·skip;have e95:a.tmps.getD 95 undef=Value.bool true:=nd 12 (by decide) rfl;refine cS rfl (iC rfl rfl e95 rfl) (h.step hi rfl rfl _ (.inl ⟨by decide,fun h=>h,fun h=>h⟩))
     ·skip;have e95:a.tmps.getD 95 undef=Value.bool true:=nd 12 (by decide) rfl;refine ar rfl rfl _ ?_ (h.step hi rfl rfl _ (.inr ⟨rfl,hW⟩));simp[execOp,af,e95];go_simp
   have t3:decide (0<cmpI (valI gd) (valI lo))=false:=by rw[Mi,bA];exact d2
   generalize cmpI (valI gd) (valI lo)=y at *;by_cases d3:gr=[]
   ·by_cases d4:gd=[]
    focus
     obtain rfl:=HKK.out (fun h=>by
      rcases HBG.out.1 h with h|h|h
      ·exact d1 h
      ·exact d2 h
      ·exact h.2 d4)
     have u1:gr.isEmpty=true:=by rw[d3];rfl
     have u2:(!gd.isEmpty)=false:=by rw[d4];rfl
    rotate_left
    focus
     obtain rfl:=HH.out (HBG.out.2 (.inr (.inr ⟨d3,d4⟩)));have u1:gr.isEmpty=true:=by rw[d3];rfl
     have u2:(!gd.isEmpty)=true:=by simpa using d4
    all_goals
     clear HH HKK HBG d1 d2 d3 d4;go_upto_region 15 with fail;have HD:Hid (Ext v9 v9.drew):=qh (iD _).drew
     go_region_held3 (fun w'=>w'.cell? ⟨G,0,none⟩=some (.string (bs gk))∧w'.cell? ⟨G,1,none⟩=some (.string (bs gl))∧w'.cell? ⟨G,2,none⟩=some (.string (bs gi))∧w'.cell? ⟨G,3,none⟩=some (.int .i64 ga)∧w'.cell? ⟨G,4,none⟩=some (.int .i64 gc')∧w'.cell? ⟨G,5,none⟩=some (.string (bs gq))∧w'.cell? ⟨G,6,none⟩=some (.string (bs gp))∧w'.cell? ⟨G,7,none⟩=some (.string (bs gco))∧w'.cell? ⟨G,8,none⟩=some (.string (bs gd))∧w'.cell? ⟨G,9,none⟩=some (.string (bs gr)))
      (go_keep)
      (first
       |(go_at_call 118;((with_reducible refine(ND.out _).mono ?_);rintro e w5⟨rfl,hx⟩);(replace HD:=HD.qt hx);(obtain⟨g0,g1,g2,g3,g4,g5,g6,g7,g8,g9⟩:=ax HB.out HD.out);clear hx)
       |(go_at_call 120;((with_reducible refine(LO.out _).mono ?_);rintro e w5⟨rfl,hx⟩);(replace HD:=HD.qt hx);(obtain⟨g0,g1,g2,g3,g4,g5,g6,g7,g8,g9⟩:=ax HB.out HD.out);clear hx)
       |(go_at_call 119;((with_reducible refine(CL.out _).mono ?_);rintro e w5⟨rfl,hx⟩);(replace HD:=HD.qt hx);(obtain⟨g0,g1,g2,g3,g4,g5,g6,g7,g8,g9⟩:=ax HB.out HD.out);clear hx)
       |fail)
     all_goals
      go_wp2_with fail;go_ret;exact⟨rfl,HX.out.trans HD.out⟩
   ·obtain rfl:=HKK.out (fun h=>by
     rcases HBG.out.1 h with h|h|h
     ·exact d1 h
     ·exact d2 h
     ·exact d3 h.1)
    have u1:gr.isEmpty=false:=by simpa using d3
    clear HH HKK HBG d1 d2 d3;go_upto_region 15 with fail;refine PR (by kernel_rfl) ?_;change wpAny _ _ _ _ _ _ _ (World.drew v9);replace HB:=qh HB.out.drew;replace HX:=qh HX.out.drew;generalize World.drew v9=Wd at *;clear g0 g1 g2 g3 g4 g5 g6 g7 g8 g9
    have l8':∀W,Ext Wd W->(Instr.loadAt 24 (.pointer (some ⟨G,8,none⟩))).run prog W = .ok (Value.string (bs gd)) W:=fun W hx=>by
     obtain⟨g0,g1,g2,g3,g4,g5,g6,g7,g8,g9⟩:=ax HB.out hx;go_simp
    have f8:∀W:World,(Instr.fieldAt 60 (.pointer (some ⟨G,0,none⟩)) 8).run prog W = .ok (.pointer (some ⟨G,8,none⟩)) W:=fun W=>by go_simp
    have l60:∀W,Ext Wd W->(Instr.loadAt 60 (.pointer (some ⟨G,0,none⟩))).run prog W = .ok (Value.agg #[.string (bs gk),.string (bs gl),.string (bs gi),.int .i64 ga,.int .i64 gc',.string (bs gq),.string (bs gp),.string (bs gco),.string (bs gd),.string (bs gr)]) W:=fun W hx=>by
     obtain⟨g0,g1,g2,g3,g4,g5,g6,g7,g8,g9⟩:=ax HB.out hx;go_simp
    have l9':∀W,Ext Wd W->(Instr.loadAt 24 (.pointer (some ⟨G,9,none⟩))).run prog W = .ok (Value.string (bs gr)) W:=fun W hx=>by
     obtain⟨g0,g1,g2,g3,g4,g5,g6,g7,g8,g9⟩:=ax HB.out hx;go_simp
    have f9:∀W:World,(Instr.fieldAt 60 (.pointer (some ⟨G,0,none⟩)) 9).run prog W = .ok (.pointer (some ⟨G,9,none⟩)) W:=fun W=>by go_simp
    refine en (Inv:=GrInv _ _ (fun s=>(#[Value.pointer (some ⟨G,8,none⟩),Value.string (bs gd),Value.int .i64 zd,Value.bool false,Value.bool false,Value.pointer (some ⟨G,8,none⟩),Value.string (bs gd),Value.agg #[.string (bs gk),.string (bs gl),.string (bs gi),.int .i64 ga,.int .i64 gc',.string (bs gq),.string (bs gp),.string (bs gco),.string (bs gd),.string (bs gr)],Value.string (bs lo),Value.int .i64 y,Value.bool false,Value.bool false,Value.bool false,Value.pointer (some ⟨G,9,none⟩),Value.string (bs gr),Value.bool false,Value.bool false,undef,undef,undef,Value.bool false,Value.bool false]:Array Value).getD (s-83) undef) 83 21 (fun W=>Ext Wd W) (fun W=>Ext Wd W)) ?hend ?hz ?hstep _ _ _ _ (GrInv.start _ (iD Wd))
    case hz=>exact fun listed a w' h=>eu (by have:=h.cnt;omega) h.size
    case hend =>
     intro f listed a w' h hr;obtain⟨ha,hj⟩:=h.fin (by decide) hr (by kernel_rfl);have ha2:a=({ tmps:=#[kB ⟨gk,gl,gi,ga,gc',gq,gp,gco,gd,gr⟩,Value.pointer (some ⟨G,0,none⟩),u2,Value.slice (some ⟨S,0,none⟩) 5 5,Value.int .i64 5,Value.pointer (some ⟨G,0,none⟩),Value.string (bs gk),Value.bool true,Value.bool false,Value.bool false,Value.pointer (some ⟨G,1,none⟩),Value.string (bs gl),Value.bool true,Value.bool false,Value.bool false,Value.bool false,Value.pointer (some ⟨G,2,none⟩),Value.string (bs gi),Value.bool true,Value.bool false,Value.bool false,Value.pointer (some ⟨G,3,none⟩),Value.int .i64 ga,Value.int .i64 ea,Value.bool false,Value.bool false,Value.pointer (some ⟨G,4,none⟩),Value.int .i64 gc',Value.int .i64 eb,Value.bool false,Value.bool false,Value.pointer (some ⟨G,3,none⟩),Value.int .i64 ga,Value.pointer (some ⟨G,4,none⟩),Value.int .i64 gc',Value.bool false,Value.pointer (some ⟨G,5,none⟩),Value.string (bs gq),Value.pointer (some ⟨G,6,none⟩),Value.string (bs gp),Value.pointer (some ⟨G,7,none⟩),Value.string (bs gco),Value.pointer (some ⟨G,8,none⟩),Value.string (bs gd),Value.pointer (some ⟨G,9,none⟩),Value.string (bs gr),Value.slice (some ⟨S,0,none⟩) 5 5,Value.int .i64 5,Value.slice (some ⟨S,0,none⟩) 5 5,Value.int .i64 5,Value.bool false,u51,u52,u53,u54,u55,u56,u57,u58,Value.pointer (some ⟨G,5,none⟩),Value.string (bs gq),Value.int .i64 zq,Value.bool false,Value.bool false,Value.pointer (some ⟨G,7,none⟩),Value.string (bs gco),Value.int .i64 zc,Value.bool false,Value.bool false,Value.bool false,Value.pointer (some ⟨G,9,none⟩),Value.string (bs gr),Value.int .i64 zr,Value.bool false,Value.bool false,Value.bool false,Value.pointer (some ⟨G,9,none⟩),Value.string (bs gr),Value.pointer (some ⟨G,5,none⟩),Value.string (bs gq),Value.int .i64 z,Value.bool false,Value.bool false,Value.pointer (some ⟨G,8,none⟩),Value.string (bs gd),Value.int .i64 zd,Value.bool false,Value.bool false,Value.pointer (some ⟨G,8,none⟩),Value.string (bs gd),Value.agg #[.string (bs gk),.string (bs gl),.string (bs gi),.int .i64 ga,.int .i64 gc',.string (bs gq),.string (bs gp),.string (bs gco),.string (bs gd),.string (bs gr)],Value.string (bs lo),Value.int .i64 y,Value.bool false,Value.bool false,Value.bool false,Value.pointer (some ⟨G,9,none⟩),Value.string (bs gr),Value.bool false,Value.bool false,undef,undef,undef,Value.bool false,Value.bool false],defers:=[] }:Act):=ha.trans (by kernel_rfl);clear ha;subst ha2;have HJ:=qh hj;clear h hr hj l8' f8 l60 l9' f9;go_wp2_with fail;go_ret;exact⟨rfl,HX.out.trans HJ.out⟩
    case hstep =>
     intro f listed a w' i h hi;have hW:Ext Wd w':=by rcases h.wld with ⟨_,h2⟩ | ⟨_,h2⟩ <;> exact h2
     have hlt:i<22:=bP hi;have hbz:∀s,s<83->a.tmps.getD s undef=_:=fun s hs=>h.base' (s:=s) (by show s<105;omega) (.inl hs)
     obtain rfl|rfl|rfl|rfl|rfl|rfl|rfl|rfl|rfl|rfl|rfl|rfl|rfl|rfl|rfl|rfl|rfl|rfl|rfl|rfl|rfl|rfl:i=0∨i=1∨i=2∨i=3∨i=4∨i=5∨i=6∨i=7∨i=8∨i=9∨i=10∨i=11∨i=12∨i=13∨i=14∨i=15∨i=16∨i=17∨i=18∨i=19∨i=20∨i=21:=by omega
     all_goals have nd:=fun p (q:p<22)=>h.need hi rfl p q (show 83+p<105 by omega)
     ·skip;have e1:a.tmps.getD 1 undef=Value.pointer (some ⟨G,0,none⟩):=hbz 1 (by omega);refine ar rfl rfl _ ?_ (h.step hi rfl rfl _ (.inl ⟨by decide,fun h=>h,fun h=>h⟩));simp[execOp,af,e1,f8]
     ·skip;have e83:a.tmps.getD 83 undef=Value.pointer (some ⟨G,8,none⟩):=nd 0 (by decide) rfl;refine ar rfl rfl _ ?_ (h.step hi rfl rfl _ (.inl ⟨by decide,fun h=>h,fun h=>h⟩));simp[execOp,af,e83,l8' _ hW]
     ·skip;have e84:a.tmps.getD 84 undef=Value.string (bs gd):=nd 1 (by decide) rfl;refine dx (fn:=118) (args:=#[.string (bs gd)]) rfl rfl ?_ (ND.out _) ?_
      ·simp[execOp,af,e84,resolve,invoke,Deferred.ofValue];rfl
      ·rintro e W3⟨rfl,hx⟩;exact⟨_,rfl,h.step hi rfl rfl _ (.inl ⟨by decide,fun h=>h.trans hx,fun h=>h.trans hx⟩)⟩
     ·skip;have e85:a.tmps.getD 85 undef=Value.int .i64 zd:=nd 2 (by decide) rfl;refine ar rfl rfl _ ?_ (h.step hi rfl rfl _ (.inl ⟨by decide,fun h=>h,fun h=>h⟩));simp[execOp,af,e85];go_simp
     ·skip;have e86:a.tmps.getD 86 undef=Value.bool false:=nd 3 (by decide) rfl;refine ar rfl rfl _ ?_ (h.step hi rfl rfl _ (.inl ⟨by decide,fun h=>h,fun h=>h⟩));simp[execOp,af,e86]
     ·skip;have e1:a.tmps.getD 1 undef=Value.pointer (some ⟨G,0,none⟩):=hbz 1 (by omega);have e87:a.tmps.getD 87 undef=Value.bool false:=nd 4 (by decide) rfl;refine aX rfl (aU rfl rfl e87 rfl) _ ?_ (h.step hi rfl rfl _ (.inl ⟨by decide,fun h=>h,fun h=>h⟩));simp[execOp,af,e1,f8]
     ·skip;have e88:a.tmps.getD 88 undef=Value.pointer (some ⟨G,8,none⟩):=nd 5 (by decide) rfl;have e87:a.tmps.getD 87 undef=Value.bool false:=nd 4 (by decide) rfl;refine aX rfl (aU rfl rfl e87 rfl) _ ?_ (h.step hi rfl rfl _ (.inl ⟨by decide,fun h=>h,fun h=>h⟩));simp[execOp,af,e88,l8' _ hW]
     ·skip;have e1:a.tmps.getD 1 undef=Value.pointer (some ⟨G,0,none⟩):=hbz 1 (by omega);have e87:a.tmps.getD 87 undef=Value.bool false:=nd 4 (by decide) rfl;refine aX rfl (aU rfl rfl e87 rfl) _ ?_ (h.step hi rfl rfl _ (.inl ⟨by decide,fun h=>h,fun h=>h⟩));simp[execOp,af,e1,l60 _ hW]
     ·skip;have e90:a.tmps.getD 90 undef=Value.agg #[.string (bs gk),.string (bs gl),.string (bs gi),.int .i64 ga,.int .i64 gc',.string (bs gq),.string (bs gp),.string (bs gco),.string (bs gd),.string (bs gr)]:=nd 7 (by decide) rfl;have e87:a.tmps.getD 87 undef=Value.bool false:=nd 4 (by decide) rfl;refine dH (fn:=120) (args:=#[Value.agg #[.string (bs gk),.string (bs gl),.string (bs gi),.int .i64 ga,.int .i64 gc',.string (bs gq),.string (bs gp),.string (bs gco),.string (bs gd),.string (bs gr)]]) rfl (aU rfl rfl e87 rfl) ?_ (LO.out _) ?_
      ·simp[execOp,af,e90,resolve,invoke,Deferred.ofValue];rfl
      ·rintro e W3⟨rfl,hx⟩;exact⟨_,rfl,h.step hi rfl rfl _ (.inl ⟨by decide,fun h=>h.trans hx,fun h=>h.trans hx⟩)⟩
     ·skip;have e89:a.tmps.getD 89 undef=Value.string (bs gd):=nd 6 (by decide) rfl;have e91:a.tmps.getD 91 undef=Value.string (bs lo):=nd 8 (by decide) rfl;have e87:a.tmps.getD 87 undef=Value.bool false:=nd 4 (by decide) rfl;refine dH (fn:=119) (args:=#[.string (bs gd),.string (bs lo)]) rfl (aU rfl rfl e87 rfl) ?_ (CL.out _) ?_
      ·simp[execOp,af,e89,e91,resolve,invoke,Deferred.ofValue];rfl
      ·rintro e W3⟨rfl,hx⟩;exact⟨_,rfl,h.step hi rfl rfl _ (.inl ⟨by decide,fun h=>h.trans hx,fun h=>h.trans hx⟩)⟩
     ·skip;have e92:a.tmps.getD 92 undef=Value.int .i64 y:=nd 9 (by decide) rfl;have e87:a.tmps.getD 87 undef=Value.bool false:=nd 4 (by decide) rfl;refine aX rfl (aU rfl rfl e87 rfl) _ ?_ (h.step hi rfl rfl _ (.inl ⟨by decide,fun h=>h,fun h=>h⟩));simp[execOp,af,e92];go_simp
     ·skip;have e87:a.tmps.getD 87 undef=Value.bool false:=nd 4 (by decide) rfl;have e93:a.tmps.getD 93 undef=Value.bool false:=nd 10 (by decide) rfl;refine ar rfl rfl _ ?_ (h.step hi rfl rfl _ (.inl ⟨by decide,fun h=>h,fun h=>h⟩));simp[execOp,af,e87,e93];go_simp
     ·skip;have e94:a.tmps.getD 94 undef=Value.bool false:=nd 11 (by decide) rfl;refine ar rfl rfl _ ?_ (h.step hi rfl rfl _ (.inl ⟨by decide,fun h=>h,fun h=>h⟩));simp[execOp,af,e94]
     ·skip;have e1:a.tmps.getD 1 undef=Value.pointer (some ⟨G,0,none⟩):=hbz 1 (by omega);have e95:a.tmps.getD 95 undef=Value.bool false:=nd 12 (by decide) rfl;refine aX rfl (aU rfl rfl e95 rfl) _ ?_ (h.step hi rfl rfl _ (.inl ⟨by decide,fun h=>h,fun h=>h⟩));simp[execOp,af,e1,f9]
     ·skip;have e96:a.tmps.getD 96 undef=Value.pointer (some ⟨G,9,none⟩):=nd 13 (by decide) rfl;have e95:a.tmps.getD 95 undef=Value.bool false:=nd 12 (by decide) rfl;refine aX rfl (aU rfl rfl e95 rfl) _ ?_ (h.step hi rfl rfl _ (.inl ⟨by decide,fun h=>h,fun h=>h⟩));simp[execOp,af,e96,l9' _ hW]
     ·skip;have e97:a.tmps.getD 97 undef=Value.string (bs gr):=nd 14 (by decide) rfl;have e95:a.tmps.getD 95 undef=Value.bool false:=nd 12 (by decide) rfl;refine aX rfl (aU rfl rfl e95 rfl) _ ?_ (h.step hi rfl rfl _ (.inl ⟨by decide,fun h=>h,fun h=>h⟩));simp[execOp,af,e97];go_simp
     ·skip;have e98:a.tmps.getD 98 undef=Value.bool false:=nd 15 (by decide) rfl;have e95:a.tmps.getD 95 undef=Value.bool false:=nd 12 (by decide) rfl;refine aX rfl (aU rfl rfl e95 rfl) _ ?_ (h.step hi rfl rfl _ (.inl ⟨by decide,fun h=>h,fun h=>h⟩));simp[execOp,af,e98]
     iterate 3
      ·skip;have e99:a.tmps.getD 99 undef=Value.bool false:=nd 16 (by decide) rfl;refine cS rfl (uU rfl rfl e99 rfl) (h.step hi rfl rfl _ (.inl ⟨by decide,fun h=>h,fun h=>h⟩))
     ·skip;have e99:a.tmps.getD 99 undef=Value.bool false:=nd 16 (by decide) rfl;have e95:a.tmps.getD 95 undef=Value.bool false:=nd 12 (by decide) rfl;refine aX rfl (aU rfl rfl e95 rfl) _ ?_ (h.step hi rfl rfl _ (.inl ⟨by decide,fun h=>h,fun h=>h⟩));simp[execOp,af,e99];go_simp
     ·skip;have e95:a.tmps.getD 95 undef=Value.bool false:=nd 12 (by decide) rfl;have e103:a.tmps.getD 103 undef=Value.bool false:=nd 20 (by decide) rfl;refine ar rfl rfl _ ?_ (h.step hi rfl rfl _ (.inr ⟨rfl,hW⟩));simp[execOp,af,e95,e103];go_simp
end
end Go.Proofs.YtaegjkllenlfpaaGreatDoor
