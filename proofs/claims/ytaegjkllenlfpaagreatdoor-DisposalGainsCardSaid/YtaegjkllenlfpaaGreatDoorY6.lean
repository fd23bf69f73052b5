/- The seat's texts, part Y6. -/
import Derived.Test.YtaegjkllenlfpaaGreatDoorY5
set_option maxRecDepth 100000
set_option maxHeartbeats 8000000
namespace Go.Proofs.YtaegjkllenlfpaaGreatDoor
open Tryz
section
open Go.RowKit
attribute [local go_sem] size_bs toList_bs
def Ee(X:Nat)(bL:List Nat)(La ga gb gq capA cB capQ:Nat)(w:World)(vi:Value)(wr:World):Prop :=
 ∃(i:Nat) (a q:List Nat),vi = .int .i64 ((i:Int)-1)∧i<=La-bL.length∧RowU wr ga capA a∧RowU wr gb cB bL∧RowU wr gq capQ q∧KnAt X bL La i a q∧Ext w wr
theorem rf(x y:Nat)(h:y<=x)(h2:2<=(gr y).length)(A A':Option Addr)(c c':Nat)(w:World)(hA:RdU w A (gr x))(hA':RdU w A' (gr y))(hn:(gr x).length<=900000)(hn':(gr y).length<=900000) :
  Calls prog 263 #[.slice A (gr x).length c,.slice A' (gr y).length c'] w (nV (x / y) (x % y) w):=by
 have hy0:0<y:=by
  rcases MB y with e|e
  ·rw[e,gr_zero]at h2;simp at h2
  ·exact e
 have HA:=qh hA;have HA':=qh hA';have HCP:=qh (intCompare x y A A' c c' w hA hA' (by omega) (by omega));have htp:=sv (y:=y) (by omega);have htb:at0 (gr y) ((gr y).length-1)<B9:=at0_bd (gr_lt y) _;obtain⟨hs0,hsB⟩:=Bm htp htb;obtain⟨b,o,rfl,hb,hct⟩:=hA'.at_ (k:=(gr y).length-1) (by omega);rw[←at0_lt]at hct;have HCT:=qh hct;have HTM:=qh (fun s (_:0<s) (_:s<B9) (B:Option Addr) (W:World) (h1:RdU W A (gr x)) (h3:RdU W B (gr s))=>pt x s A B c 1 W h1 h3 (by omega) (by rw[mt ‹_› ‹_›];simp));have HTN:=qh (fun s (_:0<s) (_:s<B9) (B:Option Addr) (W:World) (h1:RdU W (some ⟨b,o,none⟩) (gr y)) (h3:RdU W B (gr s))=>pt y s (some ⟨b,o,none⟩) B c' 1 W h1 h3 (by omega) (by rw[mt ‹_› ‹_›];simp));generalize htt:at0 (gr y) ((gr y).length-1)=t at *;clear hA hA' hct htt;have e9:B9=1000000000:=rfl;rw[e9]at htb;clear e9;have hks:((gr y).length:Int)-1=(((gr y).length-1:Nat):Int):=by omega
 have hk1:(((gr y).length:Int) == 1)=false:=by rw[Mt];omega
 go_enter func263,ntmps263;go_wp2_with fail;refine HCP.out.mono ?_;rintro e w1⟨hx1,z,rfl,hcase⟩;have hr:¬ z<0:=by omega
 have hrb:decide (z<0)=false:=by simpa using hr
 have HX1:=qh hx1;have hcy:=(hx1.cell (p:=⟨b,o+((gr y).length-1),none⟩) hb).trans HCT.out;clear hcase hx1;go_wp2_with fail
 have hsI:(1000000000:Int) / ((t:Int)+1)=((1000000000 / (t+1):Nat):Int):=by
  rw[Sq,Od];rfl
 rw[hsI];clear hsI;generalize 1000000000 / (t+1)=s at *;obtain⟨f1,f2,f3⟩:=Gx (x:=x) hs0 hy0;have HF:=qh (MC f1 (MC f2 f3));have hXY:y*s<=x*s:=MO _ h;have hYl:2<=(gr (y*s)).length:=Mx h2 (gr_len_mono (Nat.le_mul_of_pos_right _ hs0));have HGS:=qh (mt hs0 hsB)
 have HLX:Hid ((gr (x*s)).length<=900001):=qh (by
  have h5:x<B9 ^ (gr x).length:=by have:=nT (gr_lt x);rwa[gval_gr]at this
  have h6:x*s<B9 ^ ((gr x).length+1):=by rw[Nf];exact QM h5 hsB
  have:=gr_len_le h6;omega)
 obtain⟨hkn,hlk⟩:=Bn hYl hXY;have HKN:=qh hkn;have HKE:=qh (fun a q hk=>Gy (X:=x*s) (Y:=y*s) (a:=a) (q:=q) hk hYl hlk);have HDV:=qh (tE hYl);clear f1 f2 f3 hkn hcy htb htp;have HB1:Hid (RdU (w1.alloc (.cells #[.int .u64 s] 173)) (some ⟨w1.heap.size,0,none⟩) (gr s)):=qh (by rw[HGS.out];exact Reads.lit rfl);have HT1:=qh (HTM.out s hs0 hsB (some ⟨w1.heap.size,0,none⟩) (w1.alloc (.cells #[.int .u64 s] 173)) (HA.out.ext (HX1.out.alloc _)) HB1.out);rw[show(gr s).length=1 by rw[HGS.out];rfl]at HT1;refine HT1.out.mono ?_;rintro e w2⟨A2,c2,rfl,hown2,hx2⟩;have HX2:=qh ((HX1.out.alloc _).trans hx2);have hz2:=hx2.size;simp only[Qe]at hz2;have HOW2:=qh hown2;clear hown2 hx2 HT1 HB1;obtain⟨i0,hI,hz0,hz1,hzb⟩:=Ny u64Info;have HI:=qh hI;clear hI;have hXl:0<(gr (x*s)).length:=by omega
 have hlx:=HLX.out;go_wp2_with (at_builtin;refine OK _ rfl (.tmp 55) (.tmp 56) 110 rfl (w1.alloc (.cells #[.int .u64 s] 173)).heap.size 173 i0 _ 1 8 Oc HI.out hz0 hz1 hzb rfl (by decide) _ (gr (x*s)).length (ucells (gr (x*s))) rfl (own_ext2 HOW2.out (Id _ _)) ⟨w2.heap.size,0,none⟩ 2 2 [.int .u64 0,.int .u64 0] rfl rfl (M7 (M4 w2 _)) (by simp[Value.oneCell']) (by omega) (by simp only[maxLen];omega) (by omega) (by simp;omega) _ rfl ?_;intro ga capA w3 hown3 hgrow3 hat3 hlt3);have HX3:Hid (Ext w w3):=qh (Ext.grown (HX2.out.alloc _) hgrow3 (fun k hk=>Mx (HX1.out.alloc _).size (own_base HOW2.out k hk)))
 have hrowA:RowU w3 ga capA (gr (x*s)++[0,0]):=by
  obtain⟨hgb,cur,hrow⟩:=Row.of_own hown3;refine⟨cur,?_⟩;have e1:(gr (x*s)++[0,0]).length=(gr (x*s)).length+2:=by simp
  have e2:ucells (gr (x*s)++[0,0])=ucells (gr (x*s))++[.int .u64 0,.int .u64 0]:=by simp[ucells]
  rw[e1,e2];exact hrow
 have HGA:Hid (w.heap.size<=ga):=qh (Mx (HX1.out.alloc _).size (Row.of_own hown3).1);have HRA:=qh hrowA;clear hown3 hgrow3 hat3 hrowA HOW2 HX2 hz2;have HB2:Hid (RdU (w3.alloc (.cells #[.int .u64 s] 173)) (some ⟨w3.heap.size,0,none⟩) (gr s)):=qh (by rw[HGS.out];exact Reads.lit rfl);have HT2:=qh (HTN.out s hs0 hsB (some ⟨w3.heap.size,0,none⟩) (w3.alloc (.cells #[.int .u64 s] 173)) (HA'.out.ext (HX3.out.alloc _)) HB2.out);rw[show(gr s).length=1 by rw[HGS.out];rfl]at HT2;refine HT2.out.mono ?_;rintro e w4⟨A4,cB,rfl,hown4,hx4⟩;obtain⟨gb,rfl,hgb,hrowB⟩:=RowU.of_own hown4 (by omega);have HX4:=qh ((HX3.out.alloc _).trans hx4);have HGB:Hid (ga<gb∧gb<w4.heap.size):=qh ⟨by have:=HRA.out.lt;simp at hgb;omega,hrowB.lt⟩;have HRB:=qh hrowB;replace HRA:=qh ((HRA.out.ext (Id _ _)).ext hx4);clear hown4 hx4 HT2 HB2 hrowB hgb HTM HTN;generalize hLX:(gr (x*s)).length=LX at *;generalize hLY:(gr (y*s)).length=LY at *;obtain⟨W5,hmk,hrowQ,hx5⟩:=xx (LX+2-LY) _ w4 rfl (by omega);have hLI:(LX:Int)+2-(LY:Int)=((LX+2-LY:Nat):Int):=by omega
 rw[←hLI]at hmk;have HX5:=HX4.qt hx5;have HRQ:=qh hrowQ;replace HRA:=qh (HRA.out.ext hx5);replace HRB:=qh (HRB.out.ext hx5);clear hrowQ hx5 hLI;have HLXe:=qh hLX;have HLYe:=qh hLY;clear hLX hLY;generalize x*s=X at *;generalize y*s=Y at *;generalize gr Y=bL at *;go_wp2_with fail;clear hmk;have HGQ:Hid (gb<w4.heap.size):=qh HGB.out.2;generalize w4.heap.size=gq at *;have hlyb:bL.length=LY:=HLYe.out;have HB0:Hid (Ee X bL (LX+2) ga gb gq capA cB (LX+2-LY) w (.int .i64 ((LX:Int)+2-(LY:Int)-1)) W5):=qh ⟨LX+2-LY,_,_,by congr 1;omega,by omega,HRA.out,HRB.out,HRQ.out,HKN.out,HX5.out⟩;clear HRA HRB HRQ HX5 HKN hlyb;go_loopw [13,14,15,16,17,18,19,20,21] (fun vi _ _ _ _ _ _ _ _ wr=>Ee X bL (LX+2) ga gb gq capA cB (LX+2-LY) w vi wr) (fun vi _ _ _ _ _ _ _ _ _=>(intOf vi+1).toNat)
 case atStart=>exact HB0.out
 case round =>
  clear HB0;obtain⟨i,a,q,rfl,hi,hra,hrb',hrq,hkn,hx⟩:=hrel;have HRA:=qh hra;have HRB:=qh hrb';have HRQ:=qh hrq;have HKN:=qh hkn;have HX:=qh hx;have hla:=hkn.la;have hlq:=hkn.lq;have hlyb:bL.length=LY:=HLYe.out;rw[hlyb]at hi hlq;clear hra hrb' hrq hkn hx;rcases MB i with h0|h0
  ·subst h0;obtain⟨k1,k2⟩:=HKE.out a q HKN.out;have HK1:Hid (cutL q=gr (x / y)):=qh (by rw[k1,HF.out.1]);have HK2:=qh k2;have hcA:=HRA.out.caps;have hcQ:=HRQ.out.caps;have htl:(a.take LY).length=LY:=by rw[Mu];omega
   have HCA:=qh (jB (a.take LY) (some ⟨ga,0,none⟩) capA wr (HRA.out.reads.take LY) (by omega) hcA.2 (HKN.out.alla.take LY));rw[htl,k2]at HCA;have HRR:Hid (RdU wr (some ⟨ga,0,none⟩) (gr (X % Y))):=qh (by rw[←k2,cutL_prefix (a.take LY)];exact(HRA.out.reads.take LY).take _);have HRL:Hid ((gr (X % Y)).length<=1000000):=qh (by have:=cutL_le (a.take LY);rw[k2,htl]at this;omega);have HSG:=qh (su (X % Y) s hs0 hsB (some ⟨ga,0,none⟩) capA wr HRR.out HRL.out);rw[show(X % Y) / s=x % y by rw[HF.out.2.1,HF.out.2.2]]at HSG;have HCQ:=qh (fun W hW=>jB q (some ⟨gq,0,none⟩) (LX+2-LY) W hW hcQ.1 hcQ.2 HKN.out.allq);rw[hlq,HK1.out]at HCQ;have HQL:Hid ((gr (x / y)).length<=LX+2-LY):=qh (by have:=cutL_le q;rw[HK1.out,hlq]at this;exact this);have HRDQ:Hid (RdU wr (some ⟨gq,0,none⟩) (gr (x / y))):=qh (by rw[←HK1.out,cutL_prefix q];exact HRQ.out.reads.take _);have HCQ2:=qh hcQ;have hclA:LY<=capA:=by omega
   have hmA:=hcA.2;unfold maxLen at hmA;clear k1 k2 htl hcA hcQ;generalize x / y=xq at *;generalize x % y=xr at *;go_wp2_with fail;refine HCA.out.mono ?_;rintro e w7⟨rfl,rfl⟩;go_wp2_with fail;refine HSG.out.mono ?_;rintro e w8⟨A8,c8,rfl,hown8,hx8⟩;have HOW8:=qh hown8;have HX8:=qh hx8;clear hown8 hx8;go_wp2_with fail;refine(HCQ.out _ (HRQ.out.reads.ext HX8.out)).mono ?_;rintro e w9⟨rfl,rfl⟩;go_wp2_with fail;go_ret2;exact⟨_,_,A8,c8,rfl,HRDQ.out.ext HX8.out,Reads.own HOW8.out,HX.out.trans HX8.out,⟨HQL.out,HCQ2.out.2⟩,own_cap HOW8.out⟩
  ·obtain⟨j,rfl⟩:∃j,i=j+1:=⟨i-1,by omega⟩;have e0:((j+1:Nat):Int)-1=(j:Int):=by omega
   rw[e0];clear e0;have hj:j+LY<LX+2:=by omega
   have a0:=HRA.out.at0 (k:=j+LY) (by omega);have a1:=HRA.out.at0 (k:=j+LY-1) (by omega);have b1:=HRB.out.at0 (k:=LY-1) (by omega);have ba0:=HKN.out.alla.at0 (j+LY);have ba1:=HKN.out.alla.at0 (j+LY-1);have bb1:at0 bL (LY-1)<B9:=HDV.out.all.at0 (LY-1);have bb1p:0<at0 bL (LY-1):=by have:=HDV.out.top;rw[hlyb]at this;exact this
   have e9:B9=1000000000:=rfl;rw[e9]at ba0 ba1 bb1;clear e9;generalize hq0:at0 a (j+LY)=t0 at *;generalize hq1:at0 a (j+LY-1)=t1 at *;generalize hq2:at0 bL (LY-1)=d1 at *;have HQ0:=qh hq0;have HQ1:=qh hq1;have HQ2:=qh hq2;clear hq0 hq1 hq2;have w0:IntKind.i64.wrap ((j:Int)+(LY:Int))=(j:Int)+(LY:Int):=Nl _ (by omega);have w1':IntKind.i64.wrap ((j:Int)+(LY:Int)-1)=(j:Int)+(LY:Int)-1:=Nl _ (by omega);have n0:((j:Int)+(LY:Int)).toNat=j+LY:=by omega
   have n1:((j:Int)+(LY:Int)-1).toNat=j+LY-1:=by omega
   have p0:(0:Int)<=(j:Int)+(LY:Int):=by omega
   have p1:(0:Int)<=(j:Int)+(LY:Int)-1:=by omega
   have p2:(1:Int)<=(j:Int)+(LY:Int):=by omega
   have m0:(j:Int)+(LY:Int)<(LX:Int)+2:=by omega
   have m1:(j:Int)+(LY:Int)-1<(LX:Int)+2:=by omega
   go_wp2_with fail;go_quiet (fail);go_wp2_with fail;clear w0 w1' n0 n1 p0 p1 p2 m0 m1 a0 a1 b1;have hT:(t0:Int)*1000000000+(t1:Int)=((t0*B9+t1:Nat):Int):=by rw[Od,Ou];rfl
   have hTb:t0*B9+t1<1000000000000000000:=by have e9:B9=1000000000:=rfl;rw[e9];omega
   have hM:min (((t0*B9+t1:Nat):Int) / (d1:Int)) 999999999=((min ((t0*B9+t1) / d1) (B9-1):Nat):Int):=by
    rw[←Sq,show(999999999:Int)=((B9-1:Nat):Int) from rfl];generalize (t0*B9+t1) / d1=u;generalize B9-1=v;omega
   rw[hT,hM];clear hT hM;have HEW:=qh (iD wr |>.drewN nq);replace HRA:=qh (HRA.out.ext HEW.out);replace HRB:=qh (HRB.out.ext HEW.out);replace HRQ:=qh (HRQ.out.ext HEW.out);replace HX:=qh (HX.out.trans HEW.out);clear HEW;generalize wr.drewN nq=W6 at *;have ba2:=HKN.out.alla.at0 (j+LY-2);have bb2:at0 bL (LY-2)<B9:=HDV.out.all.at0 (LY-2);have HDVb2:=qh bb2;have HG0:=qh (GuessAt.start (top:=t0*B9+t1) (a2:=at0 a (j+LY-2)) (b1:=d1) (b2:=at0 bL (LY-2)) ba2 bb1p);have e9:B9=1000000000:=rfl;generalize ht3:t0*B9+t1=T at *;generalize hq4:at0 a (j+LY-2)=t2 at *;generalize hq5:at0 bL (LY-2)=d2 at *;rw[e9]at ba2 bb2;have HT3:=qh ht3;have HQ4:=qh hq4;have HQ5:=qh hq5;clear e9 ht3 hq4 hq5;go_loopw [15,16] (fun vz _ wr=>∃z:Nat,vz = .int .u64 z∧GuessAt T t2 d1 d2 z∧Ext W6 wr) (fun vz _ _=>(intOf vz).toNat)
   case atStart=>exact⟨_,rfl,HG0.out,iD _⟩
   case round =>
    clear HG0;obtain⟨g,rfl,hg,hx6⟩:=hrel;have HG:=qh hg;have HX6:=qh hx6;have hgB:=hg.lt;have hgl:=hg.le;have b1:=(HRB.out.ext HX6.out).at0 (k:=LY-1) (by omega);have b2:=(HRB.out.ext HX6.out).at0 (k:=LY-2) (by omega);have a2:=(HRA.out.ext HX6.out).at0 (k:=j+LY-2) (by omega);rw[HQ2.out]at b1;rw[HQ5.out]at b2;rw[HQ4.out]at a2;have e9:B9=1000000000:=rfl;rw[e9]at hgB;clear e9 hg hx6;have hpd:(g:Int)*(d1:Int)=((g*d1:Nat):Int):=(Ou _ _).symm;have hgd0:(0:Int)<=(g:Int)*(d1:Int):=by rw[hpd];omega
    have hgd1:(g:Int)*(d1:Int)<=(T:Int):=by rw[hpd];omega
    clear hpd;go_wp2_with fail
    have hLI:(T:Int)-(g:Int)*(d1:Int)=((T-g*d1:Nat):Int):=by
     have hpd:(g:Int)*(d1:Int)=((g*d1:Nat):Int):=(Ou _ _).symm;rw[hpd];omega
    rw[hLI];clear hLI hgd0 hgd1;have hLT:T-g*d1<=T:=Nat.sub_le _ _;have HFN:=qh (fun hc=>HG.out.fine HDVb2.out hc);have HDN:=qh (fun hc=>HG.out.down hc);generalize T-g*d1=L at *;have b2I:(g:Int)*(d2:Int)=((g*d2:Nat):Int):=(Ou _ _).symm;have hgd:g*d2<=999999999*999999999:=P9 (by omega) (by omega);have hz0':(0:Int)<=(g:Int)*(d2:Int):=by rw[b2I];omega
    have hz1':(g:Int)*(d2:Int)<=999999998000000001:=by rw[b2I];omega
    have v0:IntKind.i64.wrap ((j:Int)+(LY:Int))=(j:Int)+(LY:Int):=Nl _ (by omega);have v1:IntKind.i64.wrap ((j:Int)+(LY:Int)-2)=(j:Int)+(LY:Int)-2:=Nl _ (by omega);have v2:IntKind.i64.wrap ((LY:Int)-2)=(LY:Int)-2:=Nl _ (by omega);have v3:IntKind.u64.wrap ((g:Int)*(d2:Int))=(g:Int)*(d2:Int):=Qa _ (by omega);have n1:((j:Int)+(LY:Int)-2).toNat=j+LY-2:=by omega
    have n2:((LY:Int)-2).toNat=LY-2:=by omega
    have p1:(0:Int)<=(j:Int)+(LY:Int)-2:=by omega
    have p2:(2:Int)<=(j:Int)+(LY:Int):=by omega
    have p3:(0:Int)<=(LY:Int)-2:=by omega
    have p4:(2:Int)<=(LY:Int):=by omega
    have m1:(j:Int)+(LY:Int)-2<(LX:Int)+2:=by omega
    have m2:(LY:Int)-2<(LY:Int):=by omega
    by_cases hL:1000000000<=L;rotate_left
    focus
     have hLb:decide ((1000000000:Int)<=(L:Int))=false:=by simp;omega
     have v4:IntKind.u64.wrap ((L:Int)*1000000000)=(L:Int)*1000000000:=Qa _ (by omega);have v5:IntKind.u64.wrap ((L:Int)*1000000000+(t2:Int))=(L:Int)*1000000000+(t2:Int):=Qa _ (by omega);by_cases hc:g*d2<=L*B9+t2;rotate_left
     focus
      have hcI:decide ((g:Int)*(d2:Int)<=(L:Int)*1000000000+(t2:Int))=false:=by
       rw[b2I,Mi];have e9:B9=1000000000:=rfl;rw[e9]at hc;omega
      obtain⟨hg0,hgd'⟩:=HDN.out hc;have HGD:=qh hgd';clear hc b2I hgd';go_quiet (fail);go_wp2_with fail;exact⟨⟨g-1,by go_num,HGD.out,HX6.out.drewN _⟩,by simp[intOf];omega⟩
     have hcI:decide ((g:Int)*(d2:Int)<=(L:Int)*1000000000+(t2:Int))=true:=by
      rw[b2I,MW];have e9:B9=1000000000:=rfl;rw[e9]at hc;omega
     have HFINE:=qh (HFN.out (.inr hc));clear hc b2I;go_quiet (fail);go_wp2_with fail;clear v0 v1 v2 v3 v4 v5 n1 n2 p1 p2 p3 p4 m1 m2 hz0' hz1' b1 b2 a2 hgd HFN HDN hLb hcI hL
    rotate_left
    focus
     have hLb:decide ((1000000000:Int)<=(L:Int))=true:=by simp;omega
     have HFINE:=qh (HFN.out (.inl hL));clear b2I;go_quiet (fail);go_wp2_with fail;clear v0 v1 v2 v3 n1 n2 p1 p2 p3 p4 m1 m2 hz0' hz1' b1 b2 a2 hgd HFN HDN hLb hL
    all_goals
     have HXW:=qh (HX6.out.drewN nq);have HRA7:=qh (HRA.out.ext HXW.out);have HRB7:=qh (HRB.out.ext HXW.out);have HRQ7:=qh (HRQ.out.ext HXW.out);have HX7:=qh (HX.out.trans HXW.out);have HGUESS:Hid (gval (a.drop j) / gval bL<=g∧g<=gval (a.drop j) / gval bL+1):=qh (HKN.out.guess HDV.out (by rw[hlyb];exact hj) (by rw[hlyb,HQ0.out,HQ1.out,HQ2.out,HQ4.out,HQ5.out,HT3.out];exact HG.out) (by rw[hlyb,HQ0.out,HQ1.out,HQ2.out,HQ4.out,HQ5.out,HT3.out];exact HFINE.out));clear HXW HX6 HFINE HRA HRB HRQ HX;generalize wr.drewN nq=W7 at *;go_loopw [136,17,18,19] (fun vk vb _ _ wr=>∃(k bo:Nat) (a1:List Nat),k<=LY∧vk = .int .i64 k∧vb = .int .u64 bo∧RowU wr ga capA a1∧SubIn g bL a j k bo a1∧RowU wr gb cB bL∧RowU wr gq (LX+2-LY) q∧Ext w wr) (fun vk _ _ _ _=>LY-(intOf vk).toNat)
     case atStart=>exact⟨0,0,a,by omega,rfl,rfl,HRA7.out,SubIn.start HKN.out.alla,HRB7.out,HRQ7.out,HX7.out⟩
     case round =>
      clear HRA7 HRB7 HRQ7 HX7;obtain⟨k,bo,a1,hk,rfl,rfl,hra,hsb,hrb',hrq,hx⟩:=hrel;have HRA:=qh hra;have HSB:=qh hsb;have HRB:=qh hrb';have HRQ:=qh hrq;have HX:=qh hx;have hl1:=hsb.len;have hbo:=hsb.bb;clear hra hsb hrb' hrq hx;by_cases hltk:k<LY
      ·have cb:=HRB.out.at0 (k:=k) (by omega);have ca:=HRA.out.at0 (k:=j+k) (by omega);have fa:=HRA.out.frozen (j+k);have bbk:=HDV.out.all.at0 k;have bak:=HSB.out.all.at0 (j+k);have HST:=qh (HSB.out.step (by have e9:B9=1000000000:=rfl;rw[e9];exact hgB) HDV.out.all (by omega));have HSBD:=qh (pW (g:=g) (by have e9:B9=1000000000:=rfl;rw[e9];exact hgB) bbk hbo bak);have HP1:=qh (fun v z hz=>HRA.out.put (j+k) z v (by omega) hz);have HP2:=qh (fun v0 z0 hz0 v z hz=>(HRA.out.put (j+k) z0 v0 (by omega) hz0).put (j+k) z v (by rw[MM];omega) hz);generalize at0 bL k=bk at *;generalize at0 a1 (j+k)=ak at *;obtain⟨hm0,hm1⟩:=Gs (x:=g) (y:=bk) (by have e9:B9=1000000000:=rfl;rw[e9];exact hgB) bbk;have e9:B9=1000000000:=rfl;rw[e9]at hbo bbk bak;clear e9;have hjk:((j:Int)+(k:Int)).toNat=j+k:=by omega
       have hLs:((g:Int)*(bk:Int)+(bo:Int)) % 1000000000=(dZ g bk bo:Nat):=by
        unfold dZ;rw[Int.natCast_emod,Od,Ou];rfl
       have hQs:((g:Int)*(bk:Int)+(bo:Int)) / 1000000000=((g*bk+bo) / B9:Nat):=by
        rw[Sq,Od,Ou];rfl
       have HLs:=qh hLs;have HQs:=qh hQs;clear hLs hQs;have hsl:dZ g bk bo<1000000000:=NV _ (by decide);by_cases hlt:(ak:Int)<((g:Int)*(bk:Int)+(bo:Int)) % 1000000000
       ·have hltN:ak<dZ g bk bo:=by rw[HLs.out]at hlt;omega
        have HB:Hid (jZ g bk bo ak=(g*bk+bo) / B9+1∧gJ g bk bo ak=ak+B9-dZ g bk bo):=qh ⟨by unfold jZ;rw[Mq hltN],by unfold gJ;rw[Mq hltN]⟩;go_wp2_with fail
        exact⟨⟨k+1,_,_,by omega,by go_num,by rw[HB.out.1,HQs.out];go_num,by
         have hp:=HP2.out (ak+1000000000) ((ak:Int)+1000000000) (by omega) (gJ g bk bo ak) ((ak:Int)+1000000000-((g:Int)*(bk:Int)+(bo:Int)) % 1000000000) (by rw[HLs.out,HB.out.2,show B9=1000000000 from rfl];omega);rw[RN]at hp;exact hp,HST.out,(HRB.out.far (by have:=HGB.out.1;omega) _ _).far (by have:=HGB.out.1;omega) _ _,(HRQ.out.far (by have:=HGB.out.1;have:=HGQ.out;omega) _ _).far (by have:=HGB.out.1;have:=HGQ.out;omega) _ _,(HX.out.setCell (p:=⟨ga,j+k,none⟩) HGA.out _).setCell (p:=⟨ga,j+k,none⟩) HGA.out _⟩,by simp[intOf];omega⟩
       ·have hltN:¬ ak<dZ g bk bo:=by rw[HLs.out]at hlt;omega
        have HB:Hid (jZ g bk bo ak=(g*bk+bo) / B9∧gJ g bk bo ak=ak-dZ g bk bo):=qh ⟨by unfold jZ;rw[Mj hltN];rfl,by unfold gJ;rw[Mj hltN]⟩;go_wp2_with fail;exact⟨⟨k+1,_,_,by omega,by go_num,by rw[HB.out.1,HQs.out],HP1.out (gJ g bk bo ak) _ (by rw[HLs.out,HB.out.2];omega),HST.out,HRB.out.far (by have:=HGB.out.1;omega) _ _,HRQ.out.far (by have:=HGB.out.1;have:=HGQ.out;omega) _ _,HX.out.setCell (p:=⟨ga,j+k,none⟩) HGA.out _⟩,by simp[intOf];omega⟩
      ·have hkl:k=LY:=by omega
       subst hkl;clear hltk hk;have hat:at0 a1 (j+k)=t0:=by rw[HSB.out.top];exact HQ0.out
       have ca:=HRA.out.at0 (k:=j+k) (by omega);rw[hat]at ca;have fa:=HRA.out.frozen (j+k);have fq:=HRQ.out.frozen j;have cq:=HRQ.out.at0 (k:=j) (by omega);have hqg:gq≠ga:=by have:=HGB.out.1;have:=HGQ.out;omega
       have hgq':ga≠gq:=by have:=HGB.out.1;have:=HGQ.out;omega
       have hjk:((j:Int)+(k:Int)).toNat=j+k:=by omega
       have HSBk:Hid (SubIn g bL a j bL.length bo a1):=qh (by rw[hlyb];exact HSB.out);have hgB9:g<B9:=by have e9:B9=1000000000:=rfl;rw[e9];exact hgB
       have HGB9:=qh hgB9;have HHJ:Hid (j+bL.length<k+(LX+2-k)):=qh (by omega);clear hgB9;have e9:B9=1000000000:=rfl;rw[e9]at hbo;clear e9;by_cases hbt:bo<=t0
       ·have HKR:=qh ((HKN.out.right HDV.out (by omega) HSBk.out HGB9.out HGUESS.out.1 (by rw[hlyb,HQ0.out];exact hbt)).1);rw[hlyb,HQ0.out]at HKR;have HP1:=qh (fun v z hz=>HRA.out.put (j+k) z v (by omega) hz);have HPQ:=qh (fun W (hW:RowU W gq (LX+2-k) q)=>hW.put j (g:Int) g (by omega) rfl);generalize at0 q j=qj at *;go_wp2_with fail;exact⟨⟨j,_,_,by first|rfl|go_num,by omega,(HP1.out (t0-bo) _ (by omega)).far hgq' _ _,(HRB.out.far (by have:=HGB.out.1;omega) _ _).far (by have:=HGQ.out;omega) _ _,HPQ.out _ (HRQ.out.far hqg _ _),HKR.out,(HX.out.setCell (p:=⟨ga,j+k,none⟩) HGA.out _).setCell (p:=⟨gq,j,none⟩) (by have:=HGA.out;have:=HGB.out.1;have:=HGQ.out;show w.heap.size<=gq;omega) _⟩,by simp[intOf] <;> omega⟩
       ·have hg0:=HKN.out.pos HDV.out (by omega) HSBk.out HGB9.out HGUESS.out.2 (by rw[hlyb,HQ0.out];omega);obtain⟨wo,rfl⟩:∃wo:World,wo=wr:=⟨_,rfl⟩;go_wp2_with fail;clear ca fa fq cq;go_loopw [200,20,21] (fun vk vc _ wr=>∃(l ca:Nat) (a2:List Nat),l<=k∧vk = .int .i64 l∧vc = .int .u64 ca∧RowU wr ga capA a2∧AddIn bL a1 j l ca a2∧RowU wr gb cB bL∧RowU wr gq (LX+2-k) q∧Ext w wr) (fun vk _ _ _=>k-(intOf vk).toNat)
        case atStart=>exact⟨0,0,a1,by omega,rfl,rfl,HRA.out,AddIn.start HSB.out.all,HRB.out,HRQ.out,HX.out⟩
        case round =>
         clear HRA HRB HRQ HX;obtain⟨l,ca,a2,hl,rfl,rfl,hra,had,hrb',hrq,hx⟩:=hrel;have HRA:=qh hra;have HAD:=qh had;have HRB:=qh hrb';have HRQ:=qh hrq;have HX:=qh hx;have hl2:=had.len;have hcb:=had.cb;clear hra had hrb' hrq hx;have bbl:=HDV.out.all.at0 l;have bal:=HAD.out.all.at0 (j+l);have hgab:gb≠ga:=by have:=HGB.out.1;omega
         have hgba:ga≠gb:=by have:=HGB.out.1;omega
         by_cases hlk:l<k
         ·have cb:=HRB.out.at0 (k:=l) (by omega);have cc:=HRA.out.at0 (k:=j+l) (by omega);have fa:=HRA.out.frozen (j+l);have HST:=qh (HAD.out.step HDV.out.all (by omega));have HP2:=qh (fun z0 v0 hz0 z v hz=>(HRA.out.put (j+l) z0 v0 (by omega) hz0).put (j+l) z v (by rw[MM];omega) hz);generalize at0 bL l=bl at *;generalize at0 a2 (j+l)=al at *;have e9:B9=1000000000:=rfl;rw[e9]at bbl bal HST;clear e9;have hjl:((j:Int)+(l:Int)).toNat=j+l:=by omega
          have HC1:Hid (((al:Int)+((bl:Int)+(ca:Int))) / 1000000000=(((al+(bl+ca)) / 1000000000:Nat):Int)):=qh (by omega);have HP1:Hid (((al:Int)+((bl:Int)+(ca:Int))) % 1000000000=(((al+(bl+ca)) % 1000000000:Nat):Int)):=qh (by omega);go_wp2_with fail;go_region
          go_wp2_with fail;refine⟨⟨l+1,_,_,by omega,by go_num,by rw[HC1.out],?_,HST.out,?_,?_,?_⟩,by simp[intOf];omega⟩
          ·have hp:=HP2.out ((al:Int)+((bl:Int)+(ca:Int))) (al+(bl+ca)) (by omega) (((al:Int)+((bl:Int)+(ca:Int))) % 1000000000) ((al+(bl+ca)) % 1000000000) HP1.out;rw[RN]at hp;exact hp.drew
          ·exact((HRB.out.far hgab _ _).far hgab _ _).drew
          ·exact((HRQ.out.far hqg _ _).far hqg _ _).drew
          ·exact((HX.out.setCell (p:=⟨ga,j+l,none⟩) HGA.out _).setCell (p:=⟨ga,j+l,none⟩) HGA.out _).drew
         ·have hkl:k=l:=by omega
          subst hkl;obtain⟨_,htc,hat2,hkw⟩:=HKN.out.wrong HDV.out (by omega) HSBk.out (by rw[hlyb];exact HAD.out) HGB9.out HGUESS.out.2 (by rw[hlyb,HQ0.out];omega);rw[hlyb,HQ0.out]at htc hat2;rw[hlyb]at hkw;have HKW:=qh hkw;have cc:=HRA.out.at0 (k:=j+k) (by omega);rw[hat2]at cc;have fa:=HRA.out.frozen (j+k);have fq:=HRQ.out.frozen j;have cq:=HRQ.out.at0 (k:=j) (by omega);have HP1:=qh (fun v z hz=>HRA.out.put (j+k) z v (by omega) hz);have HPQ:=qh (fun W (hW:RowU W gq (LX+2-k) q) z hz=>hW.put j z (g-1) (by omega) hz);generalize at0 q j=qj at *;clear hkw hat2 bal bbl hlk;go_wp2_with fail;exact⟨⟨j,_,_,by first|rfl|go_num,by omega,(HP1.out 0 _ (by omega)).far hgq' _ _,(HRB.out.far (by have:=HGB.out.1;omega) _ _).far (by have:=HGQ.out;omega) _ _,HPQ.out _ (HRQ.out.far hqg _ _) _ (by omega),HKW.out,(HX.out.setCell (p:=⟨ga,j+k,none⟩) HGA.out _).setCell (p:=⟨gq,j,none⟩) (by have:=HGA.out;have:=HGB.out.1;have:=HGQ.out;show w.heap.size<=gq;omega) _⟩,by simp[intOf] <;> omega⟩
end
end Go.Proofs.YtaegjkllenlfpaaGreatDoor
