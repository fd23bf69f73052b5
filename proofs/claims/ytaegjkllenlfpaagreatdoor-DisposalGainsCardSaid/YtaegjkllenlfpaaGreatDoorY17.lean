/- The seat's texts, part Y17. -/
import Derived.Test.YtaegjkllenlfpaaGreatDoorY16
set_option maxRecDepth 100000
set_option maxHeartbeats 8000000
namespace Go.Proofs.YtaegjkllenlfpaaGreatDoor
open Tryz
section
open Go.RowKit
attribute [local go_sem] size_bs toList_bs
def jx(ins:Bs)(o:OptV):Int :=
 if o.other≠[]∧isName o.other=false then 23 else if o.other=ins then 18 else if bR o.r false≠0 then bR o.r false else if bR o.p false≠0 then bR o.p false else if bR o.v false≠0 then bR o.v false else if fJ o=true then 2 else 0
def jm(ins:Bs)(os:List OptV)(k:Nat):Int:=match os[k]? with
 |some o=>jx ins o
 |none=>0
def lj(ins:Bs)(os:List OptV):Int:=if os.length=0 then 11 else if 8<os.length then 4 else dg (jm ins os) os.length
structure OptFP (ins:Bs) (o:OptV) (e:Int):Prop where
 n:o.other≠[]->isName o.other=false->e=23
 q:(o.other=[]∨isName o.other=true)->o.other=ins->e=18
 l:(o.other=[]∨isName o.other=true)->o.other≠ins->(bR o.r false≠0->e=bR o.r false)∧(bR o.r false=0->bR o.p false≠0->e=bR o.p false)∧(bR o.r false=0->bR o.p false=0->bR o.v false≠0->e=bR o.v false) ∧
  (bR o.r false=0->bR o.p false=0->bR o.v false=0->(fJ o=true->e=2)∧(fJ o=false->e=0))
theorem Ja(ins:Bs)(o:OptV):OptFP ins o (jx ins o):=by
 refine⟨fun a b=>?_,fun a b=>?_,fun a b=>⟨fun c=>?_,fun c d=>?_,fun c d e=>?_,fun c d e=>⟨fun g=>?_,fun g=>?_⟩⟩⟩
 ·unfold jx;rw[Mq ⟨a,b⟩]
 ·unfold jx;rw[Mj (by rintro⟨k1,k2⟩;rcases a with a|a <;> simp_all),Mq b]
 ·unfold jx;rw[Mj (by rintro⟨k1,k2⟩;rcases a with a|a <;> simp_all),Mj b,Mq c]
 ·unfold jx;rw[Mj (by rintro⟨k1,k2⟩;rcases a with a|a <;> simp_all),Mj b,Mj (by simpa using c),Mq d]
 ·unfold jx;rw[Mj (by rintro⟨k1,k2⟩;rcases a with a|a <;> simp_all),Mj b,Mj (by simpa using c),Mj (by simpa using d),Mq e]
 ·unfold jx;rw[Mj (by rintro⟨k1,k2⟩;rcases a with a|a <;> simp_all),Mj b,Mj (by simpa using c),Mj (by simpa using d),Mj (by simpa using e),Mq g]
 ·unfold jx;rw[Mj (by rintro⟨k1,k2⟩;rcases a with a|a <;> simp_all),Mj b,Mj (by simpa using c),Mj (by simpa using d),Mj (by simpa using e),Mj (by rw[g];decide)]
structure OptsP (ins:Bs) (os:List OptV) (e:Int):Prop where
 zero:os.length=0->e=11
 long:8<os.length->e=4
 hit:0<os.length->¬ 8<os.length->∀k,k<os.length->(∀j,j<k->jm ins os j=0)->jm ins os k≠0->e=jm ins os k
 ok:0<os.length->¬ 8<os.length->(∀j,j<os.length->jm ins os j=0)->e=0
theorem Jb(ins:Bs)(os:List OptV):OptsP ins os (lj ins os):=by
 refine⟨fun a=>?_,fun a=>?_,fun z a k hk b c=>?_,fun z a b=>?_⟩
 ·unfold lj;rw[Mq a]
 ·unfold lj;rw[Mj (by omega),Mq a]
 ·unfold lj;rw[Mj (by omega),Mj a,iW b c hk]
 ·unfold lj;rw[Mj (by omega),Mj a,fC b]
abbrev xY(n d:Bs)(l:Int):Prop:=∀(g1 g2:Nat) (w:World),Env w->Blk w g1 4 #[.bool false]->Blk w g2 4 #[.bool false] ->
  Calls prog 199 #[.agg #[.string (bs n),.string (bs d)],.pointer (some ⟨g1,0,none⟩),.pointer (some ⟨g2,0,none⟩)] w fun e w'=>e = .returned (.int .i64 l)∧Ext w w'
theorem zx(f:FactV)(P:Value)(os:List OptV)(A:Option Addr)(c:Nat)(w:World)(hA:nB w A os)(hs:∀o ∈ os,kX 9000 o)(hn:os.length<=100000)(hE:Env w) :
  Calls prog 136 #[aC f P (ae A os.length c)] w fun e w'=>e = .returned (.int .i64 (lj f.ins os))∧Ext w w':=by
 have HE:=qh hE;have HA:=qh hA;have HSm:=qh hs;have hp:=Jb f.ins os;have P0:=qh hp.zero;have P1:=qh hp.long;have P2:=qh hp.hit;have P3:=qh hp.ok;generalize lj f.ins os=res at *;have HB:=qh (ID w 30 (ag f P (ae A os.length c)));have HX:Hid (Ext w (w.alloc (.cells (ag f P (ae A os.length c)) 30))):=qh (Id _ _);clear hA hs hp hE;go_enter func136,ntmps136;obtain⟨-,-,-,-,-,x5,-,-,-,-,-,-,-,-,-,-,-,-,-,x19,-⟩:=aj HB.out (iD _);by_cases h0:os.length=0
 ·have q0:((os.length:Int) == 0)=true:=by rw[Np];omega
  have e0:=P0.out h0;subst e0;clear P0 P1 P2 P3 h0;go_wp2_with fail;go_ret;exact⟨rfl,HX.out⟩
 have q0:((os.length:Int) == 0)=false:=by rw[Mt];omega
 by_cases h8:8<os.length
 ·have q8:decide (8<(os.length:Int))=true:=by rw[MA];omega
  have e0:=P1.out h8;subst e0;clear P0 P1 P2 P3 h0;go_wp2_with fail;go_ret;exact⟨rfl,HX.out⟩
 have q8:decide (8<(os.length:Int))=false:=by rw[Mi];omega
 replace P2:=qh (P2.out (by omega) h8);replace P3:=qh (P3.out (by omega) h8);clear P0 P1 h0 h8;go_wp2_with fail;generalize w.alloc (.cells (ag f P (ae A os.length c)) 30)=W0 at *;generalize hgx:w.heap.size=gx at *;go_loopw [19,4,6,7] (fun i _ _ _ wr=>∃k:Nat,k<=os.length∧i = .int .i64 k∧(∀j,j<k->jm f.ins os j=0)∧Ext W0 wr) (fun i _ _ _ _=>os.length-(intOf i).toNat)
 case atStart=>exact⟨0,by omega,rfl,fun j hj=>absurd hj (by omega),iD _⟩
 case round =>
  obtain⟨k,hk,rfl,hz,hx⟩:=hrel;have HZ:=qh hz;clear hz;replace HX:=HX.qt hx;replace HB:=qh (HB.out.ext hx);have HL:=qh hx;clear hx;by_cases hlt:k<os.length
  ·obtain⟨b,o,rfl,hb,c0,c1,c2,c3,c4,c5,c6⟩:=(HA.out.ext HX.out).at_ hlt;have hkE:jm f.ins os k=jx f.ins (os[k]'hlt):=by unfold jm;rw[Mr hlt]
   have pk:=Ja f.ins (os[k]'hlt);have HHit:Hid (jm f.ins os k≠0->res=jm f.ins os k):=qh (P2.out k hlt HZ.out)
   have HNx:Hid (jm f.ins os k=0->∀j,j<k+1->jm f.ins os j=0):=qh (fun h j hj=>by
    by_cases e:j=k
    ·subst e;exact h
    ·exact HZ.out j (by omega))
   rw[←hkE]at pk;have hsm:=HSm.out _ (Ml hlt);have hki:(k:Int)<(os.length:Int):=by omega
   have hk0:(0:Int)<=(k:Int):=by omega
   clear hkE HSm P2 P3 HZ;generalize jm f.ins os k=pe at *;generalize os[k]'hlt=y at *;obtain⟨ot,⟨rn,rd⟩,⟨pn,pd⟩,⟨vn,vd⟩⟩:=y;obtain⟨s0,s1,s2,s3,s4,s5,s6⟩:=hsm;dsimp only at c0 c1 c2 c3 c4 c5 c6 s0 s1 s2 s3 s4 s5 s6;have K1:=qh pk.n;have K2:=qh pk.q;have HF:=qh pk.l;dsimp only at K1 K2 HF;have LG1:Hid (xY rn rd (bR ⟨rn,rd⟩ false)):=qh (qr ⟨rn,rd⟩ s1 s2 false);have LG2:Hid (xY pn pd (bR ⟨pn,pd⟩ false)):=qh (qr ⟨pn,pd⟩ s3 s4 false);have LG3:Hid (xY vn vd (bR ⟨vn,vd⟩ false)):=qh (qr ⟨vn,vd⟩ s5 s6 false);have HNm:=qh (fun W=>gc ot W (by omega));clear pk s0 s1 s2 s3 s4 s5 s6;generalize bR ⟨rn,rd⟩ false=lr at *;generalize bR ⟨pn,pd⟩ false=lp at *;generalize bR ⟨vn,vd⟩ false=lv at *;have HG:=qh (ID wr 154 (oc ⟨ot,⟨rn,rd⟩,⟨pn,pd⟩,⟨vn,vd⟩⟩));replace HX:=qh (HX.out.alloc (.cells (oc ⟨ot,⟨rn,rd⟩,⟨pn,pd⟩,⟨vn,vd⟩⟩) 154));replace HL:=qh (HL.out.alloc (.cells (oc ⟨ot,⟨rn,rd⟩,⟨pn,pd⟩,⟨vn,vd⟩⟩) 154));replace HB:=qh (HB.out.alloc (.cells (oc ⟨ot,⟨rn,rd⟩,⟨pn,pd⟩,⟨vn,vd⟩⟩) 154));generalize isName ot=nm at *;go_upto_region 8 with fail;generalize wr.alloc (.cells (oc ⟨ot,⟨rn,rd⟩,⟨pn,pd⟩,⟨vn,vd⟩⟩) 154)=Wp at *;generalize wr.heap.size=G4 at *;go_cut [31] (fun v31 wx=>(v31 = .bool true∧ot≠[]∧nm=false∨v31 = .bool false∧(ot=[]∨nm=true))∧Ext Wp wx)
   case first =>
    obtain⟨r0,-⟩:=lX HG.out (iD _);clear x5;by_cases h0:ot=[]
    ·subst h0;go_wp2_with fail;go_meet
     exact⟨.inr ⟨rfl,.inl trivial⟩,iD _⟩
    ·have qe:ot.isEmpty=false:=by simpa using h0
     go_wp2_with fail;refine(HNm.out _).mono ?_;rintro e W4⟨rfl,hx1⟩
     cases nm
     ·go_wp2_with fail;go_meet
      exact⟨.inl ⟨rfl,h0,trivial⟩,hx1⟩
     ·go_wp2_with fail;go_meet
      exact⟨.inr ⟨rfl,.inr trivial⟩,hx1⟩
   case rest =>
    obtain⟨hv,hx1⟩:=hcut;replace HX:=HX.qt hx1;replace HL:=HL.qt hx1;replace HB:=qh (HB.out.ext hx1);replace HG:=qh (HG.out.ext hx1);clear hx1 c0 c1 c2 c3 c4 c5 c6 hb HNm x5;obtain⟨rfl,g1,g2⟩ | ⟨rfl,g1⟩:=hv
    ·have e0:=K1.out g1 g2;have e1:=HHit.out (by rw[e0];decide);rw[e0]at e1;subst e1;clear K1 K2 HF HHit HNx LG1 LG2 LG3 g1 g2;go_wp2_with fail;go_ret;exact⟨rfl,HX.out⟩
    obtain⟨r0,r1,r2,r3,r4,r5,r6⟩:=lX HG.out (iD _);obtain⟨-,-,-,-,-,x5,-⟩:=aj HB.out (iD _);by_cases hi:ot=f.ins
    ·have qi:(ot == f.ins)=true:=Np.2 hi;have e0:=K2.out g1 hi;have e1:=HHit.out (by rw[e0];decide);rw[e0]at e1;subst e1;clear K1 K2 HF HHit HNx LG1 LG2 LG3 hi g1;go_wp2_with fail;go_ret;exact⟨rfl,HX.out⟩
    have qi:(ot == f.ins)=false:=Mt.2 hi;replace HF:=qh (HF.out g1 hi);clear K1 K2 hi g1;have HS:=qh (ID wc 26 #[.string (bs rn),.string (bs rd),.string (bs pn),.string (bs pd),.string (bs vn),.string (bs vd)]);replace HX:=qh (HX.out.alloc (.cells #[.string (bs rn),.string (bs rd),.string (bs pn),.string (bs pd),.string (bs vn),.string (bs vd)] 26));replace HL:=qh (HL.out.alloc (.cells #[.string (bs rn),.string (bs rd),.string (bs pn),.string (bs pd),.string (bs vn),.string (bs vd)] 26));replace HB:=qh (HB.out.alloc (.cells #[.string (bs rn),.string (bs rd),.string (bs pn),.string (bs pd),.string (bs vn),.string (bs vd)] 26));replace HG:=qh (HG.out.alloc (.cells #[.string (bs rn),.string (bs rd),.string (bs pn),.string (bs pd),.string (bs vn),.string (bs vd)] 26));go_wp2_with fail;clear r0 r1 r2 r3 r4 r5 r6 x5;generalize wc.heap.size=G5 at *;generalize wc.alloc (.cells #[.string (bs rn),.string (bs rd),.string (bs pn),.string (bs pd),.string (bs vn),.string (bs vd)] 26)=W5 at *;go_loopw [45,6,7] (fun i _ _ wr=>∃j:Nat,j<=3∧i = .int .i64 j∧(0<j->lr=0)∧(1<j->lp=0)∧(2<j->lv=0)∧Ext w wr∧Ext W0 wr∧Blk wr gx 30 (ag f P (ae (some ⟨b,o,none⟩) os.length c))∧Blk wr G4 154 (oc ⟨ot,⟨rn,rd⟩,⟨pn,pd⟩,⟨vn,vd⟩⟩)∧Blk wr G5 26 #[.string (bs rn),.string (bs rd),.string (bs pn),.string (bs pd),.string (bs vn),.string (bs vd)]) (fun i _ _ _=>3-(intOf i).toNat)
    case atStart=>exact⟨0,by omega,rfl,fun h=>absurd h (by omega),fun h=>absurd h (by omega),fun h=>absurd h (by omega),HX.out,HL.out,HB.out,HG.out,HS.out⟩
    case round =>
     clear HX HL HB HG HS;obtain⟨j,hj,rfl,z1,z2,z3,hx,hl,hb,hg,hs⟩:=hrel;have HX:=qh hx;have HL:=qh hl;have HB:=qh hb;have HG:=qh hg;have HS:=qh hs;clear hx hl hb hg hs;by_cases h3:j=3;rotate_left
     ·obtain⟨m,hm⟩:∃m,m=j+1:=⟨_,rfl⟩
      have hk:∃nn dd l,wr.cell? ⟨G5,2*j,none⟩=some (.string (bs nn))∧wr.cell? ⟨G5,2*j+1,none⟩=some (.string (bs dd))∧xY nn dd l∧(l=0->(0<m->lr=0)∧(1<m->lp=0)∧(2<m->lv=0))∧(l≠0->pe=l):=by
       have F:=HF.out;obtain rfl|rfl|rfl:j=0∨j=1∨j=2:=by omega
       ·exact⟨rn,rd,lr,HS.out.cell 0,HS.out.cell 1,LG1.out,fun h=>⟨fun _=>h,fun k=>absurd k (by omega),fun k=>absurd k (by omega)⟩,F.1⟩
       ·exact⟨pn,pd,lp,HS.out.cell 2,HS.out.cell 3,LG2.out,fun h=>⟨fun _=>z1 (by omega),fun _=>h,fun k=>absurd k (by omega)⟩,F.2.1 (z1 (by omega))⟩
       ·exact⟨vn,vd,lv,HS.out.cell 4,HS.out.cell 5,LG3.out,fun h=>⟨fun _=>z1 (by omega),fun _=>z2 (by omega),fun _=>h⟩,F.2.2.1 (z1 (by omega)) (z2 (by omega))⟩
      obtain⟨nn,dd,l,a0,a1,lg,hz,hh⟩:=hk;have LG:=qh lg;have HZ1:=qh hz;have HH:=qh hh;have HM:=qh hm;clear LG1 LG2 LG3 HF hz hh lg hm z1 z2 z3;obtain rfl|rfl|rfl:j=0∨j=1∨j=2:=by omega
      all_goals
       simp only[PL,QR,Nat.reduceMul,Nat.reduceAdd]at a0 a1;clear h3 hj;have HV:=qh (ID wr 26 #[.string (bs nn),.string (bs dd)]);replace HX:=qh (HX.out.alloc (.cells #[.string (bs nn),.string (bs dd)] 26));replace HL:=qh (HL.out.alloc (.cells #[.string (bs nn),.string (bs dd)] 26));replace HB:=qh (HB.out.alloc (.cells #[.string (bs nn),.string (bs dd)] 26));replace HG:=qh (HG.out.alloc (.cells #[.string (bs nn),.string (bs dd)] 26));replace HS:=qh (HS.out.alloc (.cells #[.string (bs nn),.string (bs dd)] 26));go_upto_region 15 with fail;generalize wr.alloc (.cells #[.string (bs nn),.string (bs dd)] 26)=W6 at *;generalize wr.heap.size=G6 at *;obtain⟨b0,b1,_,_⟩:=aB HV.out (iD _);have HD:Hid (Ext W6 W6.drew):=qh (iD W6).drew
       go_region_held3 (fun w'=>w'.cell? ⟨G6,0,none⟩=some (.string (bs nn))∧w'.cell? ⟨G6,1,none⟩=some (.string (bs dd)))
        (go_keep)
        (first
         |(go_at_call 129;((with_reducible refine(jE false false _).mono ?_);rintro e w5⟨rfl,hb1,hb2,hx5⟩);(replace HD:=HD.qt hx5);(have HB1:Hid (Blk w5 W6.heap.size 4 #[.bool false]):=qh hb1);(have HB2:Hid (Blk w5 (W6.heap.size+1) 4 #[.bool false]):=qh hb2);(obtain⟨b0,b1,_,_⟩:=aB HV.out HD.out);clear hx5 hb1 hb2)
         |(go_at_call 199;((with_reducible refine(LG.out _ _ _ (HE.out.ext (HX.out.trans HD.out)) HB1.out HB2.out).mono ?_);rintro e w6⟨rfl,hx6⟩);(replace HD:=HD.qt hx6);(obtain⟨b0,b1,_,_⟩:=aB HV.out HD.out);clear hx6)
         |fail)
       all_goals
        clear LG;have hm:=HM.out;by_cases yl:l=0
        ·have g5:(l != 0)=false:=by rw[OV];exact yl
         clear hm;go_wp2_with fail;have hm:=HM.out;have hz:=HZ1.out yl;subst hm;exact⟨⟨_,by omega,by go_num,hz.1,hz.2.1,hz.2.2,HX.out.trans HD.out,HL.out.trans HD.out,HB.out.ext HD.out,HG.out.ext HD.out,HS.out.ext HD.out⟩,by simp[intOf]⟩
        ·have g5:(l != 0)=true:=by rw[Nc];exact yl
         have e0:=HH.out yl;have e1:=HHit.out (by rw[e0];exact yl);rw[e0]at e1;subst e1;replace HX:=qh (HX.out.trans HD.out);clear hm HH HHit HNx;go_wp2_with fail;go_ret;exact⟨rfl,HX.out⟩
     ·subst h3;obtain⟨r0,r1,r2,r3,r4,r5,r6⟩:=lX HG.out (iD _);have HBK:=qh (HF.out.2.2.2 (z1 (by omega)) (z2 (by omega)) (z3 (by omega)));clear LG1 LG2 LG3 HF hj z1 z2 z3;by_cases h0:ot=[]
      ·subst h0;by_cases b1:rn=[];rotate_left
       ·have q1:rn.isEmpty=false:=by simpa using b1
        have q:=fy b1;have e0:=HBK.out.1 (by simp[fJ,b1]);have e1:=HHit.out (by rw[e0];decide);rw[e0]at e1;subst e1;clear HBK HHit HNx;go_wp2_with fail;go_quiet (fail);go_wp2_with fail;go_ret;exact⟨rfl,HX.out.drewN _⟩
       subst b1;by_cases b2:rd=[];rotate_left
       ·have q1:rd.isEmpty=false:=by simpa using b2
        have q:=fy b2;have e0:=HBK.out.1 (by simp[fJ,b2]);have e1:=HHit.out (by rw[e0];decide);rw[e0]at e1;subst e1;clear HBK HHit HNx;go_wp2_with fail;go_quiet (fail);go_wp2_with fail;go_ret;exact⟨rfl,HX.out.drewN _⟩
       subst b2;by_cases b3:vn=[];rotate_left
       ·have q1:vn.isEmpty=false:=by simpa using b3
        have q:=fy b3;have e0:=HBK.out.1 (by simp[fJ,b3]);have e1:=HHit.out (by rw[e0];decide);rw[e0]at e1;subst e1;clear HBK HHit HNx;go_wp2_with fail;go_quiet (fail);go_wp2_with fail;go_ret;exact⟨rfl,HX.out.drewN _⟩
       subst b3;by_cases b4:vd=[];rotate_left
       ·have q1:vd.isEmpty=false:=by simpa using b4
        have q:=fy b4;have e0:=HBK.out.1 (by simp[fJ,b4]);have e1:=HHit.out (by rw[e0];decide);rw[e0]at e1;subst e1;clear HBK HHit HNx;go_wp2_with fail;go_quiet (fail);go_wp2_with fail;go_ret;exact⟨rfl,HX.out.drewN _⟩
       subst b4;have hp0:=HBK.out.2 (by simp[fJ]);have hz1:=qh (HNx.out hp0);clear HBK HHit HNx hp0;go_wp2_with fail;go_quiet (fail);go_wp2_with fail;go_roundw
       case rel=>exact⟨k+1,by omega,by go_num,hz1.out,HL.out.drewN _⟩
       case measure=>simp[intOf];omega
      ·have qe:ot.isEmpty=false:=by simpa using h0
       by_cases b1:rn=[];rotate_left
       ·have q1:rn.isEmpty=false:=by simpa using b1
        have q:=fy b1;have hp0:=HBK.out.2 (by simp[fJ,h0,b1]);have hz1:=qh (HNx.out hp0);clear HBK HHit HNx hp0;go_wp2_with fail;go_quiet (fail);go_wp2_with fail;go_roundw
        case rel=>exact⟨k+1,by omega,by go_num,hz1.out,HL.out.drewN _⟩
        case measure=>simp[intOf];omega
       subst b1;by_cases b2:rd=[];rotate_left
       ·have q1:rd.isEmpty=false:=by simpa using b2
        have q:=fy b2;have hp0:=HBK.out.2 (by simp[fJ,h0,b2]);have hz1:=qh (HNx.out hp0);clear HBK HHit HNx hp0;go_wp2_with fail;go_quiet (fail);go_wp2_with fail;go_roundw
        case rel=>exact⟨k+1,by omega,by go_num,hz1.out,HL.out.drewN _⟩
        case measure=>simp[intOf];omega
       subst b2;have e0:=HBK.out.1 (by simp[fJ,h0]);have e1:=HHit.out (by rw[e0];decide);rw[e0]at e1;subst e1;clear HBK HHit HNx;go_wp2_with fail;go_quiet (fail);go_wp2_with fail;go_ret;exact⟨rfl,HX.out.drewN _⟩
  ·obtain rfl:k=os.length:=by omega
   have hki:¬ ((os.length:Int)<(os.length:Int)):=by omega
   have e0:=P3.out HZ.out;subst e0;clear hk hlt P2 P3 HZ;go_wp2_with fail;go_ret;exact⟨rfl,HX.out⟩
end
section
open Go.RowKit
open Go.Maps (Keyed)
inductive KK
 |lv (p q:Bool)|mk|am|wc|mm|tm|no
 |nm (es:List (Nat × Nat × Bool × Bool))
 |tn (s:Nat) (es:List (Nat × Nat × Bool × Bool))
 |kd (word:Bs) (cl:Int) (bits:List Bool) (src:Option Nat) (code:Bool)
 |ka (word:Bs)
 |sl (ms:List Nat)
structure KC where
 w0:World
 G1:Nat
 G3:Nat
 lvP:Value
 Bt:Nat
abbrev KC.amV(c:KC):Value := .func (.func 131) #[] #[.pointer (some ⟨c.G3,0,none⟩),.pointer (some ⟨c.G1,0,none⟩)]
abbrev jQ:lK:=[(4,true,false),(5,false,false),(6,false,false)]
abbrev Tm:=Nat->Value
def bV(a:Act):Tm:=fun d=>a.tmps.getD d undef
def NM(f:Nat)(ls:Array Bool)(w:World)(es:List (Nat × Nat × Bool × Bool))(b:Nat):Prop :=
 ∃n D,bG w b n D∧n+f<=200∧gM D (es.map (·.2.1))∧∀e ∈ es,ls.getD e.1 false=true->iU w D e.2.1 e.2.2.1 e.2.2.2
def pE(T:Tm):Option Nat->Value
 |none => .map none
 |some s=>T s
def mJ(c:KC)(f:Nat)(ops:Array Oper)(ls:Array Bool)(bm:Option Nat)(T:Tm)(w:World):KK->Value->Prop
 |.lv p q,v=>dw w v p q
 |.mk,v=>v=fL
 |.am,v=>v=c.amV
 |.wc,v=>v=Lh
 |.mm,v=>∃b,v = .map (some b)∧bm=some b
 |.tm,v=>v = .map (some c.Bt)
 |.nm es,v=>∃b,v = .map (some b)∧c.w0.heap.size<=b∧some b≠bm∧b≠c.Bt∧NM f ls w es b
 |.tn s es,v=>v=T s∧aN ops ls s∧∀e ∈ es,ls.getD e.1 false=true
 |.kd word cl bits src code,v=>v=kv word cl bits (pE T src) code∧∀s,src=some s->aN ops ls s
 |.ka word,v=>∃b,v=kv word 2 ew (.map (some b)) false∧c.w0.heap.size<=b∧some b≠bm∧b≠c.Bt∧CM w b [(5,true,false)]
 |.sl ms,v=>rG w v ms
 |.no,_=>True
def uk:Value->Option Nat
 |.map (some b)=>some b
 |_=>none
def gN:Value->Option Nat
 |.map (some b)=>some b
 |.agg a=>(a[15]?).bind uk
 |_=>none
def KK.own:KK->Bool
 |.nm _=>true
 |.ka _=>true
 |_=>false
def qD(c:KC)(tab:List (Nat × Nat × Nat))(f:Nat)(ops:Array Oper)(ls:Array Bool)(T:Tm)(b:Nat)(w:World):Prop :=
 c.w0.heap.size<=b∧b≠c.Bt∧∃n D,bG w b n D∧n+f<=200∧gM D (tab.map (·.2.1)) ∧
  ∀e ∈ tab,ls.getD e.1 false=true->aN ops ls e.2.2∧Maps.has D (.int .i64 (e.2.1:Nat))=true∧∀z,D.atKey (.int .i64 (e.2.1:Nat)) z = .held (T e.2.2)
structure KInv (c:KC) (sk:Nat->KK) (tab:List (Nat × Nat × Nat)) (ops:Array Oper) (f:Nat) (ls:Array Bool) (bm:Option Nat) (a:Act) (w:World):Prop where
 size:ls.size=ops.size
 cnt:ls.toList.count false<=f
 ext:Ext c.w0 w
 tms:a.tmps.size=105
 dfr:a.defers=[]
 t1:bV a 1 = .pointer (some ⟨c.G1,0,none⟩)
 t3:bV a 3 = .pointer (some ⟨c.G3,0,none⟩)
 b1:Blk w c.G1 qw #[c.lvP]
 b3:Blk w c.G3 FT #[fL]
 lp:dw w c.lvP true false
 tr:CM w c.Bt jQ
 fits:∀d,aN ops ls d->mJ c f ops ls bm (bV a) w (sk d) (bV a d)
 dist:∀d d',d≠d'->aN ops ls d->aN ops ls d'->(sk d).own=true->(sk d').own=true->gN (bV a d)≠gN (bV a d')
 main:∀b,bm=some b->qD c tab f ops ls (bV a) b w
 fst:ls.getD 0 false=false->bm=none
 cl:∀(j:Nat) (oj:Oper) (p:Nat),ops[j]? = some oj->ls.getD j false=true->(oj.after.toList.any fun e=>e.on == p && Region.binds .any e)=true->ls.getD p false=true
def cY(c:KC)(sk:Nat->KK)(tab:List (Nat × Nat × Nat))(ops:Array Oper)(f:Nat)(ls:Array Bool)(a:Act)(w:World):Prop:=∃bm,KInv c sk tab ops f ls bm a w
structure Uniq (ops:Array Oper):Prop where
 one:∀(i j:Nat) (oi oj:Oper) (d:Nat),ops[i]? = some oi->ops[j]? = some oj->oi.dst=some d->oj.dst=some d->i=j
 base:∀(i:Nat) (o:Oper) (d:Nat),ops[i]? = some o->o.dst=some d->d≠1∧d≠2∧d≠3∧d≠4∧d≠5∧d≠6∧d<105
theorem ey{ops:Array Oper}{ls:Array Bool}{d i:Nat}(h:aN ops ls d):aN ops (ls.setIfInBounds i true) d:=by
 rcases h with h | ⟨j,o,h1,h2,h3⟩
 ·exact .inl h
 ·exact .inr ⟨j,o,h1,ir h2,h3⟩
theorem Uniq.fresh{ops:Array Oper}(u:Uniq ops){ls:Array Bool}{i:Nat}(hi:i ∈ Region.ready .any ops ls){o:Oper}(ho:ops[i]? = some o){d:Nat}(hd:o.dst=some d):¬ aN ops ls d:=by
 rintro(h | ⟨j,oj,h1,h2,h3⟩)
 ·have:=u.base i o d ho hd;omega
 ·have:=u.one i j o oj d ho h1 hd h3;subst this
  have hr:=dE hi;rw[Mw]at hr h2
  cases e:ls[i]? with
  |none=>rw[e]at hr;cases hr
  |some x=>rw[e]at hr h2;exact absurd (hr.symm.trans h2) (by simp)
theorem ul{a:Act}{o:Oper}{v:Value}{x:Nat}(h:∀d,o.dst=some d->x≠d):bV (a.put o.dst v) x=bV a x:=by
 cases hd:o.dst with
 |none=>rfl
 |some d=>exact B8 (h d hd)
theorem j7{ops:Array Oper}{ls:Array Bool}{d i:Nat}{o:Oper}(ho:ops[i]? = some o)(h:aN ops (ls.setIfInBounds i true) d):o.dst=some d∨aN ops ls d:=by
 rcases h with h | ⟨j,oj,h1,h2,h3⟩
 ·exact .inr (.inl h)
 ·rcases cF h2 with e|e
  ·subst e;rw[ho]at h1
   cases h1;exact .inl h3
  ·exact .inr (.inr ⟨j,oj,h1,e,h3⟩)
section
variable {c:KC} {sk:Nat->KK} {tab:List (Nat × Nat × Nat)} {ops:Array Oper} {f:Nat} {ls:Array Bool} {bm:Option Nat} {a:Act} {w:World} {i:Nat} {o:Oper}
theorem KInv.step(u:Uniq ops)(h:KInv c sk tab ops (f+1) ls bm a w)(hi:i ∈ Region.ready .any ops ls)(ho:ops[i]? = some o)(v:Value)(w':World)(bm':Option Nat)
  (hfit:∀d,aN ops ls d->mJ c f ops (ls.setIfInBounds i true) bm' (bV (a.put o.dst v)) w' (sk d) (bV a d))
  (hnew:∀d,o.dst=some d->mJ c f ops (ls.setIfInBounds i true) bm' (bV (a.put o.dst v)) w' (sk d) v∧((sk d).own=true->∃b,gN v=some b∧w.heap.size<=b))
  (hext:Ext c.w0 w') (hblk:∀g t cs,Blk w g t cs->Blk w' g t cs) (htr:CM w' c.Bt jQ)
  (hmain:∀b,bm'=some b->qD c tab f ops (ls.setIfInBounds i true) (bV (a.put o.dst v)) b w')
  (hnone:(ls.setIfInBounds i true).getD 0 false=false->bm'=none):cY c sk tab ops f (ls.setIfInBounds i true) (a.put o.dst v) w':=by
 have hc:=count_set (dE hi);have hcn:=h.cnt;have hput:∀x,(∀d,o.dst=some d->x≠d)->bV (a.put o.dst v) x=bV a x:=fun x hx=>ul hx
 have hold:∀d,aN ops ls d->bV (a.put o.dst v) d=bV a d:=fun d hf=>hput d fun d' hd' e=>u.fresh hi ho hd' (e ▸ hf)
 have hself:∀d,o.dst=some d->bV (a.put o.dst v) d=v:=fun d hd=>by
  rw[hd];exact Cb (by rw[h.tms];exact(u.base i o d ho hd).2.2.2.2.2.2)
 have hlt:∀d b,aN ops ls d->(sk d).own=true->gN (bV a d)=some b->b<w.heap.size:=fun d b hf ho' hm=>by
  have hF:=h.fits d hf;generalize sk d=k at *;generalize bV a d=vd at *
  cases k with
  |nm es =>
   obtain⟨b',rfl,_,_,_,n,D,hM,_⟩:=hF;have:b'=b:=by simpa[gN] using hm
   subst this
   exact hM.lt
  |ka word =>
   obtain⟨b',rfl,_,_,_,hM⟩:=hF;have:b'=b:=by simpa[gN,uk,aH,ew] using hm
   subst this
   exact hM.lt
  |_=>cases ho'
 refine⟨bm',by rw[Pb];exact h.size,by omega,hext,?_,?_,?_,?_,hblk _ _ _ h.b1,hblk _ _ _ h.b3,h.lp.on hblk,htr,?_,?_,hmain,hnone,?_⟩
 ·unfold Act.put;split
  ·rw[←h.tms];exact Pb ..
  ·exact h.tms
 ·unfold Act.put;split <;> exact h.dfr
 ·rw[hput 1 (fun d hd=>(u.base i o d ho hd).1.symm)];exact h.t1
 ·rw[hput 3 (fun d hd=>(u.base i o d ho hd).2.2.1.symm)];exact h.t3
 ·intro d hf;rcases j7 ho hf with hd|hd
  ·rw[hself d hd];exact(hnew d hd).1
  ·rw[hold d hd];exact hfit d hd
 ·intro d d' hne hf hf' h1 h2;rcases j7 ho hf with hd|hd
  ·rcases j7 ho hf' with hd' | hd'
   ·rw[hd]at hd'
    cases hd';exact absurd rfl hne
   ·obtain⟨b,e,hb⟩:=(hnew d hd).2 h1;rw[hself d hd,hold d' hd',e];intro e2;have:=hlt d' b hd' h2 e2.symm;omega
  ·rcases j7 ho hf' with hd' | hd'
   ·obtain⟨b,e,hb⟩:=(hnew d' hd').2 h2;rw[hself d' hd',hold d hd,e];intro e2;have:=hlt d b hd h1 e2;omega
   ·rw[hold d hd,hold d' hd'];exact h.dist d d' hne hd hd' h1 h2
 ·intro j oj p hj hl hp;rcases cF hl with e|e
  ·subst e;rw[ho]at hj
   cases hj;exact ir (eX hi ho hp)
  ·exact ir (h.cl j oj p hj e hp)
end
end
end Go.Proofs.YtaegjkllenlfpaaGreatDoor
