/- The seat's texts, part Y24. -/
import Derived.Test.YtaegjkllenlfpaaGreatDoorY23
set_option maxRecDepth 100000
set_option maxHeartbeats 8000000
namespace Go.Proofs.YtaegjkllenlfpaaGreatDoor
open Tryz
variable {kf g la lb md c k d G:Nat}{w W W':World}
section
open Go.RowKit
attribute [local go_sem] size_bs toList_bs
theorem gO.on{cb:Array Value}{lt:LotV->LotV->Bool}{V:LotV->Prop}(h:gO kf cb lt V g w)(ho:Only g w W):gO kf cb lt V g W:=fun U hu x y vx vy=>h U (ho.trans hu) x y vx vy
def tz(lt:LotV->LotV->Bool)(V:LotV->Prop)(kf:Nat)(cb:Array Value)(g cap N n:Nat)(w:World):Prop :=
 ∀(X A B Y:List LotV) (W:World) (a m b:Nat),A.length+B.length<n->0<A.length->0<B.length->(∀z ∈ A,V z)->(∀z ∈ B,V z)->aJ lt A->aJ lt B->Only g w W->aE W g cap (X++(A++(B++Y)))->X.length=a->a+A.length=m->m+B.length=b->(X++(A++(B++Y))).length=N ->
   Calls prog 308 #[.slice (some ⟨g,0,none⟩) N cap,.int .i64 a,.int .i64 m,.int .i64 b,.func (.func kf) #[] cb] W (jo lt X (A++B) Y g cap W)
def Ir(k:Nat):Code->Bool
 |.region n _ _=>n == k
 |_=>false
def i7(k:Nat):Code->Option (Code × Code)
 |.seq a b=>cond (Ir k a) (some (a,b)) ((i7 k a).or (i7 k b))
 |.cond _ a b=>(i7 k a).or (i7 k b)
 |.block _ c=>i7 k c
 |.loop c=>i7 k c
 |.scope c=>i7 k c
 |_=>none
noncomputable def qK:Code × Code:=(i7 38 (f308.body.getD .skip)).getD (.skip,.skip)
noncomputable def CE:Code:=qK.1
noncomputable def uB:Code:=qK.2
theorem Fn(lt:LotV->LotV->Bool)(V:LotV->Prop)(X A1 A2 B1 B2 Y AB:List LotV)(kf:Nat)(cb:Array Value)(g cap:Nat)(w wr:World)(a m b N p1 mid e i1 i2 j1 j2:Nat)(s5 s6 s7 s8 s9 s10 s11 s12 s13 s14 s15 s16 s17 s21 s22 s23 s24 s25 s26 s27 s28 s29 s30 s31 s32 s33 s34 s35 s36 s37 s38 s39 s40 s41 s42 s43 s44 s45 s46 s47 s48 s49 s50 s51 s52 s53 s54 s55 s56 s57 s58 s59 s60 s61 s62 s63 s64 s65 s66 s67 s68 s69 s70 s71 s72 s73 s74 s75 s76 s77 s78 s79 s80 s81 s82 s83 s84 s85 s86 s87 s88 s89 s90 s91 s92 s93 s94 s95 s96 s97 s98 s99 s100 s101 s102 s103 s104 s105 s106 s107 s108 s109 s110 s111 s112 s113 s114 s115 s116 s117 s118 s119 s120 s121 s122 s123 s124 s125 s126 s127 s128 s129 s130 s131 s132 s133 s134 s135 s136 s137 s138 s139 s140 s141 s142 s143 s144 s145 s146 s147 s148 s149 s150 s151 s152 s153 s154 s155 s156 s157 s158 s159 s160 s161 s162 s163 s164 s165 s166 s167 s168 s169 s170 s171 s172 s173 s174 s175 s176 s177 s178 s179 s180 s181 s182 s183 s184 s185 s186 s187 s188 s189 s190 s191 s192 s193 s194 s195 s196 s197 s198 s199 s200 s201 s202 s203 s204 s205 s206 s207 s208 s209 s210 s211 s212 s213 s214 s215 s216 s217 s218 s219:Value)
  (hAR:(a+i1=p1∧a+i1+j1=mid)∧m+j1=e∧a+i1+i2=m∧m+(j1+j2)=b∧b<=N∧N<=1000000∧a+(i1+i2+(j1+j2+Y.length))=N)
  (hHA:X.length=a) (hLN:A1.length=i1∧A2.length=i2∧B1.length=j1∧B2.length=j2) (hSR:aJ lt A1∧aJ lt A2∧aJ lt B1∧aJ lt B2) (hVS:(∀z ∈ A1,V z)∧(∀z ∈ A2,V z)∧(∀z ∈ B1,V z)∧(∀z ∈ B2,V z))
  (hFin:∀c d,aJ lt c->aw lt (A1++B1) c->aJ lt d->aw lt (A2++B2) d->aJ lt (c++d)∧aw lt AB (c++d))
  (hRec:tz lt V kf cb g cap N (i1+i2+(j1+j2)) w) (hO:Only g w wr) (hr:aE wr g cap (X++(A1++(A2++(B1++(B2++Y))))))
  (_hp:i1+i2≠0) (_hq:j1+j2≠0) (hpq:i1+j1≠0) (hpq2:i2+j2≠0)
  (K:Act->World->Prop) (hK:∀x W,Code.wp prog uB (bodyPost prog f308 (jo lt X AB Y g cap w)) x W->K x W) :
  Code.wp prog CE (Exit.then K (bodyPost prog f308 (jo lt X AB Y g cap w))) ⟨#[.slice (some ⟨g,0,none⟩) N cap,.int .i64 (a:Int),.int .i64 (m:Int),.int .i64 (b:Int),.func (.func kf) #[] cb,s5,s6,s7,s8,s9,s10,s11,s12,s13,s14,s15,s16,s17,.int .i64 (mid:Int),.int .i64 ((mid:Int)+(m:Int)),.int .i64 (p1:Int),s21,s22,s23,s24,s25,s26,s27,s28,s29,s30,s31,s32,s33,s34,s35,s36,s37,s38,s39,s40,s41,s42,s43,s44,s45,s46,s47,s48,s49,s50,s51,s52,s53,s54,s55,s56,s57,s58,s59,s60,s61,s62,s63,s64,s65,s66,s67,s68,s69,s70,s71,s72,s73,s74,s75,s76,s77,s78,s79,s80,s81,s82,s83,s84,s85,s86,s87,s88,s89,s90,s91,s92,s93,s94,s95,s96,s97,s98,s99,s100,s101,s102,s103,s104,s105,s106,s107,s108,s109,s110,s111,s112,s113,s114,s115,s116,s117,s118,s119,s120,s121,s122,s123,s124,s125,s126,s127,s128,s129,s130,s131,s132,s133,s134,s135,s136,s137,s138,s139,s140,s141,s142,s143,s144,s145,s146,s147,s148,s149,s150,s151,s152,s153,s154,s155,s156,s157,s158,s159,s160,s161,s162,s163,s164,s165,s166,s167,s168,s169,s170,s171,s172,s173,s174,s175,s176,s177,s178,s179,s180,s181,s182,s183,s184,s185,s186,s187,s188,s189,s190,s191,s192,s193,s194,s195,s196,s197,s198,s199,s200,s201,s202,s203,s204,s205,s206,s207,s208,s209,s210,s211,s212,s213,s214,s215,s216,s217,s218,s219],[]⟩ wr:=by
 have AR:=qh hAR;have HA:=qh hHA;have HLN:=qh hLN;have HSR:=qh hSR;have HVS:=qh hVS;have FIN:=qh hFin;have HREC:=qh hRec;have HO:=qh hO;have HR:=qh hr;have hendI:(mid:Int)+(m:Int)-(p1:Int)=(e:Int):=by omega
 have v3:IntKind.i64.wrap ((mid:Int)+(m:Int)-(p1:Int))=(mid:Int)+(m:Int)-(p1:Int):=Nl _ (by omega);have ve:wrap64 (e:Int)=(e:Int):=IntWalk.wrap64_in _ (by have:=AR.out;omega);have G1:Hid ((i2=0∨j1=0)->A2=[]∨B1=[]):=qh (fun h=>h.elim (fun h => .inl (My.1 (by rw[HLN.out.2.1];exact h))) (fun h => .inr (My.1 (by rw[HLN.out.2.2.1];exact h))));have G2:Hid ((i1=0∨j1=0)->A1=[]∨B1=[]):=qh (fun h=>h.elim (fun h => .inl (My.1 (by rw[HLN.out.1];exact h))) (fun h => .inr (My.1 (by rw[HLN.out.2.2.1];exact h))));have HPQ:=qh (MC hpq hpq2);clear hHA hLN hSR hVS hFin hRec hO hr hAR _hp _hq hpq hpq2;obtain⟨R1,hR1⟩:∃R,R=uB:=⟨_,rfl⟩;obtain⟨R2,hR2⟩:∃R,R=CE:=⟨_,rfl⟩;rw[←hR1]at hK;rw[←hR2];unfold uB qK f308 at hR1;unfold CE qK f308 at hR2;dsimp only[i7,Ir,Nat.reduceBEq,cond,Option.or,Option.getD]at hR1 hR2;subst hR1 hR2;go_upto_region 39 with fail;rw[ve];clear ve v3 hendI;go_cut [185] (fun v wx=>(v = .bool true∧i2≠0∧j1≠0∨v = .bool false∧(i2=0∨j1=0))∧wx=wr)
 case first =>
  by_cases hi20:i2=0
  ·have g1:¬ ((p1:Int)<(m:Int)):=by have:=AR.out;omega
   go_wp2_with fail;go_meet
   exact⟨.inr ⟨rfl,.inl hi20⟩,rfl⟩
  ·have g1:(p1:Int)<(m:Int):=by have:=AR.out;omega
   by_cases hj10:j1=0
   ·have g2:¬ ((m:Int)<(e:Int)):=by have:=AR.out;omega
    go_wp2_with fail;go_meet
    exact⟨.inr ⟨rfl,.inr hj10⟩,rfl⟩
   ·have g2:(m:Int)<(e:Int):=by have:=AR.out;omega
    go_wp2_with fail;go_meet
    exact⟨.inl ⟨rfl,hi20,hj10⟩,rfl⟩
 obtain⟨hv,hwx⟩:=hcut;subst hwx;go_upto_if 185 with fail
 go_cut [] (fun wx=>aE wx g cap (X++(A1++(B1++(A2++(B2++Y)))))∧Only g w wx)
 case first =>
  rcases hv with ⟨rfl,hi20,hj10⟩ | ⟨rfl,hz⟩
  ·have HROT:=qh (fun cf W (h:aE W g cap (X++A1++(A2++(B1++(B2++Y)))))=>Fm (X++A1) A2 B1 (B2++Y) cf g cap W h p1 m e N (by rw[Mp,HA.out,HLN.out.1];have:=AR.out;omega) (by rw[HLN.out.2.1];have:=AR.out;omega) (by rw[HLN.out.2.2.1];have:=AR.out;omega) (by rw[HLN.out.2.1];have:=AR.out;omega) (by rw[HLN.out.2.2.1];have:=AR.out;omega) (by simp only[Mp];rw[HA.out,HLN.out.1,HLN.out.2.1,HLN.out.2.2.1,HLN.out.2.2.2];have:=AR.out;omega) AR.out.2.2.2.2.2.1);have HR1:=HR.out;rw[←Mz X]at HR1;have HR1:=qh HR1;go_wp2_with fail;refine(HROT.out _ _ HR1.out).mono ?_;rintro u w1⟨rfl,hr2,ho2⟩;have HR2:=qh (MC hr2 (HO.out.trans ho2));clear hr2 ho2;go_wp2_with fail;go_meet
   exact⟨by have:=HR2.out.1;rw[Mz]at this;exact this,HR2.out.2⟩
  ·have E:=qh (G1.out hz);go_wp2_with fail;go_meet
   exact⟨by have:=HR.out;rcases E.out with E|E <;> rw[E]at this ⊢ <;> exact this,HO.out⟩
 case rest =>
  clear HR HO;have HR:=qh hcut.1;have HO:=qh hcut.2;clear hcut;go_upto_region 41 with fail;go_cut [199] (fun v wx=>(v = .bool true∧i1≠0∧j1≠0∨v = .bool false∧(i1=0∨j1=0))∧wx=wc)
  case first =>
   by_cases hi10:i1=0
   ·have g1:¬ ((a:Int)<(p1:Int)):=by have:=AR.out;omega
    go_wp2_with fail;go_meet
    exact⟨.inr ⟨rfl,.inl hi10⟩,rfl⟩
   ·have g1:(a:Int)<(p1:Int):=by have:=AR.out;omega
    by_cases hj10:j1=0
    ·have g2:¬ ((p1:Int)<(mid:Int)):=by have:=AR.out;omega
     go_wp2_with fail;go_meet
     exact⟨.inr ⟨rfl,.inr hj10⟩,rfl⟩
    ·have g2:(p1:Int)<(mid:Int):=by have:=AR.out;omega
     go_wp2_with fail;go_meet
     exact⟨.inl ⟨rfl,hi10,hj10⟩,rfl⟩
  obtain⟨hv,hwx⟩:=hcut;subst hwx;go_upto_if 199 with fail
  go_cut [] (fun wx=>∃C,aE wx g cap (X++(C++(A2++(B2++Y))))∧aJ lt C∧aw lt (A1++B1) C∧Only g w wx)
  case first =>
   rcases hv with ⟨rfl,hi10,hj10⟩ | ⟨rfl,hz⟩
   ·have HS1:=qh (HREC.out X A1 B1 (A2++(B2++Y)) _ a p1 mid (by rw[HLN.out.1,HLN.out.2.2.1];have h:=AR.out;have h2:=HPQ.out;omega) (by rw[HLN.out.1];omega) (by rw[HLN.out.2.2.1];omega) HVS.out.1 HVS.out.2.2.1 HSR.out.1 HSR.out.2.2.1 HO.out HR.out HA.out (by rw[HLN.out.1];exact AR.out.1.1) (by rw[HLN.out.2.2.1];have:=AR.out;omega) (by simp only[Mp];rw[HA.out,HLN.out.1,HLN.out.2.1,HLN.out.2.2.1,HLN.out.2.2.2];have:=AR.out;omega));go_wp2_with fail;refine HS1.out.mono ?_;rintro u w1⟨rfl,⟨C,k1,k2,k3⟩,ho2⟩;have HR2:=qh (MC k1 (MC k2 (MC k3 (HO.out.trans ho2))));clear k1 k2 k3 ho2;go_wp2_with fail;go_meet
    exact⟨C,HR2.out⟩
   ·have E:=qh (G2.out hz);go_wp2_with fail;go_meet
    rcases E.out with E|E
    ·exact⟨B1,by have:=HR.out;rw[E]at this;exact this,HSR.out.2.2.1,by rw[E];exact aw.refl _,HO.out⟩
    ·exact⟨A1,by have:=HR.out;rw[E]at this;exact this,HSR.out.1,by rw[E,N0];exact aw.refl _,HO.out⟩
  case rest =>
   obtain⟨C,hr,hsc,hac,ho⟩:=hcut;clear HR HO;have HR:=qh hr;have HSC:=qh hsc;have HAC:=qh hac;have HO:=qh ho;have HCL:Hid ((X++C).length=mid):=qh (by rw[Mp,←hac.1.length_eq,Mp,HA.out,HLN.out.1,HLN.out.2.2.1];have:=AR.out;omega);clear hr hsc hac ho;by_cases hi20:i2=0
   ·have g1:¬ ((mid:Int)<(e:Int)):=by have:=AR.out;omega
    have E:Hid (A2=[]):=qh (My.1 (by rw[HLN.out.2.1];exact hi20));go_wp2_with fail;go_end0
    obtain⟨f1,f2⟩:=FIN.out C B2 HSC.out HAC.out HSR.out.2.2.2 (by rw[E.out];exact aw.refl _);exact⟨rfl,⟨_,by have:=HR.out;rw[E.out]at this;simpa using this,f1,f2⟩,HO.out⟩
   ·have g1:(mid:Int)<(e:Int):=by have:=AR.out;omega
    by_cases hj20:j2=0
    ·have g2:¬ ((e:Int)<(b:Int)):=by have:=AR.out;omega
     have E:Hid (B2=[]):=qh (My.1 (by rw[HLN.out.2.2.2];exact hj20));go_wp2_with fail;go_end0
     obtain⟨f1,f2⟩:=FIN.out C A2 HSC.out HAC.out HSR.out.2.1 (by rw[E.out,N0];exact aw.refl _);exact⟨rfl,⟨_,by have:=HR.out;rw[E.out]at this;simpa using this,f1,f2⟩,HO.out⟩
    ·have g2:(e:Int)<(b:Int):=by have:=AR.out;omega
     have HS1:=qh (HREC.out (X++C) A2 B2 Y _ mid e b (by rw[HLN.out.2.1,HLN.out.2.2.2];have:=AR.out;have h2:=HPQ.out;omega) (by rw[HLN.out.2.1];omega) (by rw[HLN.out.2.2.2];omega) HVS.out.2.1 HVS.out.2.2.2 HSR.out.2.1 HSR.out.2.2.2 HO.out (by rw[Mz];exact HR.out) HCL.out (by rw[HLN.out.2.1];have:=AR.out;omega) (by rw[HLN.out.2.2.2];have:=AR.out;omega) (by rw[Mp,HCL.out];simp only[Mp];rw[HLN.out.2.1,HLN.out.2.2.2];have:=AR.out;omega));go_wp2_with fail;refine HS1.out.mono ?_;rintro u w1⟨rfl,⟨D,k1,k2,k3⟩,ho2⟩;have HR2:=qh (MC k1 (MC k2 (MC k3 (HO.out.trans ho2))));clear k1 k2 k3 ho2;go_wp2_with fail;go_end0
     obtain⟨f1,f2⟩:=FIN.out C D HSC.out HAC.out HR2.out.2.1 HR2.out.2.2.1;exact⟨rfl,⟨_,by have:=HR2.out.1;simpa using this,f1,f2⟩,HR2.out.2.2.2⟩
theorem Fo(h:(la+lb) / 2=md):(md<la->Half la lb md (md-lb) md∧lb<=md)∧(¬ md<la->Half la lb md 0 la):=by
 refine⟨fun k=>⟨⟨by omega,fun c h1 h2=>by omega,by omega,by omega,by omega,by omega,by omega⟩,by omega⟩,fun k=>⟨by omega,fun c h1 h2=>by omega,by omega,by omega,by omega,by omega,by omega⟩⟩
theorem LM(lt:LotV->LotV->Bool)(V:LotV->Prop)(hw:WkOn lt V)(X A B Y:List LotV)(va:∀z ∈ A,V z)(vb:∀z ∈ B,V z)(sa:aJ lt A)(sb:aJ lt B)(hA2:2<=A.length)(hB2:2<=B.length)(kf:Nat)(cb:Array Value)(ek:∀args w,(callFunc kf args).run prog w = .ok (.enter kf args) w)(g cap:Nat)(w:World)(hC:gO kf cb lt V g w)
  (hr:aE w g cap (X++(A++(B++Y)))) (a m b N:Nat) (ha:X.length=a) (hm:a+A.length=m) (hb:m+B.length=b) (hN:(X++(A++(B++Y))).length=N) (hn:N<=1000000) (hRec:tz lt V kf cb g cap N (A.length+B.length) w) :
  Calls prog 308 #[.slice (some ⟨g,0,none⟩) N cap,.int .i64 a,.int .i64 m,.int .i64 b,.func (.func kf) #[] cb] w (jo lt X (A++B) Y g cap w):=by
 have HR0:=qh hr;have HW:=qh hw;have HVA:=qh va;have HVB:=qh vb;have HSA:=qh sa;have HSB:=qh sb;have HC:=qh hC;have HA:=qh ha;have HN:=qh hN;have HREC:=qh hRec;have hbN:b<=N:=by simp at hN;omega
 have hNL:Hid (a+(A.length+(B.length+Y.length))=N):=qh (by rw[←hN,←ha];simp);obtain⟨la,hla⟩:∃la,A.length=la:=⟨_,rfl⟩;obtain⟨lb,hlb⟩:∃lb,B.length=lb:=⟨_,rfl⟩;obtain⟨md,hmd⟩:∃md,(la+lb) / 2=md:=⟨_,rfl⟩;have HH:=qh (Fo hmd);have HL:=qh (MC hla hlb);rw[hla]at hm hA2 hNL;rw[hlb]at hb hB2 hNL;rw[hla,hlb]at HREC;have h1:((m:Int)-(a:Int) == 1)=false:=by rw[Mt];omega
 have h2:((b:Int)-(m:Int) == 1)=false:=by rw[Mt];omega
 have hmid:((a:Int)+(b:Int)) / 2=(a:Int)+(md:Int):=by omega
 have v0:IntKind.i64.wrap ((a:Int)+(b:Int))=(a:Int)+(b:Int):=Nl _ (by omega);have v0':IntKind.u64.wrap ((a:Int)+(b:Int))=(a:Int)+(b:Int):=Qa _ (by omega);have v1:IntKind.i64.wrap ((a:Int)+(md:Int)+(m:Int))=(a:Int)+(md:Int)+(m:Int):=Nl _ (by omega);clear hr hw hC ha hN va vb sa sb hRec hla hlb;go_enter func308,ntmps308;go_upto_if 140 with fail
 go_cut [20,21] (fun vs vr wx=>∃s0 r0:Nat,vs = .int .i64 ((a:Int)+(s0:Int))∧vr = .int .i64 ((a:Int)+(r0:Int))∧Half la lb md s0 r0∧wx=w)
 case first =>
  by_cases hgt:md<la
  ·have hg:(a:Int)+(md:Int)<(m:Int):=by omega
   obtain⟨k1,k2⟩:=HH.out.1 hgt;have K:=qh k1;have hs:(a:Int)+(md:Int)+(m:Int)-(b:Int)=(a:Int)+((md-lb:Nat):Int):=by omega
   have v2:IntKind.i64.wrap ((a:Int)+(md:Int)+(m:Int)-(b:Int))=(a:Int)+(md:Int)+(m:Int)-(b:Int):=Nl _ (by omega);clear k1;go_wp2_with fail;go_meet
   exact⟨md-lb,md,rfl,rfl,K.out,rfl⟩
  ·have hg:¬ ((a:Int)+(md:Int)<(m:Int)):=by omega
   have K:=qh (HH.out.2 hgt);go_wp2_with fail;go_meet
   exact⟨0,la,M6 (Value.int .i64) (by omega),M6 (Value.int .i64) (by omega),K.out,rfl⟩
 case rest =>
  obtain⟨s0,r0,rfl,rfl,hh,hwx⟩:=hcut;have hwx':=hwx.symm;clear hwx;subst hwx';have K:=qh hh;have hs0:=hh.s;clear hh;clear HH h1 h2 hmid v0 v0';have v2:IntKind.i64.wrap ((a:Int)+(md:Int)+(m:Int)-1)=(a:Int)+(md:Int)+(m:Int)-1:=Nl _ (by omega);go_wp2_with fail;go_loopw [20,21,23] (fun i j _ wr=>∃lo hi:Nat,i = .int .i64 ((a:Int)+(lo:Int))∧j = .int .i64 ((a:Int)+(hi:Int))∧CutAt2 lt A B md s0 r0 lo hi∧aE wr g cap (X++(A++(B++Y)))∧Only g w wr) (fun i j _ _=>(intOf j).toNat-(intOf i).toNat)
  case atStart=>exact⟨s0,r0,rfl,rfl,CutAt2.start A B hs0,HR0.out,Mh _ _⟩
  case round =>
   clear HR0;obtain⟨lo,hi,rfl,rfl,hlo,hr,ho⟩:=hrel;have HR:=qh hr;have HO:=qh ho;have HLO:=qh hlo;have hle:=hlo.le;have hbd:=hlo.bd;have hla1:=K.out.a;have hn1:=K.out.n1;have hn2:=K.out.n2;clear hr ho hlo;by_cases hlt:lo<hi
   ·have hlt1:(a:Int)+(lo:Int)<(a:Int)+(hi:Int):=by omega
    obtain⟨c,hc⟩:∃c,(lo+hi) / 2=c:=⟨_,rfl⟩;obtain⟨p,hp⟩:∃p,a+c=p:=⟨_,rfl⟩;obtain⟨d,hd⟩:∃d,md-1-c=d:=⟨_,rfl⟩;obtain⟨q,hq⟩:∃q,m+d=q:=⟨_,rfl⟩;have hc1:lo<=c:=by omega
    have hc2:c<hi:=by omega
    obtain⟨hb1,hb2⟩:=K.out.b c (by omega) (by omega);rw[hd]at hb1;have hcA:c<A.length:=by rw[HL.out.1];omega
    have hdB:d<B.length:=by rw[HL.out.2];exact hb1
    have hdB':md-1-c<B.length:=by rw[hd];exact hdB
    have hhalf:((a:Int)+(lo:Int)+((a:Int)+(hi:Int))) / 2=(p:Int):=by omega
    have v3:IntKind.i64.wrap ((a:Int)+(lo:Int)+((a:Int)+(hi:Int)))=(a:Int)+(lo:Int)+((a:Int)+(hi:Int)):=Nl _ (by omega);have v4:IntKind.u64.wrap ((a:Int)+(lo:Int)+((a:Int)+(hi:Int)))=(a:Int)+(lo:Int)+((a:Int)+(hi:Int)):=Qa _ (by omega);have v6:((a:Int)+(md:Int)+(m:Int)-1-(p:Int)).toNat=q:=by omega
    have v7:(0:Int)<=(a:Int)+(md:Int)+(m:Int)-1-(p:Int):=by omega
    have v9:(p:Int)<=(a:Int)+(md:Int)+(m:Int)-1:=by omega
    have v8:(a:Int)+(md:Int)+(m:Int)-1-(p:Int)<(N:Int):=by omega
    have v5:IntKind.i64.wrap ((a:Int)+(md:Int)+(m:Int)-1-(p:Int))=(a:Int)+(md:Int)+(m:Int)-1-(p:Int):=Nl _ (by omega);have hpN:(p:Int)<(N:Int):=by omega
    have hp0:(0:Int)<=(p:Int):=by omega
    have hqN:(q:Int)<(N:Int):=by omega
    have hq0:(0:Int)<=(q:Int):=by omega
    obtain⟨hpl,hpe⟩:=mf (X:=X) (A:=A) (R:=B++Y) (a:=a) hcA HA.out;obtain⟨hql,hqf⟩:=mf (X:=X++A) (A:=B) (R:=Y) (a:=m) hdB (by rw[Mp,HA.out,HL.out.1];omega);have hre:X++A++(B++Y)=X++(A++(B++Y)):=by simp
    simp only[hp]at hpl hpe;simp only[hre,hq]at hql hqf
    have HTA:Hid (∀W,Ext wr W->TwoAt W g q p B[d] A[c]):=qh (fun W hx=>by
     have:=oz (HR.out.ext hx) hql hpl;rw[hpe,hqf]at this
     exact this)
    have HV1:Hid (V B[d]):=qh (HVB.out _ (Ml hdB));have HV2:Hid (V A[c]):=qh (HVA.out _ (Ml hcA));have HCC:=qh (fun W ho=>HC.out W ho B[d] A[c] HV1.out HV2.out);have HUP:Hid (lt B[d] A[c]=false->CutAt2 lt A B md s0 r0 (c+1) hi):=qh (fun e=>HLO.out.up HW.out HVA.out HVB.out HSA.out HSB.out hc1 hc2 hcA hdB' hb2 (by simp only[hd];exact e));have HDN:Hid (lt B[d] A[c]=true->CutAt2 lt A B md s0 r0 lo c):=qh (fun e=>HLO.out.down HW.out HVA.out HVB.out HSA.out HSB.out hc1 hc2 hcA hdB' (by simp only[hd];exact e));have HPM:Hid ((p:Int)=(a:Int)+(c:Int)∧(p:Int)+1=(a:Int)+((c+1:Nat):Int)):=qh ⟨by omega,by omega⟩;obtain⟨l,hl⟩:∃l,lt B[d] A[c]=l:=⟨_,rfl⟩;rw[hl]at HCC HUP HDN;clear hpe hqf hpl hql hre hl hle hp hq hd HV1 HV2 hdB';generalize A[c]'hcA=uc at *;generalize B[d]'hdB=ud at *;obtain⟨c0,c1,c2,c3,c4,c5,c6,d0,d1,d2,d3,d4,d5,d6⟩:=HTA.out wr (iD _);obtain⟨x0,x1,x2,x3,x4,x5,x6⟩:=ud;obtain⟨y0,y1,y2,y3,y4,y5,y6⟩:=uc;simp only at c0 c1 c2 c3 c4 c5 c6 d0 d1 d2 d3 d4 d5 d6;have HOD:Hid (Only g w wr.drew):=qh HO.out.drew;have HX1:Hid (Ext wr wr.drew):=qh (iD _).drew;go_wp2_with fail
    go_region_held3 (fun w'=>w'.cell? ⟨g,q*7,none⟩=some (.string (bs x0))∧w'.cell? ⟨g,q*7+1,none⟩=some (.string (bs x1))∧w'.cell? ⟨g,q*7+2,none⟩=some (.int .i64 x2)∧w'.cell? ⟨g,q*7+3,none⟩=some (.int .i64 x3)∧w'.cell? ⟨g,q*7+4,none⟩=some (.string (bs x4))∧w'.cell? ⟨g,q*7+5,none⟩=some (.string (bs x5))∧w'.cell? ⟨g,q*7+6,none⟩=some (.string (bs x6))∧w'.cell? ⟨g,p*7,none⟩=some (.string (bs y0))∧w'.cell? ⟨g,p*7+1,none⟩=some (.string (bs y1))∧w'.cell? ⟨g,p*7+2,none⟩=some (.int .i64 y2)∧w'.cell? ⟨g,p*7+3,none⟩=some (.int .i64 y3)∧w'.cell? ⟨g,p*7+4,none⟩=some (.string (bs y4))∧w'.cell? ⟨g,p*7+5,none⟩=some (.string (bs y5))∧w'.cell? ⟨g,p*7+6,none⟩=some (.string (bs y6)))
     (go_keep)
     ((((with_reducible refine(HCC.out _ HOD.out).mono ?_);rintro e w1⟨z,rfl,hz,hx1⟩);(replace HX1:=HX1.qt hx1);clear hx1;(obtain⟨e0,e1,e2,e3,e4,e5,e6,f0,f1,f2,f3,f4,f5,f6⟩:=HTA.out _ HX1.out);simp only at e0 e1 e2 e3 e4 e5 e6 f0 f1 f2 f3 f4 f5 f6))
    all_goals
     cases l
     ·go_wp2_with fail;exact⟨⟨c+1,hi,M6 (Value.int .i64) HPM.out.2,rfl,HUP.out rfl,HR.out.ext HX1.out,HO.out.ext HX1.out⟩,by simp[intOf];omega⟩
     ·go_wp2_with fail;exact⟨⟨lo,c,rfl,M6 (Value.int .i64) HPM.out.1,HDN.out rfl,HR.out.ext HX1.out,HO.out.ext HX1.out⟩,by simp[intOf];omega⟩
   ·have hs:hi=lo:=by omega
    subst hs;have hnlt:¬ ((a:Int)+(hi:Int)<(a:Int)+(hi:Int)):=by omega
    have him:hi<=md:=by omega
    have hia:hi<=la:=by omega
    have hjb:md-hi<=lb:=by have:=K.out.n2;omega
    obtain⟨i2,hi2⟩:∃i2,hi+i2=la:=⟨la-hi,by omega⟩;obtain⟨j1,hj1⟩:∃j1,hi+j1=md:=⟨md-hi,by omega⟩;obtain⟨j2,hj2⟩:∃j2,j1+j2=lb:=⟨lb-j1,by omega⟩;have hmj:md-hi=j1:=by omega
    obtain⟨p1,hp1⟩:∃p,a+hi=p:=⟨_,rfl⟩;obtain⟨mid,hmd1⟩:∃p,a+md=p:=⟨_,rfl⟩;obtain⟨e,he⟩:∃p,m+j1=p:=⟨_,rfl⟩;have hp1I:(a:Int)+(hi:Int)=(p1:Int):=by omega
    have hmdI:(a:Int)+(md:Int)=(mid:Int):=by omega
    rw[hp1I,hmdI];have FIN:∀c d,aJ lt c->aw lt (A.take hi++B.take j1) c->aJ lt d->aw lt (A.drop hi++B.drop j1) d->aJ lt (c++d)∧aw lt (A++B) (c++d):=fun c d k1 k2 k3 k4=>HLO.out.fin (by rw[HL.out.1,HL.out.2];exact K.out) HW.out HVA.out HVB.out HSA.out HSB.out k1 (by rw[hmj];exact k2) k3 (by rw[hmj];exact k4)
    have hrow:X++(A++(B++Y))=X++(A.take hi++(A.drop hi++(B.take j1++(B.drop j1++Y)))):=by
     rw[←Mz (A.take hi),MP,←Mz (B.take j1),MP]
    rw[hrow]at HR;have hrec:tz lt V kf cb g cap N (hi+i2+(j1+j2)) w:=by rw[hi2,hj2];exact HREC.out
    have T:=qh (Fn lt V X (A.take hi) (A.drop hi) (B.take j1) (B.drop j1) Y (A++B) kf cb g cap w wr a m b N p1 mid e hi i2 j1 j2 (hAR:=⟨⟨hp1,by omega⟩,he,by omega,by omega,hbN,hn,by have:=hNL.out;omega⟩) (hHA:=HA.out)
     (hLN:=⟨by rw[Mu,HL.out.1];omega,by rw[MU,HL.out.1];omega,by rw[Mu,HL.out.2];omega,by rw[MU,HL.out.2];omega⟩)
     (hSR:=⟨HSA.out.sublist (QD _ _),HSA.out.sublist (Sk _ _),HSB.out.sublist (QD _ _),HSB.out.sublist (Sk _ _)⟩)
     (hVS:=⟨fun z h=>HVA.out z (Ng h),fun z h=>HVA.out z (NA h),fun z h=>HVB.out z (Ng h),fun z h=>HVB.out z (NA h)⟩)
     (hFin:=FIN) (hRec:=hrec) (hO:=HO.out) (hr:=HR.out) (_hp:=by omega) (_hq:=by omega) (hpq:=by omega) (hpq2:=by omega))
    clear FIN hrow hrec HLO HSA HSB HVA HVB hlt hle hbd hla1 hn1 hn2 hs0 K hmj HR HO HREC;go_upto_region 38 with fail;refine T.out _ _ _ _ _ _ _ _ _ _ _ _ _ _ _ _ _ _ _ _ _ _ _ _ _ _ _ _ _ _ _ _ _ _ _ _ _ _ _ _ _ _ _ _ _ _ _ _ _ _ _ _ _ _ _ _ _ _ _ _ _ _ _ _ _ _ _ _ _ _ _ _ _ _ _ _ _ _ _ _ _ _ _ _ _ _ _ _ _ _ _ _ _ _ _ _ _ _ _ _ _ _ _ _ _ _ _ _ _ _ _ _ _ _ _ _ _ _ _ _ _ _ _ _ _ _ _ _ _ _ _ _ _ _ _ _ _ _ _ _ _ _ _ _ _ _ _ _ _ _ _ _ _ _ _ _ _ _ _ _ _ _ _ _ _ _ _ _ _ _ _ _ _ _ _ _ _ _ _ _ _ _ _ _ _ _ _ _ _ _ _ _ _ _ _ _ _ _ _ _ _ _ _ _ _ _ _ _ _ _ _ _ _ ?_;assumption
theorem zU(lt:LotV->LotV->Bool)(V:LotV->Prop)(hw:WkOn lt V)(kf:Nat)(cb:Array Value)(ek:∀args w,(callFunc kf args).run prog w = .ok (.enter kf args) w)(g cap N:Nat)(hn:N<=1000000):∀(n:Nat) (w:World),gO kf cb lt V g w->tz lt V kf cb g cap N n w
 |0,_,_=>fun X A B Y W a m b h=>absurd h (by omega)
 |n+1,w,hC=>by
  intro X A B Y W a m b hl h1 h2 va vb sa sb ho hr ha hm hb hN;by_cases c1:A.length=1
  ·obtain⟨x,rfl⟩:=List.length_eq_one_iff.1 c1;exact LJ lt V hw x (va x (by simp)) X B Y vb sb kf cb ek g cap W (hC.on ho) hr a m b N ha (by simpa using hm) hb hN hn
  ·by_cases c2:B.length=1
   ·obtain⟨y,rfl⟩:=List.length_eq_one_iff.1 c2;exact LK lt V hw y (vb y (by simp)) X A Y va sa (by omega) kf cb ek g cap W (hC.on ho) hr a m b N ha hm (by simpa using hb) hN hn
   ·refine LM lt V hw X A B Y va vb sa sb (by omega) (by omega) kf cb ek g cap W (hC.on ho) hr a m b N ha hm hb hN hn ?_;intro X' A' B' Y' W' a' m' b' hl';exact zU lt V hw kf cb ek g cap N hn n W (hC.on ho) X' A' B' Y' W' a' m' b' (by omega)
section
variable {α:Type} {lt:α->α->Bool} {V:α->Prop}
def mg(lt:α->α->Bool)(c:Nat)(l:List α):Prop:=∀j,aJ lt ((l.drop (c*j)).take c)
theorem oA{m:List α}(h:aJ lt m):mg lt c m:=fun _=>h.sublist ((QD _ _).trans (Sk _ _))
theorem wX{p q:List α}(hl:p.length=c*k)(hp:mg lt c p)(hq:mg lt c q):mg lt c (p++q):=by
 intro j;rcases Nw j k with h|h
 ·have h1:c*j+c<=c*k:=by
   have:=Oz c (show j+1<=k by omega);rwa[Nat.mul_succ]at this
  rw[QC (by omega),QA (by rw[MU];omega)];exact hp j
 ·have h1:c*k<=c*j:=Oz c h;rw[List.drop_append,Nt (by omega),ML,hl,←Nat.mul_sub];exact hq (j-k)
theorem CG{q:List α}(h:mg lt c q)(i:Nat):mg lt c (q.drop (c*i)):=by
 intro j;rw[QH,←NU];exact h (i+j)
theorem uC{q:List α}(h:mg lt c q):aJ lt (q.take c):=by simpa using h 0
theorem CH{q:List α}(h:mg lt c q):aJ lt ((q.drop c).take c):=by simpa using h 1
structure ChAt (lt:α->α->Bool) (L:List α) (c d k:Nat) (P Q:List α):Prop where
 len:P.length=c*k
 all:P.length+Q.length=L.length
 p:mg lt c P
 q:mg lt d Q
 al:aw lt L (P++Q)
theorem ChAt.vq{L P Q:List α}(h:ChAt lt L c d k P Q)(hv:∀x ∈ L,V x):∀x ∈ P++Q,V x:=fun x hx=>hv x (h.al.1.mem_iff.2 hx)
theorem ChAt.next{L P A B M:List α}(hw:WkOn lt V)(hv:∀x ∈ L,V x)(h:ChAt lt L c d k P (A++B))(hA:A.length=c)(hs:aJ lt M)(ha:aw lt A M)(hB:mg lt d B):ChAt lt L c d (k+1) (P++M) B:=by
 have hm:M.length=c:=by rw[←ha.1.length_eq];exact hA
 have hv2:=h.vq hv;refine⟨by rw[Mp,h.len,hm,Nat.mul_succ],by have:=h.all;rw[Mp]at this ⊢;omega,wX h.len h.p (oA hs),hB,?_⟩;refine h.al.trans ?_;rw[Mz];refine aw.app hw hv2 (aw.refl P) (aw.app hw (fun x hx=>hv2 x (Nr _ hx)) ha (aw.refl B))
theorem ChAt.last{L P A M:List α}(hw:WkOn lt V)(hv:∀x ∈ L,V x)(h:ChAt lt L c d k P A)(hs:aJ lt M)(ha:aw lt A M):mg lt c (P++M)∧aw lt L (P++M)∧(P++M).length=L.length :=
 ⟨wX h.len h.p (oA hs),h.al.trans (aw.app hw (h.vq hv) (aw.refl P) ha),by have:=h.all;rw[Mp,←ha.1.length_eq];exact this⟩
end
def zV(lt:LotV->LotV->Bool)(L:List LotV)(g cap:Nat)(w:World)(e:Ending)(w':World):Prop:=e = .returned (.tuple #[])∧aE w' g cap (fm lt L)∧Only g w w'
theorem Fp(lt:LotV->LotV->Bool)(V:LotV->Prop)(hw:WkOn lt V)(L:List LotV)(hv:∀x ∈ L,V x)(kf:Nat)(cb:Array Value)(ek:∀args w,(callFunc kf args).run prog w = .ok (.enter kf args) w)(g cap:Nat)(w:World)(hC:gO kf cb lt V g w)
  (hr:aE w g cap L) (N:Nat) (hN:L.length=N) (hn:N<=100000) :
  Calls prog 230 #[.slice (some ⟨g,0,none⟩) N cap,.int .i64 N,.func (.func kf) #[] cb] w (zV lt L g cap w):=by
 have HR0:=qh hr;have HW:=qh hw;have HV:=qh hv;have HC:=qh hC;have HN:=qh hN;have HS:=qh (fun W (ho:Only g w W)=>zU lt V hw kf cb ek g cap N (by omega) (N+1) W (hC.on ho));have HI:=qh (fun X A Y hva W (ho:Only g w W) hr a b ha hb hN=>CB lt V hw X A Y hva kf cb ek g cap W (hC.on ho) hr a b N ha hb hN (by omega));clear hr hw hv hC hN;go_enter func230,ntmps230;go_wp2_with fail;go_loopw [7,8] (fun i j wr=>∃(k:Nat) (P Q:List LotV),i = .int .i64 ((20:Int)*(k:Int))∧j = .int .i64 ((20:Int)*(k:Int)+20)∧20*k<=N∧ChAt lt L 20 0 k P Q∧aE wr g cap (P++Q)∧Only g w wr) (fun _ j _=>N+21-(intOf j).toNat)
 case atStart=>exact⟨0,[],L,by simp,by simp,by omega,⟨by simp,by simp,oA Ro,fun _=>by simp,aw.refl _⟩,HR0.out,Mh _ _⟩
 case round =>
  clear HR0;obtain⟨k,P,Q,rfl,rfl,hk,hc,hr,ho⟩:=hrel;have HCH:=qh hc;have HR:=qh hr;have HO:=qh ho;have hpl:=hc.len;have hal:=hc.all;rw[HN.out]at hal;clear hc hr ho;by_cases hlt:20*k+20<=N
  ·have hg:(20:Int)*(k:Int)+20<=(N:Int):=by omega
   have ha1:(20:Int)*(k:Int)=((20*k:Nat):Int):=by omega
   have ha2:(20:Int)*(k:Int)+20=((20*k+20:Nat):Int):=by omega
   have HQ:Hid (Q.take 20++Q.drop 20=Q∧(Q.take 20).length=20):=qh ⟨MP _ _,by rw[Mu];omega⟩;have HI1:=qh (HI.out P (Q.take 20) (Q.drop 20) (fun x hx=>HCH.out.vq HV.out x (Nr _ (Ng hx))) wr HO.out (by rw[HQ.out.1];exact HR.out) (20*k) (20*k+20) hpl (by rw[HQ.out.2];omega) (by rw[HQ.out.1,Mp];omega));rw[←ha2,←ha1]at HI1;clear ha1 ha2;go_wp2_with fail;refine HI1.out.mono ?_;rintro u w1⟨rfl,⟨M,k1,k2,k3⟩,ho2⟩;have HK:Hid (ChAt lt L 20 0 (k+1) (P++M) (Q.drop 20)∧aE w1 g cap (P++M++Q.drop 20)∧Only g w w1):=qh ⟨(show ChAt lt L 20 0 k P (Q.take 20++Q.drop 20) by rw[HQ.out.1];exact HCH.out).next HW.out HV.out HQ.out.2 k2 k3 (fun _=>by simp),by rw[Mz];exact k1,HO.out.trans ho2⟩;clear k1 k2 k3 ho2;go_wp2_with fail;exact⟨⟨k+1,P++M,Q.drop 20,by go_num,by go_num,by omega,HK.out⟩,by simp[intOf];omega⟩
  ·have hg:¬ ((20:Int)*(k:Int)+20<=(N:Int)):=by omega
   have ha1:(20:Int)*(k:Int)=((20*k:Nat):Int):=by omega
   have HI1:=qh (HI.out P Q [] (fun x hx=>HCH.out.vq HV.out x (Nr _ hx)) wr HO.out (by rw[N0];exact HR.out) (20*k) N hpl (by omega) (by rw[N0,Mp];omega));rw[←ha1]at HI1;clear ha1;go_wp2_with fail;refine HI1.out.mono ?_;rintro u w1⟨rfl,⟨M,k1,k2,k3⟩,ho2⟩;obtain⟨f1,f2,f3⟩:=HCH.out.last HW.out HV.out k2 k3;rw[N0]at k1;have HK:=qh (MC f1 (MC f2 (MC f3 (MC k1 (HO.out.trans ho2)))));clear f1 f2 f3 k1 k2 k3 ho2 HCH HR HO HI HI1 hpl hal hk hlt hg;generalize P++M=R0 at *;go_wp2_with fail;go_loopw [6,7,8,9] (fun z _ _ _ wr=>∃(s:Nat) (R:List LotV),z = .int .i64 s∧0<s∧mg lt s R∧aw lt L R∧R.length=L.length∧aE wr g cap R∧Only g w wr) (fun z _ _ _ _=>N-(intOf z).toNat)
   case atStart=>exact⟨20,R0,rfl,by omega,HK.out⟩
   case round =>
    clear HK;obtain⟨s,R,rfl,hs0,hch,hal,hlen,hr,ho⟩:=hrel;have HCH:=qh hch;have HAL:=qh hal;have HLN:=qh (hlen.trans HN.out);have HR:=qh hr;have HO:=qh ho;clear hch hal hlen hr ho;by_cases hsn:s<N
    ·have hg:(s:Int)<(N:Int):=by omega
     have v0:IntKind.i64.wrap ((2:Int)*(s:Int))=(2:Int)*(s:Int):=Nl _ (by omega);have v0':IntKind.i64.wrap ((s:Int)*2)=(s:Int)*2:=Nl _ (by omega);have H0:Hid (ChAt lt L (2*s) s 0 [] R):=qh ⟨by simp,by rw[HLN.out,HN.out];simp,oA Ro,HCH.out,HAL.out⟩;clear HCH HAL;go_wp2_with fail;go_loopw [7,8] (fun i j wr=>∃(k:Nat) (P Q:List LotV),i = .int .i64 (P.length:Int)∧j = .int .i64 ((P.length:Int)+2*(s:Int))∧ChAt lt L (2*s) s k P Q∧aE wr g cap (P++Q)∧Only g w wr) (fun _ j _=>N+2*s+1-(intOf j).toNat)
     case atStart=>exact⟨0,[],R,by simp,by simp,H0.out,HR.out,HO.out⟩
     case round =>
      clear H0 HR HO HLN;obtain⟨k,P,Q,rfl,rfl,hc,hr,ho⟩:=hrel;have HCH:=qh hc;have HR:=qh hr;have HO:=qh ho;have hal:=hc.all;rw[HN.out]at hal;have HVQ:=qh (hc.vq HV.out);obtain⟨p,hp⟩:∃p,P.length=p:=⟨_,rfl⟩;have HP:=qh hp;rw[hp]at hal ⊢;clear hc hr ho hp;have hS1:=uC HCH.out.q;have hS2:=CH HCH.out.q;by_cases hlt:p+2*s<=N
      ·have hg2:(p:Int)+2*(s:Int)<=(N:Int):=by omega
       have ha1:(p:Int)+(s:Int)=((p+s:Nat):Int):=by omega
       have ha2:(p:Int)+2*(s:Int)=((p+2*s:Nat):Int):=by omega
       have hQ1:(Q.take s).length=s:=by rw[Mu];omega
       have hQ2:((Q.drop s).take s).length=s:=by rw[Mu,MU];omega
       have hQ3:Q.take s++((Q.drop s).take s++Q.drop (2*s))=Q:=by
        rw[show 2*s=s+s by omega,←QH,MP,MP]
       have HS1:=qh (HS.out wr HO.out P (Q.take s) ((Q.drop s).take s) (Q.drop (2*s)) wr p (p+s) (p+2*s) (by omega) (by omega) (by omega) (fun x hx=>HVQ.out x (Nr _ (Ng hx))) (fun x hx=>HVQ.out x (Nr _ (NA (Ng hx)))) hS1 hS2 (Mh _ _) (by rw[hQ3];exact HR.out) HP.out (by omega) (by omega) (by rw[hQ3,Mp,HP.out];omega));rw[←ha2,←ha1]at HS1;have HQ:=qh (MC hQ1 (MC hQ2 hQ3));clear ha1 ha2 hQ1 hQ2 hQ3 hS1 hS2;go_wp2_with fail;refine HS1.out.mono ?_;rintro u w2⟨rfl,⟨M,k1,k2,k3⟩,ho2⟩;have hM:(P++M).length=p+2*s:=by rw[Mp,HP.out,←k3.1.length_eq,Mp,HQ.out.1,HQ.out.2.1];omega
       have HK:Hid (ChAt lt L (2*s) s (k+1) (P++M) (Q.drop (2*s))∧aE w2 g cap (P++M++Q.drop (2*s))∧Only g w w2):=qh ⟨(show ChAt lt L (2*s) s k P ((Q.take s++(Q.drop s).take s)++Q.drop (2*s)) by rw[Mz,HQ.out.2.2];exact HCH.out).next HW.out HV.out (by rw[Mp,HQ.out.1,HQ.out.2.1];omega) k2 k3 (by rw[MF];exact CG HCH.out.q 2),by rw[Mz];exact k1,HO.out.trans ho2⟩;have HM:Hid ((p:Int)+2*(s:Int)=((P++M).length:Int)):=qh (by rw[hM];omega);clear k1 k2 k3 ho2 hM;go_wp2_with fail;exact⟨⟨k+1,P++M,Q.drop (2*s),M6 (Value.int .i64) HM.out,by rw[←HM.out],HK.out⟩,by simp[intOf];omega⟩
      ·have hg2:¬ ((p:Int)+2*(s:Int)<=(N:Int)):=by omega
       by_cases hm:p+s<N
       ·have hg3:(p:Int)+(s:Int)<(N:Int):=by omega
        have ha1:(p:Int)+(s:Int)=((p+s:Nat):Int):=by omega
        have hQ1:(Q.take s).length=s:=by rw[Mu];omega
        have hQ2:(Q.drop s).length=N-(p+s):=by rw[MU];omega
        rw[Mv (by omega)]at hS2;have HS1:=qh (HS.out wr HO.out P (Q.take s) (Q.drop s) [] wr p (p+s) N (by omega) (by omega) (by omega) (fun x hx=>HVQ.out x (Nr _ (Ng hx))) (fun x hx=>HVQ.out x (Nr _ (NA hx))) hS1 hS2 (Mh _ _) (by rw[N0,MP];exact HR.out) HP.out (by omega) (by omega) (by rw[N0,MP,Mp,HP.out];omega));rw[←ha1]at HS1;clear ha1 hQ1 hQ2 hS1 hS2;go_wp2_with fail;refine HS1.out.mono ?_;rintro u w2⟨rfl,⟨M,k1,k2,k3⟩,ho2⟩;rw[MP]at k3;rw[N0]at k1;obtain⟨f1,f2,f3⟩:=HCH.out.last HW.out HV.out k2 k3;have HK:=qh (MC f1 (MC f2 (MC f3 (MC k1 (HO.out.trans ho2)))));clear f1 f2 f3 k1 k2 k3 ho2;go_wp2_with fail;exact⟨⟨2*s,P++M,by go_num,by omega,HK.out⟩,by simp[intOf];omega⟩
       ·have hg3:¬ ((p:Int)+(s:Int)<(N:Int)):=by omega
        rw[Mv (by omega)]at hS1;obtain⟨f1,f2,f3⟩:=HCH.out.last HW.out HV.out hS1 (aw.refl _);have HK:=qh (MC f1 (MC f2 (MC f3 (MC HR.out HO.out))));clear f1 f2 f3 hS1 hS2;go_wp2_with fail;exact⟨⟨2*s,P++Q,by go_num,by omega,HK.out⟩,by simp[intOf];omega⟩
    ·have hg:¬ ((s:Int)<(N:Int)):=by omega
     have HF:Hid (R=fm lt L):=qh (Ii HW.out HV.out (by have:=uC HCH.out;rwa[Mv (by rw[HLN.out];omega)]at this) HAL.out);go_wp2_with fail;go_end0
     exact⟨rfl,by rw[←HF.out];exact HR.out,HO.out⟩
theorem ym(lt:LotV->LotV->Bool)(V:LotV->Prop)(hw:WkOn lt V)(L:List LotV)(hv:∀x ∈ L,V x)(kf:Nat)(cb:Array Value)(ek:∀args w,(callFunc kf args).run prog w = .ok (.enter kf args) w)(g cap:Nat)(w:World)(hC:gO kf cb lt V g w)
  (hr:aE w g cap L) (hn:L.length<=100000) :
  Calls prog 152 #[.slice (some ⟨g,0,none⟩) L.length cap,.func (.func kf) #[] cb] w (zV lt L g cap w):=by
 have HS:=qh (Fp lt V hw L hv kf cb ek g cap w hC hr L.length rfl hn);clear hw hv hC hr;go_enter func152,ntmps152;go_wp2_with fail;refine HS.out.mono ?_;rintro e w1⟨rfl,h1,h2⟩;have HK:=qh (MC h1 h2);clear h1 h2;go_wp2_with fail;go_end0
 exact⟨rfl,HK.out⟩
end
section
open Go.RowKit Go.Shelf
attribute [local go_sem] size_bs toList_bs
theorem It(x:Int)(w:World):Calls prog 306 #[.int .i64 x] w fun e w'=>e = .returned (.bool false)∧w'=w:=by
 go_enter func306,ntmps306;go_wp2_with fail;go_ret;exact⟨by simp,rfl⟩
theorem Iu(x y:Int)(w:World):Calls prog 225 #[.int .i64 x,.int .i64 y] w fun e w'=>e = .returned (.int .i64 (cmpI x y))∧w'=w:=by
 have HN:=qh It;rcases Sh x y with h|h|h
 ·have e:cmpI x y = -1:=by unfold cmpI;rw[Mq h]
  rw[e];go_enter func225,ntmps225;go_wp2_with fail;refine(HN.out _ _).mono ?_;rintro e w1⟨rfl,rfl⟩;go_wp2_with fail;refine(HN.out _ _).mono ?_;rintro e w1⟨rfl,rfl⟩;go_wp2_with fail;go_ret;exact⟨rfl,rfl⟩
 ·subst h;have e:cmpI x x=0:=by unfold cmpI;rw[Mj (by omega),Mq rfl]
  rw[e];have h1:¬ x<x:=by omega
  go_enter func225,ntmps225;go_wp2_with fail;refine(HN.out _ _).mono ?_;rintro e w1⟨rfl,rfl⟩;go_wp2_with fail;refine(HN.out _ _).mono ?_;rintro e w1⟨rfl,rfl⟩;go_wp2_with fail;go_ret;exact⟨rfl,rfl⟩
 ·have e:cmpI x y=1:=by unfold cmpI;rw[Mj (by omega),Mj (by omega)]
  rw[e];have h1:¬ x<y:=by omega
  go_enter func225,ntmps225;go_wp2_with fail;refine(HN.out _ _).mono ?_;rintro e w1⟨rfl,rfl⟩;go_wp2_with fail;refine(HN.out _ _).mono ?_;rintro e w1⟨rfl,rfl⟩;go_wp2_with fail;go_ret;exact⟨rfl,rfl⟩
structure TwoL (W:World) (g:Nat) (a b:LotV):Prop where
 a:Blk W g 62 (lc a)
 b:Blk W (g+1) 62 (lc b)
theorem TwoL.ext{a b:LotV}(h:TwoL W g a b)(hx:Ext W W'):TwoL W' g a b:=⟨h.a.ext hx,h.b.ext hx⟩
theorem uD(w:World)(a b:LotV):TwoL ((w.alloc (.cells (lc a) 62)).alloc (.cells (lc b) 62)) w.heap.size a b :=
 ⟨(ID _ _ _).alloc _,Mf _ _ _ _ (by simp)⟩
theorem Lj(a b:LotV)(w:World):Calls prog 224 #[lv a,lv b] w fun e w'=>e = .returned (.int .i64 (cmpI a.acq b.acq))∧Ext w w':=by
 have HD:=qh (Iu a.acq b.acq);have HX:Hid (Ext w ((w.alloc (.cells (lc a) 62)).alloc (.cells (lc b) 62))):=qh ((Id _ _).alloc _);obtain⟨ai,an,aa,ao,aq,ac,au⟩:=a;obtain⟨bi,bn,ba,bo,bq,bc,bu⟩:=b;simp only at HD;generalize cmpI aa ba=z at *;go_enter func224,ntmps224;go_wp2_with fail;refine(HD.out _).mono ?_;rintro e w1⟨rfl,rfl⟩;go_wp2_with fail;go_ret;exact⟨rfl,HX.out⟩
theorem sO{a b:Bs}{L:Nat}(ha:a.length<=L)(hb:b.length<=L):(ofI (valI a*valI b)).length<=L+L+1 :=
 qY (by rw[Pi,Pr];exact QM (aG ha) (aG hb))
theorem TwoL.cells{a b:LotV}(h:TwoL W g a b):W.cell? ⟨g,4,none⟩=some (.string (bs a.q))∧W.cell? ⟨g,5,none⟩=some (.string (bs a.c))∧W.cell? ⟨g+1,4,none⟩=some (.string (bs b.q))∧W.cell? ⟨g+1,5,none⟩=some (.string (bs b.c)):=by
 obtain⟨_,_,_,_,a4,a5,_⟩:=ap h.a (iD _);obtain⟨_,_,_,_,b4,b5,_⟩:=ap h.b (iD _);exact⟨a4,a5,b4,b5⟩
theorem Ex(a b:LotV)(ha:SmallL a)(hb:SmallL b)(w:World)(hE:Env w):Calls prog 228 #[lv a,lv b] w fun e w'=>e = .returned (.int .i64 (cmpI (valI a.c*valI b.q) (valI b.c*valI a.q)))∧Ext w w':=by
 have s1:=ha.2.2.1;have s2:=ha.2.2.2.1;have s3:=hb.2.2.1;have s4:=hb.2.2.2.1;have M1:=qh (jM a.c b.q (by omega) (by omega));have M2:=qh (jM b.c a.q (by omega) (by omega));have l1:=sO s2 s3;have l2:=sO s4 s1;have hc:=cmpP (ofI (valI a.c*valI b.q)) (ofI (valI b.c*valI a.q)) (by omega) (by omega);rw[valI_ofI,valI_ofI]at hc;have HC:=qh hc;have HE:=qh hE;have HT:Hid (∀W,Ext ((w.alloc (.cells (lc a) 62)).alloc (.cells (lc b) 62)) W->TwoL W w.heap.size a b):=qh (fun W hx=>(uD w a b).ext hx);have HY:Hid (Ext ((w.alloc (.cells (lc a) 62)).alloc (.cells (lc b) 62)) ((w.alloc (.cells (lc a) 62)).alloc (.cells (lc b) 62)).drew):=qh (iD _).drew;have HX:Hid (Ext w ((w.alloc (.cells (lc a) 62)).alloc (.cells (lc b) 62)).drew):=qh ((Id _ _).alloc _).drew;clear ha hb hE hc s1 s2 s3 s4 l1 l2;generalize cmpI (valI a.c*valI b.q) (valI b.c*valI a.q)=z at *;generalize ofI (valI a.c*valI b.q)=p1 at *;generalize ofI (valI b.c*valI a.q)=p2 at *;obtain⟨ai,an,aa,ao,aq,ac,au⟩:=a;obtain⟨bi,bn,ba,bo,bq,bc,bu⟩:=b;simp only at M1 M2;go_enter func228,ntmps228;go_wp2_with fail
 go_region_held3 (fun w'=>w'.cell? ⟨w.heap.size,4,none⟩=some (.string (bs aq))∧w'.cell? ⟨w.heap.size,5,none⟩=some (.string (bs ac))∧w'.cell? ⟨w.heap.size+1,4,none⟩=some (.string (bs bq))∧w'.cell? ⟨w.heap.size+1,5,none⟩=some (.string (bs bc)))
  (go_keep)
  (first
   |(go_at_call 264;((first|(with_reducible refine(M1.out _ (HE.out.ext HX.out)).mono ?_)|(with_reducible refine(M2.out _ (HE.out.ext HX.out)).mono ?_));rintro e w1⟨rfl,hx⟩);(replace HX:=HX.qt hx);(replace HY:=HY.qt hx);(obtain⟨c0,c1,c2,c3⟩:=(HT.out _ HY.out).cells);simp only at c0 c1 c2 c3;clear hx)
   |(go_at_call 16;((with_reducible refine(HC.out _ (HE.out.ext HX.out)).mono ?_);rintro e w1⟨rfl,hx⟩);(replace HX:=HX.qt hx);(replace HY:=HY.qt hx);(obtain⟨g0,g1,g2,g3⟩:=(HT.out _ HY.out).cells);simp only at g0 g1 g2 g3;clear hx HC))
 all_goals
  go_wp2_with fail;go_ret;exact⟨rfl,HX.out⟩
theorem CI{a b:LotV}(hG:Blk w G 127 #[.func (.func 224) #[] #[]]):∀W,Ext ((w.alloc (.cells (lc a) 62)).alloc (.cells (lc b) 62)) W->TwoL W w.heap.size a b∧W.cell? ⟨G,0,none⟩=some (.func (.func 224) #[] #[])∧G<W.heap.size∧w.heap.size+1<W.heap.size:=fun W hx=>by
 have h1:=hG.ext ((Id w (.cells (lc a) 62)).alloc (.cells (lc b) 62));have h2:=h1.ext hx;have h3:=(uD w a b).ext hx;exact⟨h3,boxCell h2,h2.lt,h3.b.lt⟩
theorem Iv(t:Bool)(z1:Int)(a b:LotV)(G:Nat)(w:World)(hE:Env w)(hG:Blk w G 127 #[.func (.func 224) #[] #[]])(hu:∀W,Env W->Calls prog 228 (cond t #[lv a,lv b] #[lv b,lv a]) W fun e w'=>e = .returned (.int .i64 z1)∧Ext W w'):Calls prog (cond t 226 229) #[lv a,lv b,.pointer (some ⟨G,0,none⟩)] w fun e w'=>e = .returned (.int .i64 (orI z1 (cmpI a.acq b.acq)))∧Ext w w':=by
 have HM:=qh (fun W=>Lj a b W);have HO:=qh (fun W g hb=>orInt z1 (cmpI a.acq b.acq) g 3 W hb);have HE:=qh hE;have HT:=qh (CI (a:=a) (b:=b) hG);have HX:Hid (Ext w ((w.alloc (.cells (lc a) 62)).alloc (.cells (lc b) 62)).drew):=qh ((Id _ _).alloc _).drew;have HY:Hid (Ext ((w.alloc (.cells (lc a) 62)).alloc (.cells (lc b) 62)) ((w.alloc (.cells (lc a) 62)).alloc (.cells (lc b) 62)).drew):=qh (iD _).drew;have hlt:=hG.lt;have q0:=((hG.alloc (.cells (lc a) 62)).alloc (.cells (lc b) 62)).cell 0;simp only[Mk,Mm]at q0;clear hE hG;generalize orI z1 (cmpI a.acq b.acq)=z at *;generalize cmpI a.acq b.acq=z2 at *;obtain⟨ai,an,aa,ao,aq,ac,au⟩:=a;obtain⟨bi,bn,ba,bo,bq,bc,bu⟩:=b
 cases t;rotate_left;change Calls _ 226 _ _ _;go_enter func226,ntmps226;rotate_left;change Calls _ 229 _ _ _;go_enter func229,ntmps229
 all_goals
  dsimp only[cond]at hu;have HU:=qh hu;clear hu;go_wp2_with fail
  go_region_held3 (fun w'=>w'.cell? ⟨G,0,none⟩=some (.func (.func 224) #[] #[])∧w'.cell? ⟨w.heap.size,0,none⟩=some (.string (bs ai))∧w'.cell? ⟨w.heap.size,1,none⟩=some (.string (bs an))∧w'.cell? ⟨w.heap.size,2,none⟩=some (.int .i64 aa)∧w'.cell? ⟨w.heap.size,3,none⟩=some (.int .i64 ao)∧w'.cell? ⟨w.heap.size,4,none⟩=some (.string (bs aq))∧w'.cell? ⟨w.heap.size,5,none⟩=some (.string (bs ac))∧w'.cell? ⟨w.heap.size,6,none⟩=some (.string (bs au))∧w'.cell? ⟨w.heap.size+1,0,none⟩=some (.string (bs bi))∧w'.cell? ⟨w.heap.size+1,1,none⟩=some (.string (bs bn))∧w'.cell? ⟨w.heap.size+1,2,none⟩=some (.int .i64 ba)∧w'.cell? ⟨w.heap.size+1,3,none⟩=some (.int .i64 bo)∧w'.cell? ⟨w.heap.size+1,4,none⟩=some (.string (bs bq))∧w'.cell? ⟨w.heap.size+1,5,none⟩=some (.string (bs bc))∧w'.cell? ⟨w.heap.size+1,6,none⟩=some (.string (bs bu)))
   (go_keep)
   (first
    |(go_at_call 228;((with_reducible refine(HU.out _ (HE.out.ext HX.out)).mono ?_);rintro e w1⟨rfl,hx⟩);(replace HX:=HX.qt hx);(replace HY:=HY.qt hx);(obtain⟨ht,hf,hl1,hl2⟩:=HT.out _ HY.out);(obtain⟨c0,c1,c2,c3,c4,c5,c6⟩:=ap ht.a (iD _));(obtain⟨d0,d1,d2,d3,d4,d5,d6⟩:=ap ht.b (iD _));(have n1:G≠w1.heap.size:=by omega);(have n2:w.heap.size≠w1.heap.size:=by omega);(have n3:w.heap.size+1≠w1.heap.size:=by omega);clear hx ht HU)
    |(go_at_call 224;((with_reducible refine(HM.out _).mono ?_);rintro e w2⟨rfl,hx⟩);(replace HX:=HX.qt hx);(replace HY:=HY.qt hx);(obtain⟨ht,hf,hl1,hl2⟩:=HT.out _ HY.out);(obtain⟨c0,c1,c2,c3,c4,c5,c6⟩:=ap ht.a (iD _));(obtain⟨d0,d1,d2,d3,d4,d5,d6⟩:=ap ht.b (iD _));(have n1:G≠w2.heap.size:=by omega);(have n2:w.heap.size≠w2.heap.size:=by omega);(have n3:w.heap.size+1≠w2.heap.size:=by omega);clear hx ht HM)
    |(go_at_call 227;((with_reducible refine(HO.out _ _ (ID _ _ _)).mono ?_);rintro e w3⟨rfl,rfl⟩);(replace HX:=qh (HX.out.alloc (.cells #[.int .i64 z1,.int .i64 z2] 3)));clear HO))
  all_goals
   go_wp2_with fail;go_ret;exact⟨rfl,HX.out⟩
theorem Mb(a b:LotV)(ha:SmallL a)(hb:SmallL b)(G:Nat)(w:World)(hE:Env w)(hG:Blk w G 127 #[.func (.func 224) #[] #[]]):Calls prog 226 #[lv a,lv b,.pointer (some ⟨G,0,none⟩)] w fun e w'=>e = .returned (.int .i64 (orI (cmpI (valI a.c*valI b.q) (valI b.c*valI a.q)) (cmpI a.acq b.acq)))∧Ext w w':=Iv true _ a b G w hE hG (fun W hE=>Ex a b ha hb W hE)
theorem Mc(a b:LotV)(ha:SmallL a)(hb:SmallL b)(G:Nat)(w:World)(hE:Env w)(hG:Blk w G 127 #[.func (.func 224) #[] #[]]):Calls prog 229 #[lv a,lv b,.pointer (some ⟨G,0,none⟩)] w fun e w'=>e = .returned (.int .i64 (orI (cmpI (valI b.c*valI a.q) (valI a.c*valI b.q)) (cmpI a.acq b.acq)))∧Ext w w':=Iv false _ a b G w hE hG (fun W hE=>Ex b a hb ha W hE)
end
end Go.Proofs.YtaegjkllenlfpaaGreatDoor
