/- The seat's texts, part Y23. -/
import Derived.Test.YtaegjkllenlfpaaGreatDoorY22
set_option maxRecDepth 100000
set_option maxHeartbeats 8000000
namespace Go.Proofs.YtaegjkllenlfpaaGreatDoor
open Tryz
variable {P Q R U X' U' V' Y':List LotV}{p q i j lo hi h s s0 r0 t:Nat}
section
open Go.RowKit
attribute [local go_sem] size_bs toList_bs
abbrev gO(kf:Nat)(cb:Array Value)(lt:LotV->LotV->Bool)(V:LotV->Prop)(g:Nat)(w:World):Prop:=∀W,Only g w W->∀x y,V x->V y ->
 Calls prog kf (#[lv x,lv y]++cb) W fun e w'=>∃k:Int,e = .returned (.int .i64 k)∧decide (k<0)=lt x y∧Ext W w'
def jo(lt:LotV->LotV->Bool)(X A Y:List LotV)(g cap:Nat)(w:World)(e:Ending)(w':World):Prop :=
 e = .returned (.tuple #[])∧(∃M,aE w' g cap (X++(M++Y))∧aJ lt M∧aw lt A M)∧Only g w w'
def LI(lt:LotV->LotV->Bool)(X M R:List LotV)(x:LotV)(g cap a:Nat)(w:World)(j:Value)(wr:World):Prop:=∃P Q,M=P++Q∧j = .int .i64 ((a:Int)+(P.length:Int))∧aE wr g cap (X++(P++x :: Q++R))∧(∀y ∈ Q,lt x y=true)∧Only g w wr
def KN(lt:LotV->LotV->Bool)(X A Y:List LotV)(g cap a:Nat)(w:World)(i:Value)(wr:World):Prop:=∃k M,1<=k∧(k<=A.length∨k=1)∧i = .int .i64 ((a:Int)+(k:Int))∧aE wr g cap (X++(M++(A.drop k++Y)))∧aJ lt M∧aw lt (A.take k) M∧Only g w wr
section
variable {lt:LotV->LotV->Bool} {V:LotV->Prop} {X A Y M:List LotV} {g cap a k:Nat} {w wr:World}
theorem zS(A:List LotV):aJ lt (A.take 1):=by
 cases A with
 |nil=>exact Ro
 |cons x r=>simp
theorem Fk(hw:WkOn lt V)(hv:∀x ∈ A,V x)(hk:k<A.length)(hs:aJ lt M)(ha:aw lt (A.take k) M)(he:M=P++Q)(hq:∀y ∈ Q,lt (A[k]'hk) y=true)(hp:∀y ∈ P.getLast?,lt (A[k]'hk) y=false):aJ lt (P++A[k] :: Q)∧aw lt (A.take (k+1)) (P++A[k] :: Q):=by
 have v1:∀x ∈ A.take k,V x:=fun x hx=>hv x (Ng hx)
 have v2:∀x ∈ M++[A[k]],V x:=by
  intro x hx;rcases MN.1 hx with h|h
  ·exact v1 x (ha.1.mem_iff.2 h)
  ·simp at h;rw[h];exact hv _ (Ml hk)
 obtain⟨h1,h2⟩:=rO hw v2 hs he hq hp;refine⟨h1,?_⟩;rw[Mo hk];refine(aw.app hw ?_ ha (aw.refl _)).trans h2;intro x hx;rcases MN.1 hx with h|h
 ·exact v1 x h
 ·simp at h;rw[h];exact hv _ (Ml hk)
end
structure TwoAt (W:World) (g p q:Nat) (x y:LotV):Prop where
 x0:W.cell? ⟨g,p*7,none⟩=some (.string (bs x.id))
 x1:W.cell? ⟨g,p*7+1,none⟩=some (.string (bs x.ins))
 x2:W.cell? ⟨g,p*7+2,none⟩=some (.int .i64 x.acq)
 x3:W.cell? ⟨g,p*7+3,none⟩=some (.int .i64 x.opn)
 x4:W.cell? ⟨g,p*7+4,none⟩=some (.string (bs x.q))
 x5:W.cell? ⟨g,p*7+5,none⟩=some (.string (bs x.c))
 x6:W.cell? ⟨g,p*7+6,none⟩=some (.string (bs x.u))
 y0:W.cell? ⟨g,q*7,none⟩=some (.string (bs y.id))
 y1:W.cell? ⟨g,q*7+1,none⟩=some (.string (bs y.ins))
 y2:W.cell? ⟨g,q*7+2,none⟩=some (.int .i64 y.acq)
 y3:W.cell? ⟨g,q*7+3,none⟩=some (.int .i64 y.opn)
 y4:W.cell? ⟨g,q*7+4,none⟩=some (.string (bs y.q))
 y5:W.cell? ⟨g,q*7+5,none⟩=some (.string (bs y.c))
 y6:W.cell? ⟨g,q*7+6,none⟩=some (.string (bs y.u))
theorem oz{w:World}{g cap:Nat}{L:List LotV}(h:aE w g cap L)(hp:p<L.length)(hq:q<L.length):TwoAt w g p q L[p] L[q]:=by
 obtain⟨b,o,e1,_,c0,c1,c2,c3,c4,c5,c6⟩:=h.reads.at_ hp;simp only[On,PS,Qx]at e1;obtain⟨rfl,rfl⟩:=e1;obtain⟨b,o,e1,_,d0,d1,d2,d3,d4,d5,d6⟩:=h.reads.at_ hq;simp only[On,PS,Qx]at e1;obtain⟨rfl,rfl⟩:=e1;simp only[MV]at c0 c1 c2 c3 c4 c5 c6 d0 d1 d2 d3 d4 d5 d6;exact⟨c0,c1,c2,c3,c4,c5,c6,d0,d1,d2,d3,d4,d5,d6⟩
theorem rY{X:List LotV}{x y:LotV}(hp:(X++P).length=p):∃(h1:p<(X++(P++y :: x :: Q++R)).length) (h2:p+1<(X++(P++y :: x :: Q++R)).length),(X++(P++y :: x :: Q++R))[p]=y∧(X++(P++y :: x :: Q++R))[p+1]=x:=by
 subst hp;have e:X++(P++y :: x :: Q++R)=(X++P)++y :: x :: (Q++R):=by simp
 refine⟨by rw[e];simp,by rw[e];simp;omega,?_,?_⟩
 ·simp only[e];rw[PX (Mn _)];simp
 ·simp only[e];rw[PX (by omega)];simp
theorem pJ{X:List LotV}{x y:LotV}(hp:(X++P).length=p):((X++(P++y :: x :: Q++R)).set (p+1) y).set p x=X++(P++x :: y :: Q++R):=by
 subst hp;have e:X++(P++y :: x :: Q++R)=(X++P)++y :: x :: (Q++R):=by simp
 rw[e,List.set_comm _ _ (by omega),Ij];simp
theorem CB(lt:LotV->LotV->Bool)(V:LotV->Prop)(hw:WkOn lt V)(X A Y:List LotV)(hv:∀x ∈ A,V x)(kf:Nat)(cb:Array Value)(ek:∀args w,(callFunc kf args).run prog w = .ok (.enter kf args) w)(g cap:Nat)(w:World)(hC:gO kf cb lt V g w)
  (hr:aE w g cap (X++(A++Y))) (a b N:Nat) (ha:X.length=a) (hb:X.length+A.length=b) (hN:(X++(A++Y)).length=N) (hn:N<=1000000) :
  Calls prog 307 #[.slice (some ⟨g,0,none⟩) N cap,.int .i64 a,.int .i64 b,.func (.func kf) #[] cb] w (jo lt X A Y g cap w):=by
 have HR0:=qh hr;have HW:=qh hw;have HV:=qh hv;have HC:=qh hC;have hbN:b<=N:=by simp at hN;omega
 have HA:=qh ha;have HN:=qh hN;have hbl:a+A.length=b:=by omega
 have hS1:Hid (aJ lt (A.take 1)):=qh (zS A);have HT1:Hid (X++(A.take 1++(A.drop 1++Y))=X++(A++Y)):=qh (by rw[←Mz (A.take 1),MP]);clear hr hw hv hC ha hb hN;go_enter func307,ntmps307;go_wp2_with fail;go_loopw [8,9] (fun i _ wr=>KN lt X A Y g cap a w i wr) (fun i _ _=>a+A.length+2-(intOf i).toNat)
 case atStart=>exact⟨1,A.take 1,by omega,.inr rfl,by go_num,by rw[HT1.out];exact HR0.out,hS1.out,aw.refl _,Mh _ _⟩
 case round =>
  clear HR0 hS1 HT1;obtain⟨k,M,h1,hk,rfl,hr,hs,hal,ho⟩:=hrel;have HR:=qh hr;have HS:=qh hs;have HAL:=qh hal;have HO:=qh ho;clear hr hs hal ho;by_cases hlt:k<A.length
  ·have hkb:(a:Int)+(k:Int)<(b:Int):=by omega
   have hml:M.length=k:=by rw[←HAL.out.1.length_eq,Mu];omega
   have hD:A.drop k=A[k] :: A.drop (k+1):=MR hlt;have HNX:=qh (fun(P Q:List LotV) he hq hp=>Fk HW.out HV.out hlt HS.out HAL.out (P:=P) (Q:=Q) he hq hp);have HVX:Hid (V A[k]∧∀y ∈ M,V y):=qh ⟨HV.out _ (Ml hlt),fun y hy=>HV.out y (Ng (HAL.out.1.mem_iff.2 hy))⟩;have HNL:Hid (X.length+(M.length+(1+((A.drop (k+1)).length+Y.length)))=N):=qh (by rw[←HN.out];simp;omega);have HR2:Hid (aE wr g cap (X++(M++A[k] :: []++(A.drop (k+1)++Y)))):=qh (by have:=HR.out;rw[hD]at this;simp only[Mz,MZ,ML]at this ⊢;exact this);clear HR hD HS HAL;generalize A[k]'hlt=x at *;generalize hRR:A.drop (k+1)++Y=R at *;have HRR:=qh hRR;go_wp2_with fail;go_loopw [9] (fun j wr=>LI lt X M R x g cap a w j wr) (fun j _=>(intOf j).toNat)
   case atStart=>exact⟨M,[],by simp,by rw[hml],HR2.out,by simp,HO.out⟩
   case round =>
    clear HR2 HO;obtain⟨P,Q,he,rfl,hr,hq,ho⟩:=hrel;have HR:=qh hr;have HQ:=qh hq;have HO:=qh ho;have hPl:P.length<=k:=by rw[←hml,he];simp
    clear hr hq ho;by_cases hp0:P.length=0
    ·have hPn:P=[]:=My.1 hp0;obtain⟨f1,f2⟩:=HNX.out P Q he HQ.out (by rw[hPn];simp);have F:=qh (MC f1 f2);clear f1 f2 hPn;have hz:¬ ((a:Int)<(a:Int)+(P.length:Int)):=by omega
     generalize hpl:P.length=n at *;clear hpl;go_wp2_with fail;go_quiet (fail);have HX1:Hid (Ext wr (wr.drewN nq)):=qh ((iD _).drewN _);go_wp2_with fail;go_roundw
     case rel=>exact⟨k+1,P++x :: Q,by omega,.inl (by omega),by go_num,by rw[HRR.out];exact HR.out.ext HX1.out,F.out.1,F.out.2,HO.out.ext HX1.out⟩
     case measure=>simp[intOf];omega
    ·obtain⟨P',y,rfl⟩:∃P' y,P=P'++[y]:=by
      rcases PP P with rfl | ⟨P',y,rfl⟩
      ·exact absurd rfl hp0
      ·exact⟨P',y,by simp⟩
     clear hp0;obtain⟨p,hp⟩:∃p,(X++P').length=p:=⟨_,rfl⟩;obtain⟨q,hpq⟩:∃q,p+1=q:=⟨_,rfl⟩;have hpl:a+P'.length=p:=by rw[←hp,←HA.out];simp
     obtain⟨h3,h4,e3,e4⟩:=rY (Q:=Q) (R:=R) (x:=x) (y:=y) hp;have hst:=pJ (Q:=Q) (R:=R) (x:=x) (y:=y) hp;have hre:X++(P'++[y]++x :: Q++R)=X++(P'++y :: x :: Q++R):=by simp
     rw[hre]at HR
     have hLN:(X++(P'++y :: x :: Q++R)).length=N:=by
      rw[←HNL.out,he,←hRR];simp;omega
     rw[hLN]at h3 h4;simp only[hpq]at h3 h4 e3 e4 hst;have hj:(a:Int)+((P'++[y]).length:Int)=(q:Int):=by simp;omega
     rw[hj];have v1:IntKind.i64.wrap ((q:Int)-1)=(q:Int)-1:=Nl _ (by omega);have v2:((q:Int)-1).toNat=p:=by omega
     have v3:(0:Int)<=(q:Int)-1:=by omega
     have v4:(1:Int)<=(q:Int):=by omega
     have v5:(q:Int)-1<(N:Int):=by omega
     have hpN:(p:Int)<(N:Int):=by omega
     have hqN:(q:Int)<(N:Int):=by omega
     have hp0:(0:Int)<=(p:Int):=by omega
     have hq0:(0:Int)<=(q:Int):=by omega
     have haq:(a:Int)<(q:Int):=by omega
     have h3':p<(X++(P'++y :: x :: Q++R)).length:=by omega
     have h4':q<(X++(P'++y :: x :: Q++R)).length:=by omega
     have HTA:Hid (∀W,Ext wr W->TwoAt W g p q y x):=qh (fun W hx=>by
      have:=oz (HR.out.ext hx) h3' h4';rw[e3,e4]at this
      exact this)
     obtain⟨c0,c1,c2,c3,c4,c5,c6,d0,d1,d2,d3,d4,d5,d6⟩:=HTA.out wr (iD _);have HS:=qh hst;have HP:=qh (MC h3' h4');have HVY:Hid (V y):=qh (HVX.out.2 y (by rw[he];simp));have HCC:=qh (fun W ho=>HC.out W ho x y HVX.out.1 HVY.out);have HF:Hid (lt x y=false->aJ lt (P'++[y]++x :: Q)∧aw lt (A.take (k+1)) (P'++[y]++x :: Q)):=qh (fun hl=>HNX.out (P'++[y]) Q he HQ.out (by intro u hu;simp at hu;rw[←hu];exact hl));have HE:=qh he;have hgl:=HR.out.lt;clear e3 e4 hst hLN hj hre h3 h4 h3' h4' he hRR hp HNX HNL HVX HVY HC HN HV;obtain⟨l,hl⟩:∃l,lt x y=l:=⟨_,rfl⟩;rw[hl]at HCC;have HL:=qh hl;clear hl;have hpa:(q:Int)-1=(a:Int)+(P'.length:Int):=by omega
     have HPA:=qh hpa;clear hpa hpl;obtain⟨x0,x1,x2,x3,x4,x5,x6⟩:=x;obtain⟨y0,y1,y2,y3,y4,y5,y6⟩:=y;simp only at c0 c1 c2 c3 c4 c5 c6 d0 d1 d2 d3 d4 d5 d6;have HOD:Hid (Only g w wr.drew):=qh HO.out.drew;have HX1:Hid (Ext wr wr.drew):=qh (iD _).drew;go_wp2_with fail
     go_region_held3 (fun w'=>w'.cell? ⟨g,p*7,none⟩=some (.string (bs y0))∧w'.cell? ⟨g,p*7+1,none⟩=some (.string (bs y1))∧w'.cell? ⟨g,p*7+2,none⟩=some (.int .i64 y2)∧w'.cell? ⟨g,p*7+3,none⟩=some (.int .i64 y3)∧w'.cell? ⟨g,p*7+4,none⟩=some (.string (bs y4))∧w'.cell? ⟨g,p*7+5,none⟩=some (.string (bs y5))∧w'.cell? ⟨g,p*7+6,none⟩=some (.string (bs y6))∧w'.cell? ⟨g,q*7,none⟩=some (.string (bs x0))∧w'.cell? ⟨g,q*7+1,none⟩=some (.string (bs x1))∧w'.cell? ⟨g,q*7+2,none⟩=some (.int .i64 x2)∧w'.cell? ⟨g,q*7+3,none⟩=some (.int .i64 x3)∧w'.cell? ⟨g,q*7+4,none⟩=some (.string (bs x4))∧w'.cell? ⟨g,q*7+5,none⟩=some (.string (bs x5))∧w'.cell? ⟨g,q*7+6,none⟩=some (.string (bs x6)))
      (go_keep)
      ((((with_reducible refine(HCC.out _ HOD.out).mono ?_);rintro e w1⟨z,rfl,hz,hx1⟩);(replace HX1:=HX1.qt hx1);clear hx1;(obtain⟨e0,e1,e2,e3,e4,e5,e6,f0,f1,f2,f3,f4,f5,f6⟩:=HTA.out _ HX1.out);simp only at e0 e1 e2 e3 e4 e5 e6 f0 f1 f2 f3 f4 f5 f6))
     all_goals
      cases l
      ·go_wp2_with fail;have F:=qh (HF.out HL.out);go_roundw
       case rel=>exact⟨k+1,P'++[⟨y0,y1,y2,y3,y4,y5,y6⟩]++⟨x0,x1,x2,x3,x4,x5,x6⟩ :: Q,by omega,.inl (by omega),by go_num,by rw[HRR.out];have:=HR.out.ext HX1.out;simp only[Mz,MZ,ML]at this ⊢;exact this,F.out.1,F.out.2,HO.out.ext HX1.out⟩
       case measure=>simp[intOf];omega
      ·have hfr:=fun m=>(HR.out.ext HX1.out).frozen m
       go_wp2_with fail;go_region
       have HRN:=((HR.out.ext HX1.out).setl HP.out.2 ⟨y0,y1,y2,y3,y4,y5,y6⟩).setl (k:=p) (by rw[MM];exact HP.out.1) ⟨x0,x1,x2,x3,x4,x5,x6⟩;have HON:=Only.sets (lotCells ⟨x0,x1,x2,x3,x4,x5,x6⟩) (p*7) _ _ (Only.sets (lotCells ⟨y0,y1,y2,y3,y4,y5,y6⟩) (q*7) _ _ (HO.out.ext HX1.out));rw[HS.out]at HRN;have HRN':=qh HRN.drew;have HON':=qh HON.drew;clear HR HO HRN HON c0 c1 c2 c3 c4 c5 c6 d0 d1 d2 d3 d4 d5 d6 e0 e1 e2 e3 e4 e5 e6 f0 f1 f2 f3 f4 f5 f6 hfr HTA;go_wp2_with fail;refine⟨⟨P',⟨y0,y1,y2,y3,y4,y5,y6⟩ :: Q,by rw[HE.out];simp,M6 (Value.int .i64) HPA.out,HRN'.out,?_,HON'.out⟩,?_⟩
       ·intro u hu;rcases MS.1 hu with rfl|hu
        ·exact HL.out
        ·exact HQ.out u hu
       ·have e1:(intOf (.int .i64 ((q:Int)-1))).toNat=q-1:=by show((q:Int)-1).toNat=_;omega
        have e2:(intOf (.int .i64 (q:Int))).toNat=q:=by show((q:Int)).toNat=_;omega
        rw[e1,e2];omega
  ·have hf:¬ ((a:Int)+(k:Int)<(b:Int)):=by omega
   have HF:Hid (A.drop k=[]∧A.take k=A):=qh ⟨Nt (by omega),Mv (by omega)⟩;go_wp2_with fail;go_end0
   refine⟨rfl,⟨M,?_,HS.out,?_⟩,HO.out⟩
   ·have:=HR.out;rw[HF.out.1,ML]at this
    exact this
   ·have:=HAL.out;rw[HF.out.2]at this
    exact this
def KO(X U V Y:List LotV)(m g cap:Nat)(w:World)(i j:Value)(wr:World):Prop :=
 ∃X' U' V' Y',i = .int .i64 (U'.length:Int)∧j = .int .i64 (V'.length:Int)∧0<U'.length∧0<V'.length∧X'.length+U'.length=m∧aE wr g cap (X'++(U'++(V'++Y')))∧X'++(V'++(U'++Y'))=X++(V++(U++Y))∧Only g w wr
theorem Fl{X V Y:List LotV}(h:X'++(V'++(U'++Y'))=X++(V++(U++Y))):X'.length+(U'.length+(V'.length+Y'.length))=(X++(U++(V++Y))).length:=by
 have:=M6 List.length h;simp at this ⊢;omega
theorem Fm(X U V Y:List LotV)(cf:Value)(g cap:Nat)(w:World)(hr:aE w g cap (X++(U++(V++Y))))(a m b N:Nat)(ha:X.length=a)(hm:a+U.length=m)(hb:m+V.length=b)(hU:0<U.length)(hV:0<V.length)(hN:(X++(U++(V++Y))).length=N)(hn:N<=1000000) :
  Calls prog 351 #[.slice (some ⟨g,0,none⟩) N cap,.int .i64 a,.int .i64 m,.int .i64 b,cf] w fun e w'=>e = .returned (.tuple #[])∧aE w' g cap (X++(V++(U++Y)))∧Only g w w':=by
 have HR0:=qh hr;have e1:(m:Int)-(a:Int)=(U.length:Int):=by omega
 have e2:(b:Int)-(m:Int)=(V.length:Int):=by omega
 have hbN:b<=N:=by simp at hN;omega
 have HN:=qh hN;have HA:=qh (MC ha hm);clear hr hN ha;go_enter func351,ntmps351;go_wp2_with fail;go_loopw [10,11] (fun i j wr=>KO X U V Y m g cap w i j wr) (fun i j _=>(intOf i).toNat+(intOf j).toNat)
 case atStart=>exact⟨X,U,V,Y,by go_num,by go_num,hU,hV,by rw[HA.out.1];exact HA.out.2,HR0.out,rfl,Mh _ _⟩
 case round =>
  clear HR0 e1 e2;obtain⟨X',U',V',Y',rfl,rfl,hu,hv,hxm,hr,he,ho⟩:=hrel;have HR:=qh hr;have HO:=qh ho;have HE:=qh he;have hl:=Fl he;rw[HN.out]at hl;clear hr ho he;obtain⟨p,hp⟩:∃p,X'.length=p:=⟨_,rfl⟩;obtain⟨i,hi⟩:∃i,U'.length=i:=⟨_,rfl⟩;obtain⟨j,hj⟩:∃j,V'.length=j:=⟨_,rfl⟩;have HP:=qh (MC hp (MC hi hj));rw[hp,hi]at hxm;rw[hp,hi,hj]at hl;rw[hi]at hu ⊢;rw[hj]at hv ⊢;clear hp hi hj;have hmi:(m:Int)-(i:Int)=(p:Int):=by omega
  by_cases hij:i=j
  ·subst hij;have hne:((i:Int) != (i:Int))=false:=by simp
   have HS:=qh (fun W (h:aE W g cap (X'++(U'++([]++(V'++Y')))))=>mP X' U' [] V' Y' (by rw[HP.out.2.1,HP.out.2.2]) cf g cap W h (by simp;rw[HP.out.1,HP.out.2.1,HP.out.2.2];omega) p m i N HP.out.1 (by simp;rw[HP.out.1,HP.out.2.1];omega) (by simp;rw[HP.out.1,HP.out.2.1,HP.out.2.2];omega) HP.out.2.1);go_wp2_with fail;refine(HS.out _ HR.out).mono ?_;rintro e w1⟨rfl,hr2,ho2⟩;have HR2:=qh hr2;replace HO:=qh (HO.out.trans ho2);clear hr2 ho2;go_wp2_with fail;go_end0
   exact⟨rfl,by rw[←HE.out];exact HR2.out,HO.out⟩
  ·have hne:((i:Int) != (j:Int))=true:=by simp;omega
   by_cases hgt:j<i
   ·have hg:(j:Int)<(i:Int):=by omega
    have hs:(i:Int)-(j:Int)=((i-j:Nat):Int):=by omega
    have HT:Hid ((U'.take j).length=j∧(U'.drop j).length=i-j∧U'.take j++U'.drop j=U'):=qh ⟨by rw[Mu,HP.out.2.1];omega,by rw[MU,HP.out.2.1],MP _ _⟩;have HS:=qh (fun W (h:aE W g cap (X'++(U'.take j++(U'.drop j++(V'++Y')))))=>mP X' (U'.take j) (U'.drop j) V' Y' (by rw[HT.out.1,HP.out.2.2]) cf g cap W h (by simp only[Mp];rw[HP.out.1,HT.out.1,HT.out.2.1,HP.out.2.2];omega) p m j N HP.out.1 (by rw[HP.out.1,HT.out.1,HT.out.2.1];omega) (by simp only[Mp];rw[HP.out.1,HT.out.1,HT.out.2.1,HP.out.2.2];omega) HT.out.1);have HR1:Hid (aE wr g cap (X'++(U'.take j++(U'.drop j++(V'++Y'))))):=qh (by rw[←Mz (U'.take j),HT.out.2.2];exact HR.out);go_wp2_with fail;refine(HS.out _ HR1.out).mono ?_;rintro e w1⟨rfl,hr2,ho2⟩;have HR2:=qh hr2;replace HO:=qh (HO.out.trans ho2);clear hr2 ho2;go_wp2_with fail;refine⟨⟨X'++V',U'.drop j,U'.take j,Y',by rw[HT.out.2.1],by rw[HT.out.1],by rw[HT.out.2.1];omega,by rw[HT.out.1];omega,by rw[Mp,HP.out.1,HP.out.2.2,HT.out.2.1];omega,by simpa using HR2.out,by rw[←HE.out];simp only[Mz];rw[←Mz (U'.take j),HT.out.2.2],HO.out⟩,?_⟩;simp[intOf];omega
   ·have hg:¬ ((j:Int)<(i:Int)):=by omega
    have hs:(j:Int)-(i:Int)=((j-i:Nat):Int):=by omega
    have hs2:(m:Int)+(j:Int)-(i:Int)=((m+j-i:Nat):Int):=by omega
    have HT:Hid ((V'.take (j-i)).length=j-i∧(V'.drop (j-i)).length=i∧V'.take (j-i)++V'.drop (j-i)=V'):=qh ⟨by rw[Mu,HP.out.2.2];omega,by rw[MU,HP.out.2.2];omega,MP _ _⟩;have HS:=qh (fun W (h:aE W g cap (X'++(U'++(V'.take (j-i)++(V'.drop (j-i)++Y')))))=>mP X' U' (V'.take (j-i)) (V'.drop (j-i)) Y' (by rw[HT.out.2.1,HP.out.2.1]) cf g cap W h (by simp only[Mp];rw[HP.out.1,HT.out.1,HT.out.2.1,HP.out.2.1];omega) p (m+j-i) i N HP.out.1 (by rw[HP.out.1,HP.out.2.1,HT.out.1];omega) (by simp only[Mp];rw[HP.out.1,HT.out.1,HT.out.2.1,HP.out.2.1];omega) HP.out.2.1);have HR1:Hid (aE wr g cap (X'++(U'++(V'.take (j-i)++(V'.drop (j-i)++Y'))))):=qh (by rw[←Mz (V'.take (j-i)),HT.out.2.2];exact HR.out);go_wp2_with fail;refine(HS.out _ HR1.out).mono ?_;rintro e w1⟨rfl,hr2,ho2⟩;have HR2:=qh hr2;replace HO:=qh (HO.out.trans ho2);clear hr2 ho2;go_wp2_with fail;refine⟨⟨X',V'.drop (j-i),V'.take (j-i),U'++Y',by rw[HT.out.2.1],by rw[HT.out.1],by rw[HT.out.2.1];omega,by rw[HT.out.1];omega,by rw[HP.out.1,HT.out.2.1];omega,by simpa using HR2.out,by rw[←HE.out,←Mz (V'.take (j-i)),HT.out.2.2],HO.out⟩,?_⟩;simp[intOf];omega
end
section
section
variable {α:Type} {lt:α->α->Bool} {V:α->Prop}
theorem jK{l:List α}(hw:WkOn lt V)(hv:∀x ∈ l,V x)(h:aJ lt l)(hij:i<=j)(hj:j<l.length):lt l[j] (l[i]'(by omega))=false:=by
 rcases Nw i j with h1|h1
 ·exact(Q5.1 h) i j (by omega) hj h1
 ·have:i=j:=by omega
  subst this;exact hw.irr (hv _ (Ml hj))
structure LoAt (lt:α->α->Bool) (x:α) (B:List α) (lo hi:Nat):Prop where
 le:lo<=hi
 len:hi<=B.length
 low:∀t (ht:t<B.length),t<lo->lt B[t] x=true
 high:∀t (ht:t<B.length),hi<=t->lt B[t] x=false
theorem LoAt.start(x:α)(B:List α):LoAt lt x B 0 B.length:=⟨by omega,by omega,fun t _ h=>by omega,fun t h1 h2=>by omega⟩
theorem LoAt.up{x:α}{B:List α}(k:LoAt lt x B lo hi)(hw:WkOn lt V)(hv:∀y ∈ B,V y)(vx:V x)(hs:aJ lt B)(h2:h<hi)(hl:h<B.length)(e:lt B[h] x=true):LoAt lt x B (h+1) hi :=
 ⟨by omega,k.len,fun t ht h3=>hw.le_lt (hv _ (Ml ht)) (hv _ (Ml hl)) vx (jK hw hv hs (by omega) hl) e,k.high⟩
theorem LoAt.down{x:α}{B:List α}(k:LoAt lt x B lo hi)(hw:WkOn lt V)(hv:∀y ∈ B,V y)(vx:V x)(hs:aJ lt B)(h1:lo<=h)(_h2:h<hi)(hl:h<B.length)(e:lt B[h] x=false):LoAt lt x B lo h :=
 ⟨h1,by have:=k.len;omega,k.low,fun t ht h3=>hw.neg _ _ _ (hv _ (Ml ht)) (hv _ (Ml hl)) vx (jK hw hv hs h3 ht) e⟩
theorem LoAt.fin{x:α}{B:List α}(k:LoAt lt x B s s)(hw:WkOn lt V)(hv:∀y ∈ B,V y)(vx:V x)(hs:aJ lt B):aJ lt (B.take s++x :: B.drop s)∧aw lt ([x]++B) (B.take s++x :: B.drop s):=by
 have h1:∀y ∈ B.take s,lt y x=true:=by
  intro y hy;obtain⟨t,ht,e⟩:=PV.1 hy;rw[←e];exact k.low t (by omega) (by omega)
 have h2:∀y ∈ B.drop s,lt y x=false:=by
  intro y hy;obtain⟨t,ht,e⟩:=Sm.1 hy;rw[←e];exact k.high (s+t) (by omega) (by omega)
 have hB:=MP s B;have v1:∀y ∈ B.take s,V y:=fun y hy=>hv y (Ng hy)
 have v2:∀y ∈ B.drop s,V y:=fun y hy=>hv y (NA hy)
 generalize B.take s=B1 at *;generalize B.drop s=B2 at *;subst hB;obtain⟨s1,s2,s3⟩:=Ox.1 hs;refine⟨Ox.2 ⟨s1,PB.2 ⟨h2,s2⟩,?_⟩,?_⟩
 ·intro a ha b hb;rcases MS.1 hb with rfl|hb
  ·exact hw.asy a b (v1 a ha) vx (h1 a ha)
  ·exact s3 a ha b hb
 ·have:=aw.swap hw (p:=[x]) (q:=B1) (by intro y hy;rcases MN.1 hy with h|h;simp at h;rw[h];exact vx;exact v1 y h) (by intro y hy z hz;simp at hy;rw[hy];exact h1 z hz);have:=aw.app hw (a:=[x]++B1) (b:=B2) (by intro y hy;rcases MN.1 hy with h|h;rcases MN.1 h with h|h;simp at h;rw[h];exact vx;exact v1 y h;exact v2 y h) this (aw.refl B2)
  simpa using this
structure HiAt (lt:α->α->Bool) (y:α) (A:List α) (lo hi:Nat):Prop where
 le:lo<=hi
 len:hi<=A.length
 low:∀t (ht:t<A.length),t<lo->lt y A[t]=false
 high:∀t (ht:t<A.length),hi<=t->lt y A[t]=true
theorem HiAt.start(y:α)(A:List α):HiAt lt y A 0 A.length:=⟨by omega,by omega,fun t _ h=>by omega,fun t h1 h2=>by omega⟩
theorem HiAt.up{y:α}{A:List α}(k:HiAt lt y A lo hi)(hw:WkOn lt V)(hv:∀z ∈ A,V z)(vy:V y)(hs:aJ lt A)(h2:h<hi)(hl:h<A.length)(e:lt y A[h]=false):HiAt lt y A (h+1) hi :=
 ⟨by omega,k.len,fun t ht h3=>hw.neg _ _ _ vy (hv _ (Ml hl)) (hv _ (Ml ht)) e (jK hw hv hs (by omega) hl),k.high⟩
theorem HiAt.down{y:α}{A:List α}(k:HiAt lt y A lo hi)(hw:WkOn lt V)(hv:∀z ∈ A,V z)(vy:V y)(hs:aJ lt A)(h1:lo<=h)(_h2:h<hi)(hl:h<A.length)(e:lt y A[h]=true):HiAt lt y A lo h :=
 ⟨h1,by have:=k.len;omega,k.low,fun t ht h3=>hw.lt_le vy (hv _ (Ml hl)) (hv _ (Ml ht)) e (jK hw hv hs h3 ht)⟩
theorem HiAt.fin{y:α}{A:List α}(k:HiAt lt y A s s)(hw:WkOn lt V)(hv:∀z ∈ A,V z)(vy:V y)(hs:aJ lt A):aJ lt (A.take s++y :: A.drop s)∧aw lt (A++[y]) (A.take s++y :: A.drop s):=by
 have h1:∀z ∈ A.take s,lt y z=false:=by
  intro z hz;obtain⟨t,ht,e⟩:=PV.1 hz;rw[←e];exact k.low t (by omega) (by omega)
 have h2:∀z ∈ A.drop s,lt y z=true:=by
  intro z hz;obtain⟨t,ht,e⟩:=Sm.1 hz;rw[←e];exact k.high (s+t) (by omega) (by omega)
 refine rO hw ?_ hs (MP s A).symm h2 (fun z hz=>h1 z (List.mem_of_mem_getLast? hz));intro z hz;rcases MN.1 hz with h|h
 ·exact hv z h
 ·simp at h;rw[h];exact vy
structure CutAt2 (lt:α->α->Bool) (A B:List α) (n s0 r0 lo hi:Nat):Prop where
 le:lo<=hi
 bd:s0<=lo∧hi<=r0
 low:∀c (h1:c<A.length) (h2:n-1-c<B.length),s0<=c->c<lo->lt B[n-1-c] A[c]=false
 high:∀c (h1:c<A.length) (h2:n-1-c<B.length),hi<=c->c<r0->lt B[n-1-c] A[c]=true
theorem CutAt2.start(A B:List α){n:Nat}(h:s0<=r0):CutAt2 lt A B n s0 r0 s0 r0:=⟨h,⟨by omega,by omega⟩,fun _ _ _ _ _=>by omega,fun _ _ _ _ _=>by omega⟩
structure Half (la lb n s0 r0:Nat):Prop where
 a:r0<=la
 b:∀c,s0<=c->c<r0->n-1-c<lb∧c<n
 s:s0<=r0
 left:s0=0∨n-s0=lb
 right:r0=la∨n=r0
 n1:r0<=n
 n2:n-s0<=lb
theorem CutAt2.up{A B:List α}{n c:Nat}(k:CutAt2 lt A B n s0 r0 lo hi)(hw:WkOn lt V)(va:∀y ∈ A,V y)(vb:∀y ∈ B,V y)(sa:aJ lt A)(sb:aJ lt B)(h0:lo<=c)(h2:c<hi)(h3:c<A.length)(h4:n-1-c<B.length)(h5:c<n)(e:lt B[n-1-c] A[c]=false):CutAt2 lt A B n s0 r0 (c+1) hi:=by
 have:=k.bd;refine⟨by omega,⟨by omega,this.2⟩,fun d h1 h6 h7 h8=>?_,k.high⟩;have a1:=jK hw va sa (i:=d) (j:=c) (by omega) h3;have b1:=jK hw vb sb (i:=n-1-c) (j:=n-1-d) (by omega) h6;exact hw.neg _ _ _ (vb _ (Ml h6)) (va _ (Ml h3)) (va _ (Ml h1)) (hw.neg _ _ _ (vb _ (Ml h6)) (vb _ (Ml h4)) (va _ (Ml h3)) b1 e) a1
theorem CutAt2.down{A B:List α}{n c:Nat}(k:CutAt2 lt A B n s0 r0 lo hi)(hw:WkOn lt V)(va:∀y ∈ A,V y)(vb:∀y ∈ B,V y)(sa:aJ lt A)(sb:aJ lt B)(h1:lo<=c)(h2:c<hi)(h3:c<A.length)(h4:n-1-c<B.length)(e:lt B[n-1-c] A[c]=true):CutAt2 lt A B n s0 r0 lo c:=by
 have:=k.bd;refine⟨h1,⟨this.1,by omega⟩,k.low,fun d h5 h6 h7 h8=>?_⟩;have a1:=jK hw va sa (i:=c) (j:=d) (by omega) h5;have b1:=jK hw vb sb (i:=n-1-d) (j:=n-1-c) (by omega) h4;exact hw.lt_le (vb _ (Ml h6)) (va _ (Ml h3)) (va _ (Ml h5)) (hw.le_lt (vb _ (Ml h6)) (vb _ (Ml h4)) (va _ (Ml h3)) b1 e) a1
theorem CutAt2.fin{A B c d:List α}{n:Nat}(k:CutAt2 lt A B n s0 r0 s s)(hh:Half A.length B.length n s0 r0)(hw:WkOn lt V)(va:∀y ∈ A,V y)(vb:∀y ∈ B,V y)(sa:aJ lt A)(sb:aJ lt B)
  (hc:aJ lt c) (hca:aw lt (A.take s++B.take (n-s)) c) (hd:aJ lt d) (hda:aw lt (A.drop s++B.drop (n-s)) d):aJ lt (c++d)∧aw lt (A++B) (c++d):=by
 have bd:=k.bd;have ha:=MP s A;have hb:=MP (n-s) B;have g1:=hh.a;have g2:=hh.n1;have g3:=hh.n2;have:=Ff hw (a1:=A.take s) (a2:=A.drop s) (b1:=B.take (n-s)) (b2:=B.drop (n-s)) (c:=c) (d:=d) (by rw[ha,hb];intro x hx;rcases MN.1 hx with h|h;exact va x h;exact vb x h) (by rw[ha];exact sa) (by rw[hb];exact sb) ?_ ?_ hc hca hd hda
 ·rwa[ha,hb]at this
 ·intro x hx y hy;rcases Nat.eq_or_lt_of_le bd.1 with e|e
  ·rcases hh.left with h|h
   ·rw[←e,h]at hx;simp at hx
   ·rw[←e,h,O9]at hy;simp at hy
  ·have h1:x=A[s-1]'(by omega):=by
    rw[Sn]at hx;simp only[Mu,O7]at hx;rw[Mq (by omega),Ot (by omega),Mr (by omega)]at hx;simpa using hx.symm
   have hy':B[n-s]? = some y:=by
    rw[List.head?_drop]at hy;simpa using hy
   obtain⟨h2,h3⟩:=Nk.1 hy';have:=k.low (s-1) (by omega) (by omega) (by omega) (by omega);have e2:n-1-(s-1)=n-s:=by omega
   simp only[e2]at this
   rw[h1,←h3];exact this
 ·intro x hx y hy;rcases Nat.eq_or_lt_of_le bd.2 with e|e
  ·rcases hh.right with h|h
   ·rw[e,h,O9]at hx;simp at hx
   ·rw[e,←h,Pq]at hy;simp at hy
  ·have hx':A[s]? = some x:=by
    rw[List.head?_drop]at hx;simpa using hx
   obtain⟨h2,h3⟩:=Nk.1 hx';have hns:=hh.b s (by omega) e
   have h1:y=B[n-1-s]'hns.1:=by
    rw[Sn]at hy;simp only[Mu,O7]at hy;rw[Mq (by omega),Ot (by omega),show n-s-1=n-1-s by omega,Mr hns.1]at hy;simpa using hy.symm
   have:=k.high s (by omega) hns.1 (by omega) e;rw[h1,←h3];exact this
end
end
section
open Go.RowKit
attribute [local go_sem] size_bs toList_bs
theorem mf{X A:List LotV}{a:Nat}(ht:t<A.length)(ha:X.length=a):∃h:a+t<(X++(A++R)).length,(X++(A++R))[a+t]=A[t]:=by
 subst ha;refine⟨by simp;omega,?_⟩;rw[PX (by omega)];simp only[Qm];rw[Sv ht]
theorem zT{X:List LotV}{x y:LotV}(hp:(X++P).length=p):((X++(P++y :: x :: Q++R)).set p x).set (p+1) y=X++(P++x :: y :: Q++R):=by
 rw[List.set_comm _ _ (by omega)];exact pJ hp
theorem LJ(lt:LotV->LotV->Bool)(V:LotV->Prop)(hw:WkOn lt V)(x:LotV)(vx:V x)(X B Y:List LotV)(hv:∀y ∈ B,V y)(sb:aJ lt B)(kf:Nat)(cb:Array Value)(ek:∀args w,(callFunc kf args).run prog w = .ok (.enter kf args) w)(g cap:Nat)(w:World)(hC:gO kf cb lt V g w)
  (hr:aE w g cap (X++([x]++(B++Y)))) (a m b N:Nat) (ha:X.length=a) (hm:a+1=m) (hb:m+B.length=b) (hN:(X++([x]++(B++Y))).length=N) (hn:N<=1000000) :
  Calls prog 308 #[.slice (some ⟨g,0,none⟩) N cap,.int .i64 a,.int .i64 m,.int .i64 b,.func (.func kf) #[] cb] w (jo lt X ([x]++B) Y g cap w):=by
 have HR0:=qh hr;have HW:=qh hw;have HV:=qh hv;have HVX:=qh vx;have HSB:=qh sb;have HC:=qh hC;have HA:=qh ha;have HN:=qh hN;have hbN:b<=N:=by simp at hN;omega
 have h1:(m:Int)-(a:Int)=1:=by omega
 have hg:=hr.lt;clear hr hw hv hC ha hN vx sb;go_enter func308,ntmps308;go_wp2_with fail;go_loopw [10,11,12] (fun i j _ wr=>∃lo hi:Nat,i = .int .i64 ((m:Int)+(lo:Int))∧j = .int .i64 ((m:Int)+(hi:Int))∧LoAt lt x B lo hi∧aE wr g cap (X++([x]++(B++Y)))∧Only g w wr) (fun i j _ _=>(intOf j).toNat-(intOf i).toNat)
 case atStart=>exact⟨0,B.length,by go_num,M6 (Value.int .i64) (by omega),LoAt.start x B,HR0.out,Mh _ _⟩
 case round =>
  clear HR0 h1;obtain⟨lo,hi,rfl,rfl,hlo,hr,ho⟩:=hrel;have HR:=qh hr;have HO:=qh ho;have HLO:=qh hlo;have hle:=hlo.le;have hlen:=hlo.len;clear hr ho hlo;by_cases hlt:lo<hi
  ·have hlt1:(m:Int)+(lo:Int)<(m:Int)+(hi:Int):=by omega
   obtain⟨h,hh⟩:∃h,(lo+hi) / 2=h:=⟨_,rfl⟩;obtain⟨p,hp⟩:∃p,m+h=p:=⟨_,rfl⟩;have hh1:lo<=h:=by omega
   have hh2:h<hi:=by omega
   have hhB:h<B.length:=by omega
   have hhalf:((m:Int)+(lo:Int)+((m:Int)+(hi:Int))) / 2=(p:Int):=by omega
   have v1:IntKind.i64.wrap ((m:Int)+(lo:Int)+((m:Int)+(hi:Int)))=(m:Int)+(lo:Int)+((m:Int)+(hi:Int)):=Nl _ (by omega);have v2:IntKind.u64.wrap ((m:Int)+(lo:Int)+((m:Int)+(hi:Int)))=(m:Int)+(lo:Int)+((m:Int)+(hi:Int)):=Qa _ (by omega);have hpN:(p:Int)<(N:Int):=by omega
   have hp0:(0:Int)<=(p:Int):=by omega
   have haN:(a:Int)<(N:Int):=by omega
   have ha0:(0:Int)<=(a:Int):=by omega
   obtain⟨hpl,hpe⟩:=mf (X:=X++[x]) (A:=B) (R:=Y) (a:=m) hhB (by simp[HA.out];omega);obtain⟨hql,hqe⟩:=mf (X:=X) (A:=[x]) (R:=B++Y) (t:=0) (a:=a) (by simp) HA.out;have hre:X++[x]++(B++Y)=X++([x]++(B++Y)):=by simp
   simp only[hre,hp]at hpl hpe;simp only[Nj,Ps]at hql hqe
   have HTA:Hid (∀W,Ext wr W->TwoAt W g p a B[h] x):=qh (fun W hx=>by
    have:=oz (HR.out.ext hx) hpl hql;rw[hpe,hqe]at this
    exact this)
   have HVB:Hid (V B[h]):=qh (HV.out _ (Ml hhB));have HCC:=qh (fun W ho=>HC.out W ho B[h] x HVB.out HVX.out);have HUP:Hid (lt B[h] x=true->LoAt lt x B (h+1) hi):=qh (fun e=>HLO.out.up HW.out HV.out HVX.out HSB.out hh2 hhB e);have HDN:Hid (lt B[h] x=false->LoAt lt x B lo h):=qh (fun e=>HLO.out.down HW.out HV.out HVX.out HSB.out hh1 hh2 hhB e);have HPM:Hid ((p:Int)=(m:Int)+(h:Int)∧(p:Int)+1=(m:Int)+((h+1:Nat):Int)):=qh ⟨by omega,by omega⟩;obtain⟨l,hl⟩:∃l,lt B[h] x=l:=⟨_,rfl⟩;rw[hl]at HCC HUP HDN;clear hpe hqe hpl hql hre hl hle hlen hp;generalize hux:B[h]=ux at *;obtain⟨c0,c1,c2,c3,c4,c5,c6,d0,d1,d2,d3,d4,d5,d6⟩:=HTA.out wr (iD _);obtain⟨x0,x1,x2,x3,x4,x5,x6⟩:=ux;obtain⟨y0,y1,y2,y3,y4,y5,y6⟩:=x;simp only at c0 c1 c2 c3 c4 c5 c6 d0 d1 d2 d3 d4 d5 d6;have HOD:Hid (Only g w wr.drew):=qh HO.out.drew;have HX1:Hid (Ext wr wr.drew):=qh (iD _).drew;go_wp2_with fail
   go_region_held3 (fun w'=>w'.cell? ⟨g,p*7,none⟩=some (.string (bs x0))∧w'.cell? ⟨g,p*7+1,none⟩=some (.string (bs x1))∧w'.cell? ⟨g,p*7+2,none⟩=some (.int .i64 x2)∧w'.cell? ⟨g,p*7+3,none⟩=some (.int .i64 x3)∧w'.cell? ⟨g,p*7+4,none⟩=some (.string (bs x4))∧w'.cell? ⟨g,p*7+5,none⟩=some (.string (bs x5))∧w'.cell? ⟨g,p*7+6,none⟩=some (.string (bs x6))∧w'.cell? ⟨g,a*7,none⟩=some (.string (bs y0))∧w'.cell? ⟨g,a*7+1,none⟩=some (.string (bs y1))∧w'.cell? ⟨g,a*7+2,none⟩=some (.int .i64 y2)∧w'.cell? ⟨g,a*7+3,none⟩=some (.int .i64 y3)∧w'.cell? ⟨g,a*7+4,none⟩=some (.string (bs y4))∧w'.cell? ⟨g,a*7+5,none⟩=some (.string (bs y5))∧w'.cell? ⟨g,a*7+6,none⟩=some (.string (bs y6)))
    (go_keep)
    ((((with_reducible refine(HCC.out _ HOD.out).mono ?_);rintro e w1⟨z,rfl,hz,hx1⟩);(replace HX1:=HX1.qt hx1);clear hx1;(obtain⟨e0,e1,e2,e3,e4,e5,e6,f0,f1,f2,f3,f4,f5,f6⟩:=HTA.out _ HX1.out);simp only at e0 e1 e2 e3 e4 e5 e6 f0 f1 f2 f3 f4 f5 f6))
   all_goals
    cases l
    ·go_wp2_with fail;exact⟨⟨lo,h,rfl,M6 (Value.int .i64) HPM.out.1,HDN.out rfl,HR.out.ext HX1.out,HO.out.ext HX1.out⟩,by simp[intOf];omega⟩
    ·go_wp2_with fail;exact⟨⟨h+1,hi,M6 (Value.int .i64) HPM.out.2,rfl,HUP.out rfl,HR.out.ext HX1.out,HO.out.ext HX1.out⟩,by simp[intOf];omega⟩
  ·have hs:hi=lo:=by omega
   subst hs;have hnlt:¬ ((m:Int)+(hi:Int)<(m:Int)+(hi:Int)):=by omega
   obtain⟨f1,f2⟩:=HLO.out.fin HW.out HV.out HVX.out HSB.out;have F:=qh (MC f1 f2);have hB1:(B.take hi).length=hi:=by rw[Mu];omega
   have HB1:=qh hB1;have HBB:Hid (X++([x]++(B++Y))=X++(x :: B.take hi++(B.drop hi++Y))):=qh (by simp only[MZ,ML];rw[←Mz (B.take hi),MP]);rw[HBB.out]at HR;have hLN:X.length+(1+(hi+((B.drop hi).length+Y.length)))=N:=by rw[←HN.out,MU];simp;omega
   clear f1 f2 HLO HSB HV HC HBB hB1;generalize B.take hi=B1 at *;generalize B.drop hi=B2 at *;obtain⟨R,hR⟩:∃R,B2++Y=R:=⟨_,rfl⟩;have HRB:=qh hR;have HLN:Hid (X.length+(1+(hi+R.length))=N):=qh (by rw[←hLN,←hR,Mp]);rw[hR]at HR;clear hR hLN HN;have hai:(m:Int)+(hi:Int)-1=(a:Int)+(hi:Int):=by omega
   have v3:IntKind.i64.wrap ((m:Int)+(hi:Int)-1)=(m:Int)+(hi:Int)-1:=Nl _ (by omega);go_wp2_with fail;go_loopw [13] (fun v wr=>∃t:Nat,t<=hi∧v = .int .i64 ((a:Int)+(t:Int))∧aE wr g cap (X++(B1.take t++x :: B1.drop t++R))∧Only g w wr) (fun v _=>a+hi-(intOf v).toNat)
   case atStart=>exact⟨0,by omega,by go_num,by simpa using HR.out,HO.out⟩
   case round =>
    clear HR HO;obtain⟨t,ht,rfl,hr,ho⟩:=hrel;have HR:=qh hr;have HO:=qh ho;clear hr ho;by_cases hth:t<hi
    ·have htB:t<B1.length:=by rw[HB1.out];exact hth
     obtain⟨p,hp⟩:∃p,a+t=p:=⟨_,rfl⟩;have hpI:(a:Int)+(t:Int)=(p:Int):=by omega
     rw[hpI];have hc1:(p:Int)<(m:Int)+(hi:Int)-1:=by omega
     have hpl:(X++B1.take t).length=p:=by rw[Mp,Mu,HA.out,HB1.out];omega
     obtain⟨h3,h4,e3,e4⟩:=rY (Q:=B1.drop (t+1)) (R:=R) (x:=B1[t]) (y:=x) hpl;have hst:=zT (Q:=B1.drop (t+1)) (R:=R) (x:=B1[t]) (y:=x) hpl;have hcur:X++(B1.take t++x :: B1.drop t++R)=X++(B1.take t++x :: B1[t] :: B1.drop (t+1)++R):=by rw[MR htB]
     have hnx:X++(B1.take t++B1[t] :: x :: B1.drop (t+1)++R)=X++(B1.take (t+1)++x :: B1.drop (t+1)++R):=by rw[Mo htB];simp only[Mz,MZ,ML]
     rw[hcur]at HR;rw[hnx]at hst
     have hlen2:(X++(B1.take t++x :: B1[t] :: B1.drop (t+1)++R)).length=N:=by
      rw[←hcur,←HLN.out,←HB1.out];simp;omega
     obtain⟨q,hq⟩:∃q,p+1=q:=⟨_,rfl⟩;simp only[hq]at h4 e4 hst;have hpq:(p:Int)+1=(q:Int):=by omega
     have hpN:(p:Int)<(N:Int):=by omega
     have hp0:(0:Int)<=(p:Int):=by omega
     have hqN:(q:Int)<(N:Int):=by omega
     have hq0:(0:Int)<=(q:Int):=by omega
     have HTA:Hid (TwoAt wr g p q x B1[t]):=qh (by
      have:=oz HR.out h3 h4;rw[e3,e4]at this
      exact this)
     have HS:=qh hst;have HP:=qh (MC h3 h4);have HTQ:Hid ((q:Int)=(a:Int)+((t+1:Nat):Int)):=qh (by omega);clear hst h3 h4 e3 e4 hcur hnx hlen2 hpl hpI hp;generalize B1[t]'htB=ub at *;obtain⟨c0,c1,c2,c3,c4,c5,c6,d0,d1,d2,d3,d4,d5,d6⟩:=HTA.out;have hfr:=fun m=>HR.out.frozen m
     obtain⟨x0,x1,x2,x3,x4,x5,x6⟩:=x;obtain⟨y0,y1,y2,y3,y4,y5,y6⟩:=ub;simp only at c0 c1 c2 c3 c4 c5 c6 d0 d1 d2 d3 d4 d5 d6;go_wp2_with fail;go_region
     have HRN:=(HR.out.setl HP.out.1 ⟨y0,y1,y2,y3,y4,y5,y6⟩).setl (k:=q) (by rw[MM];exact HP.out.2) ⟨x0,x1,x2,x3,x4,x5,x6⟩;have HON:=Only.sets (lotCells ⟨x0,x1,x2,x3,x4,x5,x6⟩) (q*7) _ _ (Only.sets (lotCells ⟨y0,y1,y2,y3,y4,y5,y6⟩) (p*7) _ _ HO.out);rw[HS.out]at HRN;have HRN':=qh HRN.drew;have HON':=qh HON.drew;clear HR HO HRN HON c0 c1 c2 c3 c4 c5 c6 d0 d1 d2 d3 d4 d5 d6 hfr HTA;go_wp2_with fail;exact⟨⟨t+1,by omega,M6 (Value.int .i64) HTQ.out,HRN'.out,HON'.out⟩,by simp[intOf];omega⟩
    ·have hte:t=hi:=by omega
     subst hte;have hc1:¬ ((a:Int)+(t:Int)<(m:Int)+(t:Int)-1):=by omega
     go_wp2_with fail;go_end0
     refine⟨rfl,⟨_,?_,F.out.1,F.out.2⟩,HO.out⟩;have:=HR.out;rw[←HRB.out,Mv (by rw[HB1.out];omega),Nt (by rw[HB1.out];omega)]at this
     simpa using this
theorem LK(lt:LotV->LotV->Bool)(V:LotV->Prop)(hw:WkOn lt V)(y:LotV)(vy:V y)(X A Y:List LotV)(hv:∀z ∈ A,V z)(sa:aJ lt A)(hA2:2<=A.length)(kf:Nat)(cb:Array Value)(ek:∀args w,(callFunc kf args).run prog w = .ok (.enter kf args) w)(g cap:Nat)(w:World)(hC:gO kf cb lt V g w)
  (hr:aE w g cap (X++(A++([y]++Y)))) (a m b N:Nat) (ha:X.length=a) (hm:a+A.length=m) (hb:m+1=b) (hN:(X++(A++([y]++Y))).length=N) (hn:N<=1000000) :
  Calls prog 308 #[.slice (some ⟨g,0,none⟩) N cap,.int .i64 a,.int .i64 m,.int .i64 b,.func (.func kf) #[] cb] w (jo lt X (A++[y]) Y g cap w):=by
 have HR0:=qh hr;have HW:=qh hw;have HV:=qh hv;have HVY:=qh vy;have HSA:=qh sa;have HC:=qh hC;have HA:=qh ha;have HN:=qh hN;have hbN:b<=N:=by simp at hN;omega
 have h1:((m:Int)-(a:Int) == 1)=false:=by rw[Mt];omega
 have h2:(b:Int)-(m:Int)=1:=by omega
 clear hr hw hv hC ha hN vy sa;go_enter func308,ntmps308;go_wp2_with fail;go_loopw [14,15,16] (fun i j _ wr=>∃lo hi:Nat,i = .int .i64 ((a:Int)+(lo:Int))∧j = .int .i64 ((a:Int)+(hi:Int))∧HiAt lt y A lo hi∧aE wr g cap (X++(A++([y]++Y)))∧Only g w wr) (fun i j _ _=>(intOf j).toNat-(intOf i).toNat)
 case atStart=>exact⟨0,A.length,by go_num,M6 (Value.int .i64) (by omega),HiAt.start y A,HR0.out,Mh _ _⟩
 case round =>
  clear HR0 h1 h2;obtain⟨lo,hi,rfl,rfl,hlo,hr,ho⟩:=hrel;have HR:=qh hr;have HO:=qh ho;have HLO:=qh hlo;have hle:=hlo.le;have hlen:=hlo.len;clear hr ho hlo;by_cases hlt:lo<hi
  ·have hlt1:(a:Int)+(lo:Int)<(a:Int)+(hi:Int):=by omega
   obtain⟨h,hh⟩:∃h,(lo+hi) / 2=h:=⟨_,rfl⟩;obtain⟨p,hp⟩:∃p,a+h=p:=⟨_,rfl⟩;have hh1:lo<=h:=by omega
   have hh2:h<hi:=by omega
   have hhB:h<A.length:=by omega
   have hhalf:((a:Int)+(lo:Int)+((a:Int)+(hi:Int))) / 2=(p:Int):=by omega
   have v1:IntKind.i64.wrap ((a:Int)+(lo:Int)+((a:Int)+(hi:Int)))=(a:Int)+(lo:Int)+((a:Int)+(hi:Int)):=Nl _ (by omega);have v2:IntKind.u64.wrap ((a:Int)+(lo:Int)+((a:Int)+(hi:Int)))=(a:Int)+(lo:Int)+((a:Int)+(hi:Int)):=Qa _ (by omega);have hpN:(p:Int)<(N:Int):=by omega
   have hp0:(0:Int)<=(p:Int):=by omega
   have haN:(m:Int)<(N:Int):=by omega
   have ha0:(0:Int)<=(m:Int):=by omega
   obtain⟨hpl,hpe⟩:=mf (X:=X) (A:=A) (R:=[y]++Y) (a:=a) hhB HA.out;obtain⟨hql,hqe⟩:=mf (X:=X++A) (A:=[y]) (R:=Y) (t:=0) (a:=m) (by simp) (by rw[Mp,HA.out];omega);have hre:X++A++([y]++Y)=X++(A++([y]++Y)):=by simp
   simp only[hp]at hpl hpe;simp only[hre,Nj,Ps]at hql hqe
   have HTA:Hid (∀W,Ext wr W->TwoAt W g m p y A[h]):=qh (fun W hx=>by
    have:=oz (HR.out.ext hx) hql hpl;rw[hpe,hqe]at this
    exact this)
   have HVB:Hid (V A[h]):=qh (HV.out _ (Ml hhB));have HCC:=qh (fun W ho=>HC.out W ho y A[h] HVY.out HVB.out);have HUP:Hid (lt y A[h]=false->HiAt lt y A (h+1) hi):=qh (fun e=>HLO.out.up HW.out HV.out HVY.out HSA.out hh2 hhB e);have HDN:Hid (lt y A[h]=true->HiAt lt y A lo h):=qh (fun e=>HLO.out.down HW.out HV.out HVY.out HSA.out hh1 hh2 hhB e);have HPM:Hid ((p:Int)=(a:Int)+(h:Int)∧(p:Int)+1=(a:Int)+((h+1:Nat):Int)):=qh ⟨by omega,by omega⟩;obtain⟨l,hl⟩:∃l,lt y A[h]=l:=⟨_,rfl⟩;rw[hl]at HCC HUP HDN;clear hpe hqe hpl hql hre hl hle hlen hp;generalize hux:A[h]=ux at *;obtain⟨c0,c1,c2,c3,c4,c5,c6,d0,d1,d2,d3,d4,d5,d6⟩:=HTA.out wr (iD _);obtain⟨x0,x1,x2,x3,x4,x5,x6⟩:=y;obtain⟨y0,y1,y2,y3,y4,y5,y6⟩:=ux;simp only at c0 c1 c2 c3 c4 c5 c6 d0 d1 d2 d3 d4 d5 d6;have HOD:Hid (Only g w wr.drew):=qh HO.out.drew;have HX1:Hid (Ext wr wr.drew):=qh (iD _).drew;go_wp2_with fail
   go_region_held3 (fun w'=>w'.cell? ⟨g,m*7,none⟩=some (.string (bs x0))∧w'.cell? ⟨g,m*7+1,none⟩=some (.string (bs x1))∧w'.cell? ⟨g,m*7+2,none⟩=some (.int .i64 x2)∧w'.cell? ⟨g,m*7+3,none⟩=some (.int .i64 x3)∧w'.cell? ⟨g,m*7+4,none⟩=some (.string (bs x4))∧w'.cell? ⟨g,m*7+5,none⟩=some (.string (bs x5))∧w'.cell? ⟨g,m*7+6,none⟩=some (.string (bs x6))∧w'.cell? ⟨g,p*7,none⟩=some (.string (bs y0))∧w'.cell? ⟨g,p*7+1,none⟩=some (.string (bs y1))∧w'.cell? ⟨g,p*7+2,none⟩=some (.int .i64 y2)∧w'.cell? ⟨g,p*7+3,none⟩=some (.int .i64 y3)∧w'.cell? ⟨g,p*7+4,none⟩=some (.string (bs y4))∧w'.cell? ⟨g,p*7+5,none⟩=some (.string (bs y5))∧w'.cell? ⟨g,p*7+6,none⟩=some (.string (bs y6)))
    (go_keep)
    ((((with_reducible refine(HCC.out _ HOD.out).mono ?_);rintro e w1⟨z,rfl,hz,hx1⟩);(replace HX1:=HX1.qt hx1);clear hx1;(obtain⟨e0,e1,e2,e3,e4,e5,e6,f0,f1,f2,f3,f4,f5,f6⟩:=HTA.out _ HX1.out);simp only at e0 e1 e2 e3 e4 e5 e6 f0 f1 f2 f3 f4 f5 f6))
   all_goals
    cases l
    ·go_wp2_with fail;exact⟨⟨h+1,hi,M6 (Value.int .i64) HPM.out.2,rfl,HUP.out rfl,HR.out.ext HX1.out,HO.out.ext HX1.out⟩,by simp[intOf];omega⟩
    ·go_wp2_with fail;exact⟨⟨lo,h,rfl,M6 (Value.int .i64) HPM.out.1,HDN.out rfl,HR.out.ext HX1.out,HO.out.ext HX1.out⟩,by simp[intOf];omega⟩
  ·have hs:hi=lo:=by omega
   subst hs;have hnlt:¬ ((a:Int)+(hi:Int)<(a:Int)+(hi:Int)):=by omega
   obtain⟨f1,f2⟩:=HLO.out.fin HW.out HV.out HVY.out HSA.out;have F:=qh (MC f1 f2);have hB1:(A.take hi).length=hi:=by rw[Mu];omega
   have hB2:(A.drop hi).length=A.length-hi:=MU ..;have HB1:=qh hB1;have HBB:Hid (X++(A++([y]++Y))=X++(A.take hi++A.drop hi++y :: []++Y)):=qh (by rw[MP];simp);rw[HBB.out]at HR;clear f1 f2 HLO HSA HV HC HBB hB1;generalize A.take hi=A1 at *;generalize A.drop hi=A2 at *;obtain⟨e,he⟩:∃e,A2.length=e:=⟨_,rfl⟩;have hme:m=a+hi+e:=by omega
   have HE2:=qh he;clear he hB2;go_wp2_with fail;go_loopw [17] (fun v wr=>∃t:Nat,t<=e∧v = .int .i64 ((a:Int)+(hi:Int)+(t:Int))∧aE wr g cap (X++(A1++A2.take t++y :: A2.drop t++Y))∧Only g w wr) (fun v _=>(intOf v).toNat)
   case atStart=>exact⟨e,by omega,M6 (Value.int .i64) (by omega),by rw[←HE2.out,MK,O9];exact HR.out,HO.out⟩
   case round =>
    clear HR HO;obtain⟨t,ht,rfl,hr,ho⟩:=hrel;have HR:=qh hr;have HO:=qh ho;clear hr ho;by_cases hth:t=0
    ·subst hth;have hc1:¬ ((a:Int)+(hi:Int)<(a:Int)+(hi:Int)+0):=by omega
     have hc2:((0:Nat):Int)=0:=rfl;rw[hc2];go_wp2_with fail;go_end0
     refine⟨rfl,⟨_,?_,F.out.1,F.out.2⟩,HO.out⟩;have:=HR.out;simpa using this
    ·obtain⟨s,rfl⟩:∃s,t=s+1:=⟨t-1,by omega⟩;have htB:s<A2.length:=by rw[HE2.out];omega
     obtain⟨p,hp⟩:∃p,a+hi+s=p:=⟨_,rfl⟩;obtain⟨q,hq⟩:∃q,p+1=q:=⟨_,rfl⟩;have hqI:(a:Int)+(hi:Int)+((s+1:Nat):Int)=(q:Int):=by omega
     rw[hqI];have hc1:(a:Int)+(hi:Int)<(q:Int):=by omega
     have hpl:(X++(A1++A2.take s)).length=p:=by rw[Mp,Mp,Mu,HA.out,HB1.out,HE2.out];omega
     obtain⟨h3,h4,e3,e4⟩:=rY (Q:=A2.drop (s+1)) (R:=Y) (x:=y) (y:=A2[s]) hpl;have hst:=pJ (Q:=A2.drop (s+1)) (R:=Y) (x:=y) (y:=A2[s]) hpl;have hcur:X++(A1++A2.take (s+1)++y :: A2.drop (s+1)++Y)=X++(A1++A2.take s++A2[s] :: y :: A2.drop (s+1)++Y):=by rw[Mo htB];simp only[Mz,MZ,ML]
     have hnx:X++(A1++A2.take s++y :: A2[s] :: A2.drop (s+1)++Y)=X++(A1++A2.take s++y :: A2.drop s++Y):=by rw[MR htB]
     have hlen2:(X++(A1++A2.take (s+1)++y :: A2.drop (s+1)++Y)).length=N:=by
      have hN:=HN.out;simp only[Mp,MG,Mu,MU,Ns,HA.out,HB1.out,HE2.out]at hN ⊢;omega
     rw[hcur]at HR hlen2;rw[hnx]at hst;simp only[hq]at h4 e4 hst;have v1:IntKind.i64.wrap ((q:Int)-1)=(q:Int)-1:=Nl _ (by omega);have v2:((q:Int)-1).toNat=p:=by omega
     have v3:(0:Int)<=(q:Int)-1:=by omega
     have v4:(1:Int)<=(q:Int):=by omega
     have v5:(q:Int)-1<(N:Int):=by omega
     have hpN:(p:Int)<(N:Int):=by omega
     have hp0:(0:Int)<=(p:Int):=by omega
     have hqN:(q:Int)<(N:Int):=by omega
     have hq0:(0:Int)<=(q:Int):=by omega
     have HTA:Hid (TwoAt wr g p q A2[s] y):=qh (by
      have:=oz HR.out h3 h4;rw[e3,e4]at this
      exact this)
     have HS:=qh hst;have HP:=qh (MC h3 h4);have HTQ:Hid ((q:Int)-1=(a:Int)+(hi:Int)+(s:Int)):=qh (by omega);clear hst h3 h4 e3 e4 hcur hnx hlen2 hpl hqI hp;generalize A2[s]'htB=ub at *;obtain⟨c0,c1,c2,c3,c4,c5,c6,d0,d1,d2,d3,d4,d5,d6⟩:=HTA.out;have hfr:=fun m=>HR.out.frozen m
     obtain⟨x0,x1,x2,x3,x4,x5,x6⟩:=ub;obtain⟨y0,y1,y2,y3,y4,y5,y6⟩:=y;simp only at c0 c1 c2 c3 c4 c5 c6 d0 d1 d2 d3 d4 d5 d6;go_wp2_with fail;go_region
     have HRN:=(HR.out.setl HP.out.2 ⟨x0,x1,x2,x3,x4,x5,x6⟩).setl (k:=p) (by rw[MM];exact HP.out.1) ⟨y0,y1,y2,y3,y4,y5,y6⟩;have HON:=Only.sets (lotCells ⟨y0,y1,y2,y3,y4,y5,y6⟩) (p*7) _ _ (Only.sets (lotCells ⟨x0,x1,x2,x3,x4,x5,x6⟩) (q*7) _ _ HO.out);rw[HS.out]at HRN;have HRN':=qh HRN.drew;have HON':=qh HON.drew;clear HR HO HRN HON c0 c1 c2 c3 c4 c5 c6 d0 d1 d2 d3 d4 d5 d6 hfr HTA;go_wp2_with fail;exact⟨⟨s,by omega,M6 (Value.int .i64) HTQ.out,HRN'.out,HON'.out⟩,by simp[intOf];omega⟩
end
end Go.Proofs.YtaegjkllenlfpaaGreatDoor
