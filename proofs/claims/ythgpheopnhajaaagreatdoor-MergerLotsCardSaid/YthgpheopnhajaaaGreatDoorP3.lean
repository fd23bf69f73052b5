/- The seat's texts, part P3. -/
import Derived.Test.YthgpheopnhajaaaGreatDoorP0
import Derived.Test.YthgpheopnhajaaaGreatDoorP1
import Derived.Test.YthgpheopnhajaaaGreatDoorP2
import Derived.Laws.MakeOwn
import Derived.Laws.IdiomCopy
import Derived.Deep.RegionHeld3
import Derived.Lib.AppendIntMem
set_option maxRecDepth 100000
set_option maxHeartbeats 8000000
namespace Go.Proofs.YthgpheopnhajaaaGreatDoor
section
open Go.RowKit
attribute [local go_sem] size_bs toList_bs
def j7(n:Nat)(w:World)(e:Ending)(w':World):Prop :=
 ∃A c,e = .returned (.slice A (gr n).length c)∧RdU w' A (gr n)∧Ext w w'∧(gr n).length≤c∧c≤maxLen
theorem wQ{x y:Nat}(h:y≤x):cutL ((List.range (gr x).length).map (mi (at0 (gr x)) (at0 (gr y))))=gr (x-y):=by
 have hl:(gr y).length≤(gr x).length:=by
  rcases Nat.lt_or_ge (gr x).length (gr y).length with h1|h1
  ·have:=jQ h1;omega
  ·exact h1
 have ha:=at0_bd (gr_lt x);have hb:=at0_bd (gr_lt y);have e1:gsum (at0 (gr x)) (gr x).length=x:=by rw[←gval_gsum _ _ (Nat.le_refl _),cG]
 have e2:gsum (at0 (gr y)) (gr x).length=y:=by rw[←gval_gsum _ _ hl,cG]
 rw[cutL_gr (by intro g hg;obtain⟨k,_,rfl⟩:=List.mem_map.1 hg;exact vm ha hb k),lZ,wL ha hb (by rw[e1,e2];exact h),e1,e2]
theorem aH.put{w:World}{g cap:Nat}{gs:List Nat}(h:aH w g cap gs)(k:Nat)(z:Int)(x:Nat)(hk:k<gs.length)(hz:z=(x:Int)):aH (w.setCell ⟨g,k,none⟩ (.int .u64 z)) g cap (gs.set k x):=by
 subst hz;exact h.set_ k x hk
theorem aH.step1{w:World}{g cap:Nat}{gs:List Nat}{f:Nat→Nat}{k:Nat}(h:aH w g cap (mixed f gs k))(hk:k<gs.length)(z:Int)(hz:z=(f k:Nat)):aH (w.setCell ⟨g,k,none⟩ (.int .u64 z)) g cap (mixed f gs (k+1)):=by
 rw[←kK f gs k hk];exact h.put k z (f k) (by rw[mH f gs k (by omega)];exact hk) hz
theorem aH.step2{w:World}{g cap:Nat}{gs:List Nat}{f:Nat→Nat}{k:Nat}(h:aH w g cap (mixed f gs k))(hk:k<gs.length)(z1 z:Int)(u:Nat)(h1:z1=(u:Int))(hz:z=(f k:Nat)):aH ((w.setCell ⟨g,k,none⟩ (.int .u64 z1)).setCell ⟨g,k,none⟩ (.int .u64 z)) g cap (mixed f gs (k+1)):=by
 have hl:k<(mixed f gs k).length:=by rw[mH f gs k (by omega)];exact hk
 have:=(h.put k z1 u hl h1).put k z (f k) (by rw[List.length_set];exact hl) hz;rw[List.set_set,kK f gs k hk]at this;exact this
theorem nW(x y:Nat)(hle:y≤x)(A A':Option Addr)(c c':Nat)(w:World)(hA:RdU w A (gr x))(hA':RdU w A' (gr y))(hn:(gr x).length≤1000000)(_hn':(gr y).length≤1000000) :
  Calls Tryz.prog 134 #[.slice A (gr x).length c,.slice A' (gr y).length c'] w (j7 (x-y) w):=by
 have HA:=qh hA;have HA':=qh hA';have HCM:=qh (wQ hle);have HBX:=qh (at0_bd (gr_lt x));have HBY:=qh (at0_bd (gr_lt y));have HZX:Hid (gr x=[]→x-y=0):=qh (fun h=>by have:x=0:=iv (by rw[h,gr_zero]);omega);generalize x-y=d at *;generalize gr x=gx at *;generalize gr y=gy at *;clear hA hA' hle;go_enter Tryz.func134,Tryz.ntmps134;go_wp2_with fail;refine(Dg gx A c _ HA.out hn).mono ?_;rintro e w1⟨A1,c1,rfl,hown,hx1⟩;rcases Nat.eq_zero_or_pos gx.length with h0|h0
 ·have h1:gx=[]:=List.length_eq_zero_iff.1 h0;subst h1;have HD:Hid (gr d=[]):=qh (by rw[HZX.out rfl,gr_zero]);have HOW:=qh (fD hown);have HX1:=qh hx1;have HRD:=qh (show RdU w1 A1 [] from Reads.own hown);clear hown hx1 h0;simp only[List.length_nil]at *;go_wp2_with fail;go_loopw [13,6,7,8] (fun i _ _ _ wr=>i = .int .i64 0∧wr=w1) (fun _ _ _ _ _=>0)
  case atStart=>exact⟨rfl,rfl⟩
  case round =>
   obtain⟨rfl,rfl⟩:=hrel;go_wp2_with fail;refine(intCut [] A1 c1 _ HRD.out HOW.out.1 HOW.out.2 (by simp)).mono ?_;rintro e w9⟨rfl,rfl⟩;go_wp2_with fail;go_ret;exact⟨A1,c1,by rw[HD.out];rfl,by rw[HD.out];exact HRD.out,HX1.out,by rw[HD.out];simp,HOW.out.2⟩
 ·obtain⟨g,cap,e1,hg,hlt⟩:=hown.form h0;injection e1 with e1 _ e3
  subst e1;subst e3;obtain⟨hgb,cur,hrow⟩:=Row.of_own hown;have HROW:Hid (aH w1 g c1 (mixed (mi (at0 gx) (at0 gy)) gx 0)):=qh (by rw[l6];exact⟨cur,hrow⟩);have HX1:=qh hx1;clear hrow hown hx1;go_wp2_with fail;go_loopw [13,6,7,8] (fun i bo _ _ wr=>∃k:Nat,k≤gx.length∧i = .int .i64 k∧bo = .int .u64 (bw (at0 gx) (at0 gy) k:Nat)∧aH wr g c1 (mixed (mi (at0 gx) (at0 gy)) gx k)∧Ext w wr) (fun i _ _ _ _=>gx.length-(intOf i).toNat)
  case atStart=>exact⟨0,by omega,rfl,rfl,HROW.out,HX1.out⟩
  case round =>
   obtain⟨k,hk,rfl,rfl,hrow,hx⟩:=hrel;have HR:=qh hrow;have HX:=qh hx;clear hrow hx;by_cases hlt2:k<gx.length
   ·have hcell:=HR.out.cell (nV (mi (at0 gx) (at0 gy)) gx k hlt2);have hfz:=HR.out.frozen k;have hax:=HBX.out k;have hby:=HBY.out k;have hbw:=rK (at0 gx) (at0 gy) k;have HST:=qh (kK (mi (at0 gx) (at0 gy)) gx k hlt2);have HMI:Hid (mi (at0 gx) (at0 gy) k=if at0 gx k<at0 gy k+bw (at0 gx) (at0 gy) k then at0 gx k+B9-(at0 gy k+bw (at0 gx) (at0 gy) k) else at0 gx k-(at0 gy k+bw (at0 gx) (at0 gy) k)):=qh rfl;have HBW:Hid (bw (at0 gx) (at0 gy) (k+1)=if at0 gx k<at0 gy k+bw (at0 gx) (at0 gy) k then 1 else 0):=qh rfl;rw[←at0_lt hlt2]at hcell;have e9:B9=1000000000:=rfl;rw[e9]at hax hby;clear e9;by_cases hk2:k<gy.length
    ·obtain⟨b,o,rfl,hbb,hcy⟩:=(HA'.out.ext HX.out).at_ hk2;rw[←at0_lt hk2]at hcy;generalize hpa:at0 gx k=p at *;generalize hqa:at0 gy k=q at *;generalize hra:bw (at0 gx) (at0 gy) k=r at *;clear hpa hqa hra;by_cases hlt3:(p:Int)<(r:Int)+(q:Int)
     ·have HZ:Hid ((p:Int)+1000000000-((r:Int)+(q:Int))=(mi (at0 gx) (at0 gy) k:Nat)):=qh (by rw[HMI.out,if_pos (by omega),show B9=1000000000 from rfl];omega);have HB1:Hid (bw (at0 gx) (at0 gy) (k+1)=1):=qh (by rw[HBW.out,if_pos (by omega)]);go_wp2_with fail;exact⟨⟨k+1,by omega,by go_num,by rw[HB1.out];rfl,aH.step2 HR.out hlt2 _ _ (p+1000000000) (by omega) HZ.out,(HX.out.setCell (p:=⟨g,k,none⟩) hgb _).setCell (p:=⟨g,k,none⟩) hgb _⟩,by simp[intOf];omega⟩
     ·have HZ:Hid ((p:Int)-((r:Int)+(q:Int))=(mi (at0 gx) (at0 gy) k:Nat)):=qh (by rw[HMI.out,if_neg (by omega)];omega);have HB1:Hid (bw (at0 gx) (at0 gy) (k+1)=0):=qh (by rw[HBW.out,if_neg (by omega)]);go_wp2_with fail;exact⟨⟨k+1,by omega,by go_num,by rw[HB1.out];rfl,aH.step1 HR.out hlt2 _ HZ.out,HX.out.setCell (p:=⟨g,k,none⟩) hgb _⟩,by simp[intOf];omega⟩
    ·have hq0:at0 gy k=0:=at0_ge (by omega);rw[hq0]at HMI HBW hby;generalize hpa:at0 gx k=p at *;generalize hra:bw (at0 gx) (at0 gy) k=r at *;clear hpa hra hq0;by_cases hlt3:(p:Int)<(r:Int)
     ·have HZ:Hid ((p:Int)+1000000000-((r:Int))=(mi (at0 gx) (at0 gy) k:Nat)):=qh (by rw[HMI.out,if_pos (by omega),show B9=1000000000 from rfl];omega);have HB1:Hid (bw (at0 gx) (at0 gy) (k+1)=1):=qh (by rw[HBW.out,if_pos (by omega)]);go_wp2_with fail;exact⟨⟨k+1,by omega,by go_num,by rw[HB1.out];rfl,aH.step2 HR.out hlt2 _ _ (p+1000000000) (by omega) HZ.out,(HX.out.setCell (p:=⟨g,k,none⟩) hgb _).setCell (p:=⟨g,k,none⟩) hgb _⟩,by simp[intOf];omega⟩
     ·have HZ:Hid ((p:Int)-((r:Int))=(mi (at0 gx) (at0 gy) k:Nat)):=qh (by rw[HMI.out,if_neg (by omega)];omega);have HB1:Hid (bw (at0 gx) (at0 gy) (k+1)=0):=qh (by rw[HBW.out,if_neg (by omega)]);go_wp2_with fail;exact⟨⟨k+1,by omega,by go_num,by rw[HB1.out];rfl,aH.step1 HR.out hlt2 _ HZ.out,HX.out.setCell (p:=⟨g,k,none⟩) hgb _⟩,by simp[intOf];omega⟩
   ·have hkl:k=gx.length:=by omega
    have HRD:=qh (show RdU wr (some ⟨g,0,none⟩) ((List.range gx.length).map (mi (at0 gx) (at0 gy))) by have:=HR.out.reads;rw[hkl,kL]at this;exact this);have HCP:=qh (show((List.range gx.length).map (mi (at0 gx) (at0 gy))).length≤c1∧c1≤maxLen by have:=HR.out.caps;rw[hkl,kL]at this;exact this);have HML:Hid (∀z ∈ (List.range gx.length).map (mi (at0 gx) (at0 gy)),z<B9):=qh (by intro z hz;obtain⟨j,_,rfl⟩:=List.mem_map.1 hz;exact vm HBX.out HBY.out j);have hll:((List.range gx.length).map (mi (at0 gx) (at0 gy))).length=gx.length:=by simp
    have HCUT:=qh (fun W (hW:RdU W (some ⟨g,0,none⟩) _)=>intCut ((List.range gx.length).map (mi (at0 gx) (at0 gy))) (some ⟨g,0,none⟩) c1 W hW HCP.out.1 HCP.out.2 HML.out);rw[hll,HCM.out]at HCUT;have HPR:=qh (eJ ((List.range gx.length).map (mi (at0 gx) (at0 gy))));have HLE:=qh (lG ((List.range gx.length).map (mi (at0 gx) (at0 gy))));rw[HCM.out]at HPR HLE;clear hll hkl;generalize (List.range gx.length).map (mi (at0 gx) (at0 gy))=fin at *;go_wp2_with fail;refine(HCUT.out _ HRD.out).mono ?_;rintro e w9⟨rfl,rfl⟩;go_wp2_with fail;go_ret;exact⟨some ⟨g,0,none⟩,c1,rfl,by rw[HPR.out];exact HRD.out.take _,HX.out,by have:=HCP.out.1;have:=HLE.out;omega,HCP.out.2⟩
end
section
open Go.RowKit
attribute [local go_sem] size_bs toList_bs
theorem jq{x y:Nat}(h:x≤y):(gr x).length≤(gr y).length:=by
 rcases Nat.lt_or_ge (gr y).length (gr x).length with h1|h1
 ·have:=jQ h1;omega
 ·exact h1
theorem uz{x y:Nat}(hl:(gr y).length≤(gr x).length)(hc:cy (at0 (gr x)) (at0 (gr y)) (gr x).length=0):(List.range (gr x).length).map (pl (at0 (gr x)) (at0 (gr y)))=gr (x+y):=by
 have e1:gsum (at0 (gr x)) (gr x).length=x:=by rw[←gval_gsum _ _ (Nat.le_refl _),cG]
 have e2:gsum (at0 (gr y)) (gr x).length=y:=by rw[←gval_gsum _ _ hl,cG]
 have hs:=rX (at0 (gr x)) (at0 (gr y)) (gr x).length;rw[hc,e1,e2,Nat.zero_mul,Nat.add_zero]at hs
 have hcut:cutL ((List.range (gr x).length).map (pl (at0 (gr x)) (at0 (gr y))))=gr (x+y):=by
  rw[cutL_gr (by intro g hg;obtain⟨k,_,rfl⟩:=List.mem_map.1 hg;exact Bc _ _ k),lZ,hs]
 have hp:=eJ ((List.range (gr x).length).map (pl (at0 (gr x)) (at0 (gr y))));rw[hcut]at hp;have hlen:=jq (show x≤x+y by omega);rw[List.take_of_length_le (by simp;exact hlen)]at hp;exact hp.symm
theorem sB{x y:Nat}(hl:(gr y).length≤(gr x).length)(hc:cy (at0 (gr x)) (at0 (gr y)) (gr x).length≠0):(List.range (gr x).length).map (pl (at0 (gr x)) (at0 (gr y)))++[cy (at0 (gr x)) (at0 (gr y)) (gr x).length]=gr (x+y):=by
 have e1:gsum (at0 (gr x)) (gr x).length=x:=by rw[←gval_gsum _ _ (Nat.le_refl _),cG]
 have e2:gsum (at0 (gr y)) (gr x).length=y:=by rw[←gval_gsum _ _ hl,cG]
 have hs:=rX (at0 (gr x)) (at0 (gr y)) (gr x).length;rw[e1,e2]at hs;have hb:=vj (at0_bd (gr_lt x)) (at0_bd (gr_lt y)) (gr x).length
 have hg:gval ((List.range (gr x).length).map (pl (at0 (gr x)) (at0 (gr y)))++[cy (at0 (gr x)) (at0 (gr y)) (gr x).length])=x+y:=by
  rw[gval_snoc,lZ,List.length_map,List.length_range,hs]
 rw[←hg];symm;apply uw
 ·intro g hg;rcases List.mem_append.1 hg with h|h
  ·obtain⟨k,_,rfl⟩:=List.mem_map.1 h;exact Bc _ _ k
  ·simp at h;subst h;have:(1:Nat)<B9:=by decide
   omega
 ·intro r g e;have:=List.append_inj' e rfl;simp at this;rw[←this.2];exact hc
theorem aH.drew{w:World}{g cap:Nat}{gs:List Nat}(h:aH w g cap gs):aH w.drew g cap gs:=by obtain⟨cur,h⟩:=h;exact⟨cur,h.drew⟩
theorem aH.step3{w:World}{g cap:Nat}{gs:List Nat}{f:Nat→Nat}{k:Nat}(h:aH w g cap (mixed f gs k))(hk:k<gs.length)(z1 z2 z:Int)(u1 u2:Nat)(h1:z1=(u1:Int))(h2:z2=(u2:Int))(hz:z=(f k:Nat)) :
  aH ((((w.setCell ⟨g,k,none⟩ (.int .u64 z1)).setCell ⟨g,k,none⟩ (.int .u64 z2)).setCell ⟨g,k,none⟩ (.int .u64 z)).drew) g cap (mixed f gs (k+1)):=by
 have hl:k<(mixed f gs k).length:=by rw[mH f gs k (by omega)];exact hk
 have:=((h.put k z1 u1 hl h1).put k z2 u2 (by rw[List.length_set];exact hl) h2).put k z (f k) (by rw[List.length_set,List.length_set];exact hl) hz;rw[List.set_set,List.set_set,kK f gs k hk]at this;exact this.drew
theorem wR(x y:Nat)(A A':Option Addr)(c c':Nat)(w:World)(hl:(gr y).length≤(gr x).length)(hA:RdU w A (gr x))(hA':RdU w A' (gr y))(hn:(gr x).length≤1000000) :
  Calls Tryz.prog 133 #[.slice A (gr x).length c,.slice A' (gr y).length c'] w (j7 (x+y) w):=by
 have HA:=qh hA;have HA':=qh hA';have HN:=qh (fun h=>uz (x:=x) (y:=y) hl h);have HY:=qh (fun h=>sB (x:=x) (y:=y) hl h);have HBX:=qh (at0_bd (gr_lt x));have HBY:=qh (at0_bd (gr_lt y));generalize x+y=d at *;generalize gr x=gx at *;generalize gr y=gy at *;clear hA hA';obtain⟨i0,hI,hz0,hz1,hz2⟩:=info_parts j6;have hsz:(Tryz.prog.info? 183).map (·.size)=some 1:=by rw[hI];simp[hz1]
 have hlt:¬ gx.length<gy.length:=by omega
 obtain⟨ROW,hRW,hmk⟩:∃ROW:List Value,ROW.length=gx.length+1∧(Instr.makeSlice 122 (.int .i64 (gx.length:Int)) (.int .i64 ((gx.length:Int)+1))).run Tryz.prog w = .ok (.slice (some ⟨w.heap.size,0,none⟩) gx.length (gx.length+1)) (w.alloc (.cells ROW.toArray 183)):=by
  have h:=run_make (P:=Tryz.prog) w 122 183 i0 _ Tryz.underlying122 hI hz0 .i64 .i64 (gx.length:Int) ((gx.length:Int)+1) (by omega) (by omega) (by rw[hz2];omega) (by omega);rw[hz1,show((gx.length:Int)+1).toNat=gx.length+1 by omega,Int.toNat_natCast]at h;exact⟨(madeCells (Value.int .u64 0).cells ((gx.length+1)*1)).toList,by rw[Array.length_toList,size_madeCells];simp,by rw[Array.toArray_toList];exact h⟩
 have hR0:Row (w.alloc (.cells ROW.toArray 183)) w.heap.size 183 1 0 (gx.length+1) [] ROW:=⟨Blk.new w _ _,rfl,Nat.zero_le _,by unfold maxLen;omega,by rw[hRW];simp,by simp⟩;have hul:(ucells gx).length=gx.length:=by simp[ucells]
 have hR1:Row ((w.alloc (.cells ROW.toArray 183)).setCells w.heap.size 0 (ucells gx)) w.heap.size 183 1 gx.length (gx.length+1) (ucells gx) (aW ROW 0 (ucells gx)):=hR0.put _ _ (by rw[hul];omega) (by omega) (by rw[hul];simp) (by unfold aW;simp[ucells])
 have hcp:∀ty,(Builtin.copy_ #[122,122] ty #[.slice (some ⟨w.heap.size,0,none⟩) gx.length (gx.length+1),.slice A gx.length c]).run Tryz.prog (w.alloc (.cells ROW.toArray 183)) = .ok (goInt (gx.length:Nat)) ((w.alloc (.cells ROW.toArray 183)).setCells w.heap.size 0 (ucells gx)):=fun ty=>by
  rcases Nat.eq_zero_or_pos gx.length with h0|h0
  ·have h1:gx=[]:=List.length_eq_zero_iff.1 h0;subst h1;exact run_copy_none _ _ _ ty 183 _ _ _ _ _ _ Tryz.underlying122 hsz rfl
  ·obtain⟨b,o,rfl,hb,hc⟩:=HA.out.2 h0
   exact gh _ _ _ ty 183 1 w.heap.size 0 gx.length (gx.length+1) ⟨b,o,none⟩ gx.length c (ucells gx) Tryz.underlying122 hsz gx.length (Nat.min_self _) (by rw[hul];simp)
    (fun j v hj=>by rw[Addr.add_lit];exact((Ext.new w _).cell (p:=⟨b,o+j,none⟩) hb).trans (hc j v hj))
    (fun j hj=>hR0.isSome_ (by rw[hul]at hj;omega)) (fun j _=>hR0.frozen _) (yS gx)
 have HROW:Hid (aH ((w.alloc (.cells ROW.toArray 183)).setCells w.heap.size 0 (ucells gx)) w.heap.size (gx.length+1) (mixed (pl (at0 gx) (at0 gy)) gx 0)):=qh (by rw[l6];exact⟨_,hR1⟩);have HX1:Hid (Ext w ((w.alloc (.cells ROW.toArray 183)).setCells w.heap.size 0 (ucells gx))):=qh (cV _ _ _ () (Ext.new _ _) (Nat.le_refl _));have HI:=qh hI;clear hR0 hR1 hRW hul hsz hI;generalize ucells gx=ucs at *;go_enter Tryz.func133,Tryz.ntmps133;go_wp2_with fail;generalize (w.alloc (.cells ROW.toArray 183)).setCells w.heap.size 0 ucs=W0 at *;clear hcp hmk;go_loopw [26,6,7] (fun i ca _ wr=>∃k:Nat,k≤gx.length∧i = .int .i64 k∧ca = .int .u64 (cy (at0 gx) (at0 gy) k:Nat)∧aH wr w.heap.size (gx.length+1) (mixed (pl (at0 gx) (at0 gy)) gx k)∧Ext w wr) (fun i _ _ _=>gx.length-(intOf i).toNat)
 case atStart=>exact⟨0,by omega,rfl,rfl,HROW.out,HX1.out⟩
 case round =>
  obtain⟨k,hk,rfl,rfl,hrow,hx⟩:=hrel;have HR:=qh hrow;have HX:=qh hx;clear hrow hx;by_cases hlt2:k<gx.length
  ·have hcell:=HR.out.cell (nV (pl (at0 gx) (at0 gy)) gx k hlt2);have hfz:=HR.out.frozen k;have hgl:=HR.out.lt;have hax:=HBX.out k;have hby:=HBY.out k;have hcy:=vj HBX.out HBY.out k;have HPL:Hid (pl (at0 gx) (at0 gy) k=(at0 gx k+at0 gy k+cy (at0 gx) (at0 gy) k) % B9):=qh rfl;have HCY:Hid (cy (at0 gx) (at0 gy) (k+1)=(at0 gx k+at0 gy k+cy (at0 gx) (at0 gy) k) / B9):=qh rfl;rw[←at0_lt hlt2]at hcell;have e9:B9=1000000000:=rfl;rw[e9]at hax hby HPL HCY;clear e9;by_cases hk2:k<gy.length
   ·obtain⟨b,o,rfl,hb0,hcy1⟩:=HA'.out.at_ hk2;have hcb:=(HX.out.cell (p:=⟨b,o+k,none⟩) hb0).trans hcy1;have hbg:b≠w.heap.size:=by omega
    have hbg':w.heap.size≠b:=by omega
    rw[←at0_lt hk2]at hcb;generalize hpa:at0 gx k=p at *;generalize hqa:at0 gy k=q at *;generalize hra:cy (at0 gx) (at0 gy) k=r at *;clear hpa hqa hra hcy1;have HC1:Hid (((p:Int)+(r:Int)+(q:Int)) / 1000000000=(cy (at0 gx) (at0 gy) (k+1):Nat)):=qh (by rw[HCY.out];omega);have HP1:Hid (((p:Int)+(r:Int)+(q:Int)) % 1000000000=(pl (at0 gx) (at0 gy) k:Nat)):=qh (by rw[HPL.out];omega);go_wp2_with fail;go_region
    go_wp2_with fail;refine⟨⟨k+1,by omega,by go_num,by rw[HC1.out],?_,?_⟩,by simp[intOf];omega⟩
    ·exact aH.step3 HR.out hlt2 _ _ _ (p+r) (p+r+q) (by omega) (by omega) HP1.out
    ·exact(((HX.out.setCell (p:=⟨w.heap.size,k,none⟩) (Nat.le_refl _) _).setCell (p:=⟨w.heap.size,k,none⟩) (Nat.le_refl _) _).setCell (p:=⟨w.heap.size,k,none⟩) (Nat.le_refl _) _).drew
   ·have hq0:at0 gy k=0:=at0_ge (by omega);rw[hq0]at HPL HCY hby;generalize hpa:at0 gx k=p at *;generalize hra:cy (at0 gx) (at0 gy) k=r at *;clear hpa hra hq0;have HC1:Hid (((p:Int)+(r:Int)) / 1000000000=(cy (at0 gx) (at0 gy) (k+1):Nat)):=qh (by rw[HCY.out];omega);have HP1:Hid (((p:Int)+(r:Int)) % 1000000000=(pl (at0 gx) (at0 gy) k:Nat)):=qh (by rw[HPL.out];omega);go_wp2_with fail;exact⟨⟨k+1,by omega,by go_num,by rw[HC1.out],aH.step2 HR.out hlt2 _ _ (p+r) (by omega) HP1.out,(HX.out.setCell (p:=⟨w.heap.size,k,none⟩) (Nat.le_refl _) _).setCell (p:=⟨w.heap.size,k,none⟩) (Nat.le_refl _) _⟩,by simp[intOf];omega⟩
  ·have hkl:k=gx.length:=by omega
   have HRF:Hid (aH wr w.heap.size (gx.length+1) ((List.range gx.length).map (pl (at0 gx) (at0 gy)))):=qh (by have:=HR.out;rw[hkl,kL]at this;exact this);subst hkl;by_cases hc0:cy (at0 gx) (at0 gy) gx.length=0
   ·have HG:=qh (HN.out hc0);rw[hc0];have hll:((List.range gx.length).map (pl (at0 gx) (at0 gy))).length=gx.length:=by simp
    have HGL:Hid ((gr d).length=gx.length):=qh (by rw[←HG.out];exact hll);clear hc0 hll;go_wp2_with fail;go_ret;exact⟨some ⟨w.heap.size,0,none⟩,gx.length+1,by rw[HGL.out];rfl,by rw[←HG.out];exact HRF.out.reads,HX.out,by rw[HGL.out];omega,by unfold maxLen;omega⟩
   ·have HG:=qh (HY.out hc0);obtain⟨cur,hrw⟩:=HRF.out;have hll:((List.range gx.length).map (pl (at0 gx) (at0 gy))).length=gx.length:=by simp
    rw[hll]at hrw;have HOW:=qh (hrw.own (base:=w.heap.size) (Nat.le_refl _));have hgl:=hrw.blk.lt;generalize (List.range gx.length).map (pl (at0 gx) (at0 gy))=fin at *;generalize cy (at0 gx) (at0 gy) gx.length=r at *;have hr0:0<r:=by omega
    have HFL:Hid (fin.length=gx.length):=qh hll;clear hrw hll hc0;go_wp2_with (at_builtin;refine wpList_append_lies _ rfl (.tmp 64) (.tmp 66) 122 rfl w.heap.size 183 i0 _ 1 8 Tryz.underlying122 HI.out hz0 hz1 hz2 rfl (by decide) _ gx.length (ucells fin) rfl (aP HOW.out (Ext.new _ _)) ⟨wr.heap.size,0,none⟩ 1 1 [.int .u64 r] rfl rfl (World.news_of_block (heap_alloc_new wr _)) (by simp[Value.oneCell']) (by omega) (by simp only[maxLen];omega) (by omega) (by simp;omega) _ rfl ?_;intro g' cap' w' hown hgrow hat hlt');go_ret;have hcp:=fD hown
    have hrd:RdU w' (some ⟨g',0,none⟩) (fin++[r]):=by
     have:=Reads.own hown;unfold RdU;rw[List.length_append,HFL.out];simpa[ucells] using this
    rw[HG.out]at hrd;have hgd:(gr d).length=gx.length+1:=by rw[←HG.out,List.length_append,HFL.out];rfl
    exact⟨some ⟨g',0,none⟩,cap',by rw[hgd];rfl,hrd,Ext.grown (HX.out.trans (Ext.new _ _)) hgrow (fun k hk=>by have:=cW HOW.out k hk;omega),by rw[hgd];exact hcp.1,hcp.2⟩
theorem wS(x y:Nat)(A A':Option Addr)(c c':Nat)(w:World)(hl':(gr y).length<(gr x).length)(hA:RdU w A (gr x))(hA':RdU w A' (gr y))(hn:(gr x).length≤1000000) :
  Calls Tryz.prog 133 #[.slice A' (gr y).length c',.slice A (gr x).length c] w (j7 (x+y) w):=by
 have hl:(gr y).length≤(gr x).length:=by omega
 have HA:=qh hA;have HA':=qh hA';have HN:=qh (fun h=>uz (x:=x) (y:=y) hl h);have HY:=qh (fun h=>sB (x:=x) (y:=y) hl h);have HBX:=qh (at0_bd (gr_lt x));have HBY:=qh (at0_bd (gr_lt y));generalize x+y=d at *;generalize gr x=gx at *;generalize gr y=gy at *;clear hA hA';obtain⟨i0,hI,hz0,hz1,hz2⟩:=info_parts j6;have hsz:(Tryz.prog.info? 183).map (·.size)=some 1:=by rw[hI];simp[hz1]
 have hlt:gy.length<gx.length:=by omega
 obtain⟨ROW,hRW,hmk⟩:∃ROW:List Value,ROW.length=gx.length+1∧(Instr.makeSlice 122 (.int .i64 (gx.length:Int)) (.int .i64 ((gx.length:Int)+1))).run Tryz.prog w = .ok (.slice (some ⟨w.heap.size,0,none⟩) gx.length (gx.length+1)) (w.alloc (.cells ROW.toArray 183)):=by
  have h:=run_make (P:=Tryz.prog) w 122 183 i0 _ Tryz.underlying122 hI hz0 .i64 .i64 (gx.length:Int) ((gx.length:Int)+1) (by omega) (by omega) (by rw[hz2];omega) (by omega);rw[hz1,show((gx.length:Int)+1).toNat=gx.length+1 by omega,Int.toNat_natCast]at h;exact⟨(madeCells (Value.int .u64 0).cells ((gx.length+1)*1)).toList,by rw[Array.length_toList,size_madeCells];simp,by rw[Array.toArray_toList];exact h⟩
 have hR0:Row (w.alloc (.cells ROW.toArray 183)) w.heap.size 183 1 0 (gx.length+1) [] ROW:=⟨Blk.new w _ _,rfl,Nat.zero_le _,by unfold maxLen;omega,by rw[hRW];simp,by simp⟩;have hul:(ucells gx).length=gx.length:=by simp[ucells]
 have hR1:Row ((w.alloc (.cells ROW.toArray 183)).setCells w.heap.size 0 (ucells gx)) w.heap.size 183 1 gx.length (gx.length+1) (ucells gx) (aW ROW 0 (ucells gx)):=hR0.put _ _ (by rw[hul];omega) (by omega) (by rw[hul];simp) (by unfold aW;simp[ucells])
 have hcp:∀ty,(Builtin.copy_ #[122,122] ty #[.slice (some ⟨w.heap.size,0,none⟩) gx.length (gx.length+1),.slice A gx.length c]).run Tryz.prog (w.alloc (.cells ROW.toArray 183)) = .ok (goInt (gx.length:Nat)) ((w.alloc (.cells ROW.toArray 183)).setCells w.heap.size 0 (ucells gx)):=fun ty=>by
  rcases Nat.eq_zero_or_pos gx.length with h0|h0
  ·have h1:gx=[]:=List.length_eq_zero_iff.1 h0;subst h1;exact run_copy_none _ _ _ ty 183 _ _ _ _ _ _ Tryz.underlying122 hsz rfl
  ·obtain⟨b,o,rfl,hb,hc⟩:=HA.out.2 h0
   exact gh _ _ _ ty 183 1 w.heap.size 0 gx.length (gx.length+1) ⟨b,o,none⟩ gx.length c (ucells gx) Tryz.underlying122 hsz gx.length (Nat.min_self _) (by rw[hul];simp)
    (fun j v hj=>by rw[Addr.add_lit];exact((Ext.new w _).cell (p:=⟨b,o+j,none⟩) hb).trans (hc j v hj))
    (fun j hj=>hR0.isSome_ (by rw[hul]at hj;omega)) (fun j _=>hR0.frozen _) (yS gx)
 have HROW:Hid (aH ((w.alloc (.cells ROW.toArray 183)).setCells w.heap.size 0 (ucells gx)) w.heap.size (gx.length+1) (mixed (pl (at0 gx) (at0 gy)) gx 0)):=qh (by rw[l6];exact⟨_,hR1⟩);have HX1:Hid (Ext w ((w.alloc (.cells ROW.toArray 183)).setCells w.heap.size 0 (ucells gx))):=qh (cV _ _ _ () (Ext.new _ _) (Nat.le_refl _));have HI:=qh hI;clear hR0 hR1 hRW hul hsz hI;generalize ucells gx=ucs at *;go_enter Tryz.func133,Tryz.ntmps133;go_wp2_with fail;generalize (w.alloc (.cells ROW.toArray 183)).setCells w.heap.size 0 ucs=W0 at *;clear hcp hmk;go_loopw [26,6,7] (fun i ca _ wr=>∃k:Nat,k≤gx.length∧i = .int .i64 k∧ca = .int .u64 (cy (at0 gx) (at0 gy) k:Nat)∧aH wr w.heap.size (gx.length+1) (mixed (pl (at0 gx) (at0 gy)) gx k)∧Ext w wr) (fun i _ _ _=>gx.length-(intOf i).toNat)
 case atStart=>exact⟨0,by omega,rfl,rfl,HROW.out,HX1.out⟩
 case round =>
  obtain⟨k,hk,rfl,rfl,hrow,hx⟩:=hrel;have HR:=qh hrow;have HX:=qh hx;clear hrow hx;by_cases hlt2:k<gx.length
  ·have hcell:=HR.out.cell (nV (pl (at0 gx) (at0 gy)) gx k hlt2);have hfz:=HR.out.frozen k;have hgl:=HR.out.lt;have hax:=HBX.out k;have hby:=HBY.out k;have hcy:=vj HBX.out HBY.out k;have HPL:Hid (pl (at0 gx) (at0 gy) k=(at0 gx k+at0 gy k+cy (at0 gx) (at0 gy) k) % B9):=qh rfl;have HCY:Hid (cy (at0 gx) (at0 gy) (k+1)=(at0 gx k+at0 gy k+cy (at0 gx) (at0 gy) k) / B9):=qh rfl;rw[←at0_lt hlt2]at hcell;have e9:B9=1000000000:=rfl;rw[e9]at hax hby HPL HCY;clear e9;by_cases hk2:k<gy.length
   ·obtain⟨b,o,rfl,hb0,hcy1⟩:=HA'.out.at_ hk2;have hcb:=(HX.out.cell (p:=⟨b,o+k,none⟩) hb0).trans hcy1;have hbg:b≠w.heap.size:=by omega
    have hbg':w.heap.size≠b:=by omega
    rw[←at0_lt hk2]at hcb;generalize hpa:at0 gx k=p at *;generalize hqa:at0 gy k=q at *;generalize hra:cy (at0 gx) (at0 gy) k=r at *;clear hpa hqa hra hcy1;have HC1:Hid (((p:Int)+(r:Int)+(q:Int)) / 1000000000=(cy (at0 gx) (at0 gy) (k+1):Nat)):=qh (by rw[HCY.out];omega);have HP1:Hid (((p:Int)+(r:Int)+(q:Int)) % 1000000000=(pl (at0 gx) (at0 gy) k:Nat)):=qh (by rw[HPL.out];omega);go_wp2_with fail;go_region
    go_wp2_with fail;refine⟨⟨k+1,by omega,by go_num,by rw[HC1.out],?_,?_⟩,by simp[intOf];omega⟩
    ·exact aH.step3 HR.out hlt2 _ _ _ (p+r) (p+r+q) (by omega) (by omega) HP1.out
    ·exact(((HX.out.setCell (p:=⟨w.heap.size,k,none⟩) (Nat.le_refl _) _).setCell (p:=⟨w.heap.size,k,none⟩) (Nat.le_refl _) _).setCell (p:=⟨w.heap.size,k,none⟩) (Nat.le_refl _) _).drew
   ·have hq0:at0 gy k=0:=at0_ge (by omega);rw[hq0]at HPL HCY hby;generalize hpa:at0 gx k=p at *;generalize hra:cy (at0 gx) (at0 gy) k=r at *;clear hpa hra hq0;have HC1:Hid (((p:Int)+(r:Int)) / 1000000000=(cy (at0 gx) (at0 gy) (k+1):Nat)):=qh (by rw[HCY.out];omega);have HP1:Hid (((p:Int)+(r:Int)) % 1000000000=(pl (at0 gx) (at0 gy) k:Nat)):=qh (by rw[HPL.out];omega);go_wp2_with fail;exact⟨⟨k+1,by omega,by go_num,by rw[HC1.out],aH.step2 HR.out hlt2 _ _ (p+r) (by omega) HP1.out,(HX.out.setCell (p:=⟨w.heap.size,k,none⟩) (Nat.le_refl _) _).setCell (p:=⟨w.heap.size,k,none⟩) (Nat.le_refl _) _⟩,by simp[intOf];omega⟩
  ·have hkl:k=gx.length:=by omega
   have HRF:Hid (aH wr w.heap.size (gx.length+1) ((List.range gx.length).map (pl (at0 gx) (at0 gy)))):=qh (by have:=HR.out;rw[hkl,kL]at this;exact this);subst hkl;by_cases hc0:cy (at0 gx) (at0 gy) gx.length=0
   ·have HG:=qh (HN.out hc0);rw[hc0];have hll:((List.range gx.length).map (pl (at0 gx) (at0 gy))).length=gx.length:=by simp
    have HGL:Hid ((gr d).length=gx.length):=qh (by rw[←HG.out];exact hll);clear hc0 hll;go_wp2_with fail;go_ret;exact⟨some ⟨w.heap.size,0,none⟩,gx.length+1,by rw[HGL.out];rfl,by rw[←HG.out];exact HRF.out.reads,HX.out,by rw[HGL.out];omega,by unfold maxLen;omega⟩
   ·have HG:=qh (HY.out hc0);obtain⟨cur,hrw⟩:=HRF.out;have hll:((List.range gx.length).map (pl (at0 gx) (at0 gy))).length=gx.length:=by simp
    rw[hll]at hrw;have HOW:=qh (hrw.own (base:=w.heap.size) (Nat.le_refl _));have hgl:=hrw.blk.lt;generalize (List.range gx.length).map (pl (at0 gx) (at0 gy))=fin at *;generalize cy (at0 gx) (at0 gy) gx.length=r at *;have hr0:0<r:=by omega
    have HFL:Hid (fin.length=gx.length):=qh hll;clear hrw hll hc0;go_wp2_with (at_builtin;refine wpList_append_lies _ rfl (.tmp 64) (.tmp 66) 122 rfl w.heap.size 183 i0 _ 1 8 Tryz.underlying122 HI.out hz0 hz1 hz2 rfl (by decide) _ gx.length (ucells fin) rfl (aP HOW.out (Ext.new _ _)) ⟨wr.heap.size,0,none⟩ 1 1 [.int .u64 r] rfl rfl (World.news_of_block (heap_alloc_new wr _)) (by simp[Value.oneCell']) (by omega) (by simp only[maxLen];omega) (by omega) (by simp;omega) _ rfl ?_;intro g' cap' w' hown hgrow hat hlt');go_ret;have hcp:=fD hown
    have hrd:RdU w' (some ⟨g',0,none⟩) (fin++[r]):=by
     have:=Reads.own hown;unfold RdU;rw[List.length_append,HFL.out];simpa[ucells] using this
    rw[HG.out]at hrd;have hgd:(gr d).length=gx.length+1:=by rw[←HG.out,List.length_append,HFL.out];rfl
    exact⟨some ⟨g',0,none⟩,cap',by rw[hgd];rfl,hrd,Ext.grown (HX.out.trans (Ext.new _ _)) hgrow (fun k hk=>by have:=cW HOW.out k hk;omega),by rw[hgd];exact hcp.1,hcp.2⟩
theorem uA(x y:Nat)(A A':Option Addr)(c c':Nat)(w:World)(hA:RdU w A (gr x))(hA':RdU w A' (gr y))(hn:(gr x).length≤1000000)(hn':(gr y).length≤1000000) :
  Calls Tryz.prog 133 #[.slice A (gr x).length c,.slice A' (gr y).length c'] w (j7 (x+y) w):=by
 rcases Nat.lt_or_ge (gr x).length (gr y).length with h|h
 ·rw[Nat.add_comm];exact wS y x A' A c' c w h hA' hA hn'
 ·exact wR x y A A' c c' w h hA hA' hn
end
section
open Go.RowKit
attribute [local go_sem] size_bs toList_bs
theorem blk_at(w:World)(t:TypeId)(cs:Array Value)(g:Nat)(hg:w.heap.size=g):Blk (w.alloc (.cells cs t)) g t cs:=by subst hg;exact Blk.new w t cs
theorem RdU.far{w:World}{A:Option Addr}{gs:List Nat}(h:RdU w A gs){g i:Nat}(u:Value)(hne:0<gs.length→∀b o,A=some ⟨b,o,none⟩→b≠g):RdU (w.setCell ⟨g,i,none⟩ u) A gs:=by
 refine⟨h.1,fun hn=>?_⟩;obtain⟨b,o,rfl,hb,hc⟩:=h.2 hn;have hbg:=hne hn b o rfl;refine⟨b,o,rfl,by simpa[World.setCell] using hb,fun j v hv=>?_⟩;rw[←hc j v hv];unfold World.cell?;rw[Below.heap_setCell w ⟨g,i,none⟩ u b hbg]
theorem RdU.box{w:World}{A:Option Addr}{gs:List Nat}(h:RdU w A gs){g:Nat}{t:TypeId}{x:Bool}{B:Option Addr}{n c:Nat}(hb:Blk w g t #[.bool x,.slice B n c]):0<gs.length→∀b o,A=some ⟨b,o,none⟩→b≠g:=by
 intro hn b o e hbg;subst e;subst hbg;have h0:=Reads.cell h (j:=0) (u := .int .u64 (gs[0]'hn)) (by simp[ucells,hn]);rw[Nat.add_zero,hb.cell o]at h0;match o,h0 with
 |0,h0=>simp at h0
 |1,h0=>simp at h0
 |o+2,h0=>simp at h0
def sgn(b:Bool)(n:Nat):Int:=if b then -(n:Int) else n
def pK(z:Int)(w:World)(e:Ending)(w':World):Prop :=
 ∃b n A c,e = .returned (.agg #[.bool b,.slice A (gr n).length c])∧sgn b n=z∧RdU w' A (gr n)∧Ext w w'∧(gr n).length≤c∧c≤maxLen
theorem tY(b:Bool)(x y:Nat)(A A':Option Addr)(c c':Nat)(w:World)(hA:RdU w A (gr x))(hA':RdU w A' (gr y))(hn:(gr x).length≤1000000)(hn':(gr y).length≤1000000) :
  Calls Tryz.prog 79 #[.agg #[.bool b,.slice A (gr x).length c],.agg #[.bool b,.slice A' (gr y).length c']] w (pK (sgn b x+sgn b y) w):=by
 have HA:=qh hA;have HA':=qh hA';have HPL:=qh (fun W h1 h2=>uA x y A A' c c' W h1 h2 hn hn');have HS:Hid (sgn b (x+y)=sgn b x+sgn b y):=qh (by unfold sgn;cases b <;> simp;omega);generalize gr x=gx at *;generalize gr y=gy at *;clear hA hA';have HX0:Hid (Ext w (((w.alloc (.cells #[.bool b,.slice A gx.length c] 124)).alloc (.cells #[.bool b,.slice A' gy.length c'] 124)).alloc (.cells #[.bool false,.slice none 0 0] 124))):=qh (((Ext.new _ _).alloc _).alloc _);have HBR:=qh (blk_at ((w.alloc (.cells #[.bool b,.slice A gx.length c] 124)).alloc (.cells #[.bool b,.slice A' gy.length c'] 124)) 124 #[.bool false,.slice none 0 0] (w.heap.size+1+1) (by simp));have hn1:w.heap.size≠w.heap.size+1+1:=by omega
 have hn2:w.heap.size+1+1≠w.heap.size:=by omega
 have hn3:¬ (w.heap.size=w.heap.size+1+1):=by omega
 go_enter Tryz.func79,Tryz.ntmps79;go_wp2_with fail
 go_region_held3 (fun w'=>w'.cell? ⟨w.heap.size,0,none⟩=some (.bool b)∧w'.cell? ⟨w.heap.size,1,none⟩=some (.slice A gx.length c)∧w'.cell? ⟨w.heap.size+1,1,none⟩=some (.slice A' gy.length c'))
  (go_keep)
  (first
   |(go_at_call 133;refine(HPL.out _ (HA.out.ext HX0.out.drew) (HA'.out.ext HX0.out.drew)).mono ?_;rintro e w1⟨A1,c1,rfl,hrd,hx1,hc1,hc2⟩;have hbr:=HBR.out.drew.ext hx1;have hq0:=hbr.cell 0;have hq1:=hbr.cell 1;have hf0:=hbr.frozen 0;have hf1:=hbr.frozen 1;have hbx:=((((blk_at w 124 #[.bool b,.slice A gx.length c] w.heap.size rfl).alloc (.cells #[.bool b,.slice A' gy.length c'] 124)).alloc (.cells #[.bool false,.slice none 0 0] 124)).drew).ext hx1;have hy0:=hbx.cell 0;have hy1:=hbx.cell 1;have hby:=(((blk_at (w.alloc (.cells #[.bool b,.slice A gx.length c] 124)) 124 #[.bool b,.slice A' gy.length c'] (w.heap.size+1) (by simp)).alloc (.cells #[.bool false,.slice none 0 0] 124)).drew).ext hx1;have hz1:=hby.cell 1;simp only[List.getElem?_toArray,List.getElem?_cons_zero,List.getElem?_cons_succ]at hq0 hq1 hy0 hy1 hz1;have HBR1:=qh hbr;have HX1:=qh (HX0.out.drew.trans hx1);have HRD:=qh hrd;have HC:=qh (And.intro hc1 hc2);clear hbr hbx hby hx1 hrd hc1 hc2))
 all_goals
  go_wp2_with fail;refine bodyPost_ret (jp rfl _ _ (w.heap.size+1+1) (.bool b) (.slice A1 (gr (x+y)).length c1) rfl ((HBR1.out.set_ 0 (.bool b)).set_ 1 (.slice A1 (gr (x+y)).length c1))) rfl ?_;have hne:=HRD.out.box HBR1.out;exact⟨b,x+y,A1,c1,rfl,HS.out,(HRD.out.far (.bool b) hne).far _ hne,(HX1.out.setCell (p:=⟨w.heap.size+1+1,0,none⟩) (by show w.heap.size≤w.heap.size+1+1;omega) _).setCell (p:=⟨w.heap.size+1+1,1,none⟩) (by show w.heap.size≤w.heap.size+1+1;omega) _,HC.out.1,HC.out.2⟩
end
section
open Go.RowKit
attribute [local go_sem] size_bs toList_bs
theorem tZ(b:Bool)(x y:Nat)(A A':Option Addr)(c c':Nat)(w:World)(hA:RdU w A (gr x))(hA':RdU w A' (gr y))(hn:(gr x).length≤1000000)(hn':(gr y).length≤1000000) :
  Calls Tryz.prog 79 #[.agg #[.bool b,.slice A (gr x).length c],.agg #[.bool (!b),.slice A' (gr y).length c']] w (pK (sgn b x+sgn (!b) y) w):=by
 have HA:=qh hA;have HA':=qh hA';have HCP:=qh (fun W h1 h2=>jS x y A A' c c' W h1 h2 hn hn');have HM1:=qh (fun h W h1 h2=>nW x y h A A' c c' W h1 h2 hn hn');have HM2:=qh (fun h W h1 h2=>nW y x h A' A c' c W h1 h2 hn' hn);have HS1:Hid (y≤x→sgn b (x-y)=sgn b x+sgn (!b) y):=qh (by intro h;unfold sgn;cases b <;> simp <;> omega);have HS2:Hid (x≤y→sgn (!b) (y-x)=sgn b x+sgn (!b) y):=qh (by intro h;unfold sgn;cases b <;> simp <;> omega);generalize gr x=gx at *;generalize gr y=gy at *;clear hA hA';have hbb:(b == !b)=false:=by cases b <;> rfl
 generalize hnb:(!b)=nb at *;clear hnb;have HX0:Hid (Ext w (((w.alloc (.cells #[.bool b,.slice A gx.length c] 124)).alloc (.cells #[.bool nb,.slice A' gy.length c'] 124)).alloc (.cells #[.bool false,.slice none 0 0] 124))):=qh (((Ext.new _ _).alloc _).alloc _);have HBR:=qh (blk_at ((w.alloc (.cells #[.bool b,.slice A gx.length c] 124)).alloc (.cells #[.bool nb,.slice A' gy.length c'] 124)) 124 #[.bool false,.slice none 0 0] (w.heap.size+1+1) (by simp));have HBX:=qh (((blk_at w 124 #[.bool b,.slice A gx.length c] w.heap.size rfl).alloc (.cells #[.bool nb,.slice A' gy.length c'] 124)).alloc (.cells #[.bool false,.slice none 0 0] 124));have HBY:=qh ((blk_at (w.alloc (.cells #[.bool b,.slice A gx.length c] 124)) 124 #[.bool nb,.slice A' gy.length c'] (w.heap.size+1) (by simp)).alloc (.cells #[.bool false,.slice none 0 0] 124));have hn1:w.heap.size≠w.heap.size+1+1:=by omega
 have hn2:w.heap.size+1+1≠w.heap.size:=by omega
 have hn3:¬ (w.heap.size=w.heap.size+1+1):=by omega
 go_enter Tryz.func79,Tryz.ntmps79;go_wp2_with fail;refine(HCP.out _ (HA.out.ext HX0.out) (HA'.out.ext HX0.out)).mono ?_;rintro e w1⟨hx1,r,rfl,hcase⟩;have hbx:=HBX.out.ext hx1;have hby:=HBY.out.ext hx1;have hbr:=HBR.out.ext hx1;have x0:=hbx.cell 0;have x1:=hbx.cell 1;have y0:=hby.cell 0;have y1:=hby.cell 1;have xf0:=hbx.frozen 0;have xf1:=hbx.frozen 1;have yf0:=hby.frozen 0;have yf1:=hby.frozen 1;simp only[List.getElem?_toArray,List.getElem?_cons_zero,List.getElem?_cons_succ]at x0 x1 y0 y1;have HX1:=HX0.qt hx1;have HBX1:=qh hbx;have HBY1:=qh hby;have HBR1:=qh hbr;clear hbx hby hbr hx1 HX0 HBX HBY HBR;by_cases hr:r<0
 ·have hle:x≤y:=by omega
  have HM:=qh (HM2.out hle);have HS:=qh (HS2.out hle);clear hcase hle;have HBXW:Hid (Blk ((((w1.setCell ⟨w.heap.size,0,none⟩ (.bool nb)).setCell ⟨w.heap.size,1,none⟩ (.slice A' gy.length c')).setCell ⟨w.heap.size+1,0,none⟩ (.bool b)).setCell ⟨w.heap.size+1,1,none⟩ (.slice A gx.length c)) w.heap.size 124 #[.bool nb,.slice A' gy.length c']):=qh ((((HBX1.out.set_ 0 (.bool nb)).set_ 1 (.slice A' gy.length c')).far (p:=⟨w.heap.size+1,0,none⟩) (by show w.heap.size≠w.heap.size+1;omega) _).far (p:=⟨w.heap.size+1,1,none⟩) (by show w.heap.size≠w.heap.size+1;omega) _);have HBYW:Hid (Blk ((((w1.setCell ⟨w.heap.size,0,none⟩ (.bool nb)).setCell ⟨w.heap.size,1,none⟩ (.slice A' gy.length c')).setCell ⟨w.heap.size+1,0,none⟩ (.bool b)).setCell ⟨w.heap.size+1,1,none⟩ (.slice A gx.length c)) (w.heap.size+1) 124 #[.bool b,.slice A gx.length c]):=qh ((((HBY1.out.far (p:=⟨w.heap.size,0,none⟩) (by show w.heap.size+1≠w.heap.size;omega) (.bool nb)).far (p:=⟨w.heap.size,1,none⟩) (by show w.heap.size+1≠w.heap.size;omega) (.slice A' gy.length c')).set_ 0 (.bool b)).set_ 1 (.slice A gx.length c));have HBRW:Hid (Blk ((((w1.setCell ⟨w.heap.size,0,none⟩ (.bool nb)).setCell ⟨w.heap.size,1,none⟩ (.slice A' gy.length c')).setCell ⟨w.heap.size+1,0,none⟩ (.bool b)).setCell ⟨w.heap.size+1,1,none⟩ (.slice A gx.length c)) (w.heap.size+1+1) 124 #[.bool false,.slice none 0 0]):=qh ((((HBR1.out.far (p:=⟨w.heap.size,0,none⟩) (by show w.heap.size+1+1≠w.heap.size;omega) _).far (p:=⟨w.heap.size,1,none⟩) (by show w.heap.size+1+1≠w.heap.size;omega) _).far (p:=⟨w.heap.size+1,0,none⟩) (by show w.heap.size+1+1≠w.heap.size+1;omega) _).far (p:=⟨w.heap.size+1,1,none⟩) (by show w.heap.size+1+1≠w.heap.size+1;omega) _);have HXW:Hid (Ext w ((((w1.setCell ⟨w.heap.size,0,none⟩ (.bool nb)).setCell ⟨w.heap.size,1,none⟩ (.slice A' gy.length c')).setCell ⟨w.heap.size+1,0,none⟩ (.bool b)).setCell ⟨w.heap.size+1,1,none⟩ (.slice A gx.length c))):=qh ((((HX1.out.setCell (p:=⟨w.heap.size,0,none⟩) (Nat.le_refl _) _).setCell (p:=⟨w.heap.size,1,none⟩) (Nat.le_refl _) _).setCell (p:=⟨w.heap.size+1,0,none⟩) (Nat.le_succ _) _).setCell (p:=⟨w.heap.size+1,1,none⟩) (Nat.le_succ _) _);go_wp2_with fail;generalize ((((w1.setCell ⟨w.heap.size,0,none⟩ (.bool nb)).setCell ⟨w.heap.size,1,none⟩ (.slice A' gy.length c')).setCell ⟨w.heap.size+1,0,none⟩ (.bool b)).setCell ⟨w.heap.size+1,1,none⟩ (.slice A gx.length c))=W at *;have x0':=HBXW.out.cell 0;have x1':=HBXW.out.cell 1;have y1':=HBYW.out.cell 1;simp only[List.getElem?_toArray,List.getElem?_cons_zero,List.getElem?_cons_succ]at x0' x1' y1'
  go_region_held3 (fun w'=>w'.cell? ⟨w.heap.size,0,none⟩=some (.bool nb)∧w'.cell? ⟨w.heap.size,1,none⟩=some (.slice A' gy.length c')∧w'.cell? ⟨w.heap.size+1,1,none⟩=some (.slice A gx.length c))
   (go_keep)
   (first
    |(go_at_call 134;refine(HM.out _ (HA'.out.ext HXW.out.drew) (HA.out.ext HXW.out.drew)).mono ?_;rintro e w2⟨A1,c1,rfl,hrd,hx2,hc1,hc2⟩;have hbr:=HBRW.out.drew.ext hx2;have q0:=hbr.cell 0;have q1:=hbr.cell 1;have f0:=hbr.frozen 0;have f1:=hbr.frozen 1;have hbx:=HBXW.out.drew.ext hx2;have u0:=hbx.cell 0;have u1:=hbx.cell 1;have hby:=HBYW.out.drew.ext hx2;have v1:=hby.cell 1;simp only[List.getElem?_toArray,List.getElem?_cons_zero,List.getElem?_cons_succ]at q0 q1 u0 u1 v1;have HBR2:=qh hbr;have HX2:=qh (HXW.out.drew.trans hx2);have HRD:=qh hrd;have HC:=qh (And.intro hc1 hc2);clear hbr hbx hby hx2 hrd hc1 hc2))
  all_goals
   go_wp2_with fail;refine bodyPost_ret (jp rfl _ _ (w.heap.size+1+1) (.bool nb) (.slice A1 (gr (y-x)).length c1) rfl ((HBR2.out.set_ 0 (.bool nb)).set_ 1 (.slice A1 (gr (y-x)).length c1))) rfl ?_;have hne:=HRD.out.box HBR2.out;exact⟨nb,y-x,A1,c1,rfl,HS.out,(HRD.out.far (.bool nb) hne).far _ hne,(HX2.out.setCell (p:=⟨w.heap.size+1+1,0,none⟩) (by show w.heap.size≤w.heap.size+1+1;omega) _).setCell (p:=⟨w.heap.size+1+1,1,none⟩) (by show w.heap.size≤w.heap.size+1+1;omega) _,HC.out.1,HC.out.2⟩
 ·have hle:y≤x:=by omega
  have HM:=qh (HM1.out hle);have HS:=qh (HS1.out hle);clear hcase hle;go_wp2_with fail;have HBXW:=HBX1;have HBYW:=HBY1;have HBRW:=HBR1;have HXW:=HX1
  go_region_held3 (fun w'=>w'.cell? ⟨w.heap.size,0,none⟩=some (.bool b)∧w'.cell? ⟨w.heap.size,1,none⟩=some (.slice A gx.length c)∧w'.cell? ⟨w.heap.size+1,1,none⟩=some (.slice A' gy.length c'))
   (go_keep)
   (first
    |(go_at_call 134;refine(HM.out _ (HA.out.ext HXW.out.drew) (HA'.out.ext HXW.out.drew)).mono ?_;rintro e w2⟨A1,c1,rfl,hrd,hx2,hc1,hc2⟩;have hbr:=HBRW.out.drew.ext hx2;have q0:=hbr.cell 0;have q1:=hbr.cell 1;have f0:=hbr.frozen 0;have f1:=hbr.frozen 1;have hbx:=HBXW.out.drew.ext hx2;have u0:=hbx.cell 0;have u1:=hbx.cell 1;have hby:=HBYW.out.drew.ext hx2;have v1:=hby.cell 1;simp only[List.getElem?_toArray,List.getElem?_cons_zero,List.getElem?_cons_succ]at q0 q1 u0 u1 v1;have HBR2:=qh hbr;have HX2:=qh (HXW.out.drew.trans hx2);have HRD:=qh hrd;have HC:=qh (And.intro hc1 hc2);clear hbr hbx hby hx2 hrd hc1 hc2))
  all_goals
   go_wp2_with fail;refine bodyPost_ret (jp rfl _ _ (w.heap.size+1+1) (.bool b) (.slice A1 (gr (x-y)).length c1) rfl ((HBR2.out.set_ 0 (.bool b)).set_ 1 (.slice A1 (gr (x-y)).length c1))) rfl ?_;have hne:=HRD.out.box HBR2.out;exact⟨b,x-y,A1,c1,rfl,HS.out,(HRD.out.far (.bool b) hne).far _ hne,(HX2.out.setCell (p:=⟨w.heap.size+1+1,0,none⟩) (by show w.heap.size≤w.heap.size+1+1;omega) _).setCell (p:=⟨w.heap.size+1+1,1,none⟩) (by show w.heap.size≤w.heap.size+1+1;omega) _,HC.out.1,HC.out.2⟩
theorem intAdd(b b':Bool)(x y:Nat)(A A':Option Addr)(c c':Nat)(w:World)(hA:RdU w A (gr x))(hA':RdU w A' (gr y))(hn:(gr x).length≤1000000)(hn':(gr y).length≤1000000) :
  Calls Tryz.prog 79 #[.agg #[.bool b,.slice A (gr x).length c],.agg #[.bool b',.slice A' (gr y).length c']] w (pK (sgn b x+sgn b' y) w):=by
 by_cases h:b'=b
 ·subst h;exact tY b' x y A A' c c' w hA hA' hn hn'
 ·have e:b'=!b:=by cases b <;> cases b' <;> simp_all
  subst e;exact tZ b x y A A' c c' w hA hA' hn hn'
end
section
open Go.RowKit Go.Shelf
theorem pL{w:World}{p:Addr}{v:Value}(h:w.cell? p=some v):p.block<w.heap.size:=by
 rcases Nat.lt_or_ge p.block w.heap.size with k|k
 ·exact k
 ·unfold World.cell? at h;rw[Array.getElem?_eq_none k]at h;simp at h
structure Env (w:World):Prop where
 tab:Lib.TabIs Tryz.prog w "internal/strconv.uint64pow10" .u64 Lib.pow10Tab
 len:∃m:Int,w.cell? ⟨3,0,none⟩=some (.int .i64 m)
 big:0<w.heap.size∧3<w.heap.size
 syn:∃v,w.cell? ⟨1,0,none⟩=some v∧(v = .nilIface∨∃te pe,v = .iface te pe)
 rng:∃v,w.cell? ⟨2,0,none⟩=some v∧(v = .nilIface∨∃te pe,v = .iface te pe)
theorem Env.ext{w w':World}(h:Env w)(he:Ext w w'):Env w':=by
 refine⟨?_,?_,⟨Nat.lt_of_lt_of_le h.big.1 he.size,Nat.lt_of_lt_of_le h.big.2 he.size⟩,?_,?_⟩
 ·exact var?_below he (g:=0) (by kernel_rfl) h.big.1 h.tab
 ·obtain⟨m,hm⟩:=h.len;exact⟨m,(he.cell (p:=⟨3,0,none⟩) h.big.2).trans hm⟩
 ·obtain⟨v,hv,k⟩:=h.syn;exact⟨v,(he.cell (p:=⟨1,0,none⟩) (pL hv)).trans hv,k⟩
 ·obtain⟨v,hv,k⟩:=h.rng;exact⟨v,(he.cell (p:=⟨2,0,none⟩) (pL hv)).trans hv,k⟩
theorem nX(n:Int)(w:World)(h0 : -9223372036854775808≤n)(h1:n≤9223372036854775807)(hE:Env w) :
  Calls Tryz.prog 56 #[.int .i64 n] w fun e w'=>e = .returned (.string (bs (Lib.itoa n)))∧Ext w w':=by
 refine(Tryz.strconv_Itoa n h0 h1 w hE.tab).mono ?_;rintro e w'⟨rfl,k,os,rfl⟩;exact⟨rfl,Lib.below_grow _ w (Nat.le_refl _) k os⟩
theorem repeat_any(l:Bs)(c:Int)(w:World)(h0:0≤c)(hc:c≤1000)(hl:l.length≤1000) :
  Calls Tryz.prog 139 #[.string (bs l),.int .i64 c] w fun e w'=>e = .returned (.string (bs (Lib.repeatL l c.toNat)))∧Ext w w':=by
 obtain⟨n,rfl⟩:=Int.eq_ofNat_of_zero_le h0;refine(Tryz.strings_Repeat (bs l) n w (by omega) (by rw[size_bs];exact Nat.le_trans (Nat.mul_le_mul hl (show n≤1000 by omega)) (by decide))).mono ?_;rintro e w'⟨rfl,hb⟩;exact⟨by rw[data_bs,Int.toNat_natCast];rfl,hb⟩
end
end Go.Proofs.YthgpheopnhajaaaGreatDoor
