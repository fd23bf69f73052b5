/- The seat's texts, part Y3. -/
import Derived.Test.YtaegjkllenlfpaaGreatDoorY2
import Derived.Deep.RegionHeld3
import Derived.Lib.AppendIntMem
set_option maxRecDepth 100000
set_option maxHeartbeats 8000000
namespace Go.Proofs.YtaegjkllenlfpaaGreatDoor
open Tryz
abbrev M9:=@AllReadyH.cons
abbrev Ni:=@AllReadyH.nil
abbrev Nn:=@wpAnyH_ready
abbrev Oh:=@wpList_load_mid
abbrev Oy:=@wpList_store_mid
abbrev QU:=@wp_region_held_drew
abbrev Rs:=@wpAnyH_done
abbrev SB:=@run_loadVar_mid
section
open Go.RowKit
attribute [local go_sem] size_bs toList_bs
theorem gr_len_mono{x y:Nat}(h:x<=y):(gr x).length<=(gr y).length:=by
 rcases Nw (gr y).length (gr x).length with h1|h1
 ·have:=gr_shorter h1;omega
 ·exact h1
theorem plus_no{x y:Nat}(hl:(gr y).length<=(gr x).length)(hc:cy (at0 (gr x)) (at0 (gr y)) (gr x).length=0):(List.range (gr x).length).map (pl (at0 (gr x)) (at0 (gr y)))=gr (x+y):=by
 have e1:gsum (at0 (gr x)) (gr x).length=x:=by rw[←gval_gsum _ _ (Mn _),gval_gr]
 have e2:gsum (at0 (gr y)) (gr x).length=y:=by rw[←gval_gsum _ _ hl,gval_gr]
 have hs:=plus_sum (at0 (gr x)) (at0 (gr y)) (gr x).length;rw[hc,e1,e2,O6,Nj]at hs
 have hcut:cutL ((List.range (gr x).length).map (pl (at0 (gr x)) (at0 (gr y))))=gr (x+y):=by
  rw[cutL_gr (by intro g hg;obtain⟨k,_,rfl⟩:=MH.1 hg;exact pl_lt _ _ k),gval_range,hs]
 have hp:=cutL_prefix ((List.range (gr x).length).map (pl (at0 (gr x)) (at0 (gr y))));rw[hcut]at hp;have hlen:=gr_len_mono (show x<=x+y by omega);rw[Mv (by simp;exact hlen)]at hp;exact hp.symm
theorem plus_yes{x y:Nat}(hl:(gr y).length<=(gr x).length)(hc:cy (at0 (gr x)) (at0 (gr y)) (gr x).length≠0):(List.range (gr x).length).map (pl (at0 (gr x)) (at0 (gr y)))++[cy (at0 (gr x)) (at0 (gr y)) (gr x).length]=gr (x+y):=by
 have e1:gsum (at0 (gr x)) (gr x).length=x:=by rw[←gval_gsum _ _ (Mn _),gval_gr]
 have e2:gsum (at0 (gr y)) (gr x).length=y:=by rw[←gval_gsum _ _ hl,gval_gr]
 have hs:=plus_sum (at0 (gr x)) (at0 (gr y)) (gr x).length;rw[e1,e2]at hs;have hb:=cy_le (at0_bd (gr_lt x)) (at0_bd (gr_lt y)) (gr x).length
 have hg:gval ((List.range (gr x).length).map (pl (at0 (gr x)) (at0 (gr y)))++[cy (at0 (gr x)) (at0 (gr y)) (gr x).length])=x+y:=by
  rw[gval_snoc,gval_range,Nb,Rm,hs]
 rw[←hg];symm;apply gr_gval
 ·intro g hg;rcases MN.1 hg with h|h
  ·obtain⟨k,_,rfl⟩:=MH.1 h;exact pl_lt _ _ k
  ·simp at h;subst h;have:(1:Nat)<B9:=by decide
   omega
 ·intro r g e;have:=List.append_inj' e rfl;simp at this;rw[←this.2];exact hc
theorem RowU.drew{w:World}{g cap:Nat}{gs:List Nat}(h:RowU w g cap gs):RowU w.drew g cap gs:=by obtain⟨cur,h⟩:=h;exact⟨cur,h.drew⟩
theorem RowU.step3{w:World}{g cap:Nat}{gs:List Nat}{f:Nat->Nat}{k:Nat}(h:RowU w g cap (mixed f gs k))(hk:k<gs.length)(z1 z2 z:Int)(u1 u2:Nat)(h1:z1=(u1:Int))(h2:z2=(u2:Int))(hz:z=(f k:Nat)) :
  RowU ((((w.setCell ⟨g,k,none⟩ (.int .u64 z1)).setCell ⟨g,k,none⟩ (.int .u64 z2)).setCell ⟨g,k,none⟩ (.int .u64 z)).drew) g cap (mixed f gs (k+1)):=by
 have hl:k<(mixed f gs k).length:=by rw[mixed_len f gs k (by omega)];exact hk
 have:=((h.put k z1 u1 hl h1).put k z2 u2 (by rw[MM];exact hl) h2).put k z (f k) (by rw[MM,MM];exact hl) hz;rw[RN,RN,mixed_set f gs k hk]at this;exact this.drew
theorem intPlusA(x y:Nat)(A A':Option Addr)(c c':Nat)(w:World)(hl:(gr y).length<=(gr x).length)(hA:RdU w A (gr x))(hA':RdU w A' (gr y))(hn:(gr x).length<=1000000)(args:Array Value)
  (ha:args=#[.slice A (gr x).length c,.slice A' (gr y).length c']∨(args=#[.slice A' (gr y).length c',.slice A (gr x).length c]∧(gr y).length<(gr x).length)) :
  Calls prog 140 args w (MagEnds (x+y) w):=by
 have HA:=ME hA;have HA':=ME hA';have HN:=ME (fun h=>plus_no (x:=x) (y:=y) hl h);have HY:=ME (fun h=>plus_yes (x:=x) (y:=y) hl h);have HBX:=ME (at0_bd (gr_lt x));have HBY:=ME (at0_bd (gr_lt y));generalize x+y=d at *;generalize gr x=gx at *;generalize gr y=gy at *;clear hA hA';obtain⟨i0,hI,hz0,hz1,hz2⟩:=Ny u64Info;have hsz:(prog.info? 173).map (·.size)=some 1:=by rw[hI];simp[hz1]
 rcases ha with ha | ⟨ha,hlt⟩
 have hlt:¬ gx.length<gy.length:=by omega
 rotate_left
 all_goals
  subst ha
  obtain⟨ROW,hRW,hmk⟩:∃ROW:List Value,ROW.length=gx.length+1∧(Instr.makeSlice 110 (.int .i64 (gx.length:Int)) (.int .i64 ((gx.length:Int)+1))).run prog w = .ok (.slice (some ⟨w.heap.size,0,none⟩) gx.length (gx.length+1)) (w.alloc (.cells ROW.toArray 173)):=by
   have h:=run_make (P:=prog) w 110 173 i0 _ Oc hI hz0 .i64 .i64 (gx.length:Int) ((gx.length:Int)+1) (by omega) (by omega) (by rw[hz2];omega) (by omega);rw[hz1,show((gx.length:Int)+1).toNat=gx.length+1 by omega,NP]at h;exact⟨(madeCells (Value.int .u64 0).cells ((gx.length+1)*1)).toList,by rw[Array.length_toList,size_madeCells];simp,by rw[Array.toArray_toList];exact h⟩
  have hR0:Row (w.alloc (.cells ROW.toArray 173)) w.heap.size 173 1 0 (gx.length+1) [] ROW:=⟨ID w _ _,rfl,Om _,by unfold maxLen;omega,by rw[hRW];simp,by simp⟩;have hul:(ucells gx).length=gx.length:=by simp[ucells]
  have hR1:Row ((w.alloc (.cells ROW.toArray 173)).setCells w.heap.size 0 (ucells gx)) w.heap.size 173 1 gx.length (gx.length+1) (ucells gx) (lsplice ROW 0 (ucells gx)):=hR0.put _ _ (by rw[hul];omega) (by omega) (by rw[hul];simp) (by unfold lsplice;simp[ucells])
  have hcp:∀ty,(Builtin.copy_ #[110,110] ty #[.slice (some ⟨w.heap.size,0,none⟩) gx.length (gx.length+1),.slice A gx.length c]).run prog (w.alloc (.cells ROW.toArray 173)) = .ok (goInt (gx.length:Nat)) ((w.alloc (.cells ROW.toArray 173)).setCells w.heap.size 0 (ucells gx)):=fun ty=>by
   rcases MB gx.length with h0|h0
   ·have h1:gx=[]:=My.1 h0;subst h1;exact run_copy_none _ _ _ ty 173 _ _ _ _ _ _ Oc hsz rfl
   ·obtain⟨b,o,rfl,hb,hc⟩:=HA.out.2 h0
    exact run_copy_k _ _ _ ty 173 1 w.heap.size 0 gx.length (gx.length+1) ⟨b,o,none⟩ gx.length c (ucells gx) Oc hsz gx.length (Nat.min_self _) (by rw[hul];simp)
     (fun j v hj=>by rw[So];exact((Id w _).cell (p:=⟨b,o+j,none⟩) hb).trans (hc j v hj))
     (fun j hj=>hR0.isSome_ (by rw[hul]at hj;omega)) (fun j _=>hR0.frozen _) (oneU gx)
  have HROW:Hid (RowU ((w.alloc (.cells ROW.toArray 173)).setCells w.heap.size 0 (ucells gx)) w.heap.size (gx.length+1) (mixed (pl (at0 gx) (at0 gy)) gx 0)):=ME (by rw[mixed_zero];exact⟨_,hR1⟩);have HX1:Hid (Ext w ((w.alloc (.cells ROW.toArray 173)).setCells w.heap.size 0 (ucells gx))):=ME (ext_sets _ _ _ () (Id _ _) (Mn _));have HI:=ME hI;clear hR0 hR1 hRW hul hsz hI;generalize ucells gx=ucs at *;go_enter func140,ntmps140;go_wp2_with fail;generalize (w.alloc (.cells ROW.toArray 173)).setCells w.heap.size 0 ucs=W0 at *;clear hcp hmk;go_loopw [26,6,7] (fun i ca _ wr=>∃k:Nat,k<=gx.length∧i = .int .i64 k∧ca = .int .u64 (cy (at0 gx) (at0 gy) k:Nat)∧RowU wr w.heap.size (gx.length+1) (mixed (pl (at0 gx) (at0 gy)) gx k)∧Ext w wr) (fun i _ _ _=>gx.length-(intOf i).toNat)
  case atStart=>exact⟨0,by omega,rfl,rfl,HROW.out,HX1.out⟩
  case round =>
   obtain⟨k,hk,rfl,rfl,hrow,hx⟩:=hrel;have HR:=ME hrow;have HX:=ME hx;clear hrow hx;by_cases hlt2:k<gx.length
   ·have hcell:=HR.out.cell (mixed_at (pl (at0 gx) (at0 gy)) gx k hlt2);have hfz:=HR.out.frozen k;have hgl:=HR.out.lt;have hax:=HBX.out k;have hby:=HBY.out k;have hcy:=cy_le HBX.out HBY.out k;have HPL:Hid (pl (at0 gx) (at0 gy) k=(at0 gx k+at0 gy k+cy (at0 gx) (at0 gy) k) % B9):=ME rfl;have HCY:Hid (cy (at0 gx) (at0 gy) (k+1)=(at0 gx k+at0 gy k+cy (at0 gx) (at0 gy) k) / B9):=ME rfl;rw[←at0_lt hlt2]at hcell;have e9:B9=1000000000:=rfl;rw[e9]at hax hby HPL HCY;clear e9;by_cases hk2:k<gy.length
    ·obtain⟨b,o,rfl,hb0,hcy1⟩:=HA'.out.at_ hk2;have hcb:=(HX.out.cell (p:=⟨b,o+k,none⟩) hb0).trans hcy1;have hbg:b≠w.heap.size:=by omega
     have hbg':w.heap.size≠b:=by omega
     rw[←at0_lt hk2]at hcb;generalize hpa:at0 gx k=p at *;generalize hqa:at0 gy k=q at *;generalize hra:cy (at0 gx) (at0 gy) k=r at *;clear hpa hqa hra hcy1;have HC1:Hid (((p:Int)+(r:Int)+(q:Int)) / 1000000000=(cy (at0 gx) (at0 gy) (k+1):Nat)):=ME (by rw[HCY.out];omega);have HP1:Hid (((p:Int)+(r:Int)+(q:Int)) % 1000000000=(pl (at0 gx) (at0 gy) k:Nat)):=ME (by rw[HPL.out];omega);go_wp2_with fail;go_region
     go_wp2_with fail;refine⟨⟨k+1,by omega,by go_num,by rw[HC1.out],?_,?_⟩,by simp[intOf];omega⟩
     ·exact RowU.step3 HR.out hlt2 _ _ _ (p+r) (p+r+q) (by omega) (by omega) HP1.out
     ·exact(((HX.out.setCell (p:=⟨w.heap.size,k,none⟩) (Mn _) _).setCell (p:=⟨w.heap.size,k,none⟩) (Mn _) _).setCell (p:=⟨w.heap.size,k,none⟩) (Mn _) _).drew
    ·have hq0:at0 gy k=0:=at0_ge (by omega);rw[hq0]at HPL HCY hby;generalize hpa:at0 gx k=p at *;generalize hra:cy (at0 gx) (at0 gy) k=r at *;clear hpa hra hq0;have HC1:Hid (((p:Int)+(r:Int)) / 1000000000=(cy (at0 gx) (at0 gy) (k+1):Nat)):=ME (by rw[HCY.out];omega);have HP1:Hid (((p:Int)+(r:Int)) % 1000000000=(pl (at0 gx) (at0 gy) k:Nat)):=ME (by rw[HPL.out];omega);go_wp2_with fail;exact⟨⟨k+1,by omega,by go_num,by rw[HC1.out],RowU.step2 HR.out hlt2 _ _ (p+r) (by omega) HP1.out,(HX.out.setCell (p:=⟨w.heap.size,k,none⟩) (Mn _) _).setCell (p:=⟨w.heap.size,k,none⟩) (Mn _) _⟩,by simp[intOf];omega⟩
   ·have hkl:k=gx.length:=by omega
    have HRF:Hid (RowU wr w.heap.size (gx.length+1) ((List.range gx.length).map (pl (at0 gx) (at0 gy)))):=ME (by have:=HR.out;rw[hkl,mixed_end]at this;exact this);subst hkl;by_cases hc0:cy (at0 gx) (at0 gy) gx.length=0
    ·have HG:=ME (HN.out hc0);rw[hc0];have hll:((List.range gx.length).map (pl (at0 gx) (at0 gy))).length=gx.length:=by simp
     have HGL:Hid ((gr d).length=gx.length):=ME (by rw[←HG.out];exact hll);clear hc0 hll;go_wp2_with fail;go_ret;exact⟨some ⟨w.heap.size,0,none⟩,gx.length+1,by rw[HGL.out];rfl,by rw[←HG.out];exact HRF.out.reads,HX.out,by rw[HGL.out];omega,by unfold maxLen;omega⟩
    ·have HG:=ME (HY.out hc0);obtain⟨cur,hrw⟩:=HRF.out;have hll:((List.range gx.length).map (pl (at0 gx) (at0 gy))).length=gx.length:=by simp
     rw[hll]at hrw;have HOW:=ME (hrw.own (base:=w.heap.size) (Mn _));have hgl:=hrw.blk.lt;generalize (List.range gx.length).map (pl (at0 gx) (at0 gy))=fin at *;generalize cy (at0 gx) (at0 gy) gx.length=r at *;have hr0:0<r:=by omega
     have HFL:Hid (fin.length=gx.length):=ME hll;clear hrw hll hc0;go_wp2_with (at_builtin;refine OK _ rfl (.tmp 64) (.tmp 66) 110 rfl w.heap.size 173 i0 _ 1 8 Oc HI.out hz0 hz1 hz2 rfl (by decide) _ gx.length (ucells fin) rfl (own_ext2 HOW.out (Id _ _)) ⟨wr.heap.size,0,none⟩ 1 1 [.int .u64 r] rfl rfl (M7 (M4 wr _)) (by simp[Value.oneCell']) (by omega) (by simp only[maxLen];omega) (by omega) (by simp;omega) _ rfl ?_;intro g' cap' w' hown hgrow hat hlt');go_ret;have hcp:=own_cap hown
     have hrd:RdU w' (some ⟨g',0,none⟩) (fin++[r]):=by
      have:=Reads.own hown;unfold RdU;rw[Mp,HFL.out];simpa[ucells] using this
     rw[HG.out]at hrd;have hgd:(gr d).length=gx.length+1:=by rw[←HG.out,Mp,HFL.out];rfl
     exact⟨some ⟨g',0,none⟩,cap',by rw[hgd];rfl,hrd,Ext.grown (HX.out.trans (Id _ _)) hgrow (fun k hk=>by have:=own_base HOW.out k hk;omega),by rw[hgd];exact hcp.1,hcp.2⟩
theorem intPlus(x y:Nat)(A A':Option Addr)(c c':Nat)(w:World)(hA:RdU w A (gr x))(hA':RdU w A' (gr y))(hn:(gr x).length<=1000000)(hn':(gr y).length<=1000000) :
  Calls prog 140 #[.slice A (gr x).length c,.slice A' (gr y).length c'] w (MagEnds (x+y) w):=by
 rcases Nw (gr x).length (gr y).length with h|h
 ·rw[Q6];exact intPlusA y x A' A c' c w (by omega) hA' hA hn' _ (.inr ⟨rfl,h⟩)
 ·exact intPlusA x y A A' c c' w h hA hA' hn _ (.inl rfl)
theorem blk_at(w:World)(t:TypeId)(cs:Array Value)(g:Nat)(hg:w.heap.size=g):Blk (w.alloc (.cells cs t)) g t cs:=by subst hg;exact ID w t cs
theorem RdU.far{w:World}{A:Option Addr}{gs:List Nat}(h:RdU w A gs){g i:Nat}(u:Value)(hne:0<gs.length->∀b o,A=some ⟨b,o,none⟩->b≠g):RdU (w.setCell ⟨g,i,none⟩ u) A gs:=by
 refine⟨h.1,fun hn=>?_⟩;obtain⟨b,o,rfl,hb,hc⟩:=h.2 hn;have hbg:=hne hn b o rfl;refine⟨b,o,rfl,by simpa[World.setCell] using hb,fun j v hv=>?_⟩;rw[←hc j v hv];unfold World.cell?;rw[Px w ⟨g,i,none⟩ u b hbg]
theorem RdU.box{w:World}{A:Option Addr}{gs:List Nat}(h:RdU w A gs){g:Nat}{t:TypeId}{x:Bool}{B:Option Addr}{n c:Nat}(hb:Blk w g t #[.bool x,.slice B n c]):0<gs.length->∀b o,A=some ⟨b,o,none⟩->b≠g:=by
 intro hn b o e hbg;subst e;subst hbg;have h0:=Reads.cell h (j:=0) (u := .int .u64 (gs[0]'hn)) (by simp[ucells,hn]);rw[Nj,hb.cell o]at h0;match o,h0 with
 |0,h0=>simp at h0
 |1,h0=>simp at h0
 |o+2,h0=>simp at h0
def sgn(b:Bool)(n:Nat):Int:=if b then -(n:Int) else n
def AddEnds(z:Int)(w:World)(e:Ending)(w':World):Prop :=
 ∃b n A c,e = .returned (.agg #[.bool b,.slice A (gr n).length c])∧sgn b n=z∧RdU w' A (gr n)∧Ext w w'∧(gr n).length<=c∧c<=maxLen
theorem intAdd_same(b:Bool)(x y:Nat)(A A':Option Addr)(c c':Nat)(w:World)(hA:RdU w A (gr x))(hA':RdU w A' (gr y))(hn:(gr x).length<=1000000)(hn':(gr y).length<=1000000) :
  Calls prog 68 #[.agg #[.bool b,.slice A (gr x).length c],.agg #[.bool b,.slice A' (gr y).length c']] w (AddEnds (sgn b x+sgn b y) w):=by
 have HA:=ME hA;have HA':=ME hA';have HPL:=ME (fun W h1 h2=>intPlus x y A A' c c' W h1 h2 hn hn');have HS:Hid (sgn b (x+y)=sgn b x+sgn b y):=ME (by unfold sgn;cases b <;> simp;omega);generalize gr x=gx at *;generalize gr y=gy at *;clear hA hA';have HX0:Hid (Ext w (((w.alloc (.cells #[.bool b,.slice A gx.length c] 112)).alloc (.cells #[.bool b,.slice A' gy.length c'] 112)).alloc (.cells #[.bool false,.slice none 0 0] 112))):=ME (((Id _ _).alloc _).alloc _);have HBR:=ME (blk_at ((w.alloc (.cells #[.bool b,.slice A gx.length c] 112)).alloc (.cells #[.bool b,.slice A' gy.length c'] 112)) 112 #[.bool false,.slice none 0 0] (w.heap.size+1+1) (by simp));have hn1:w.heap.size≠w.heap.size+1+1:=by omega
 have hn2:w.heap.size+1+1≠w.heap.size:=by omega
 have hn3:¬ (w.heap.size=w.heap.size+1+1):=by omega
 go_enter func68,ntmps68;go_wp2_with fail
 go_region_held3 (fun w'=>w'.cell? ⟨w.heap.size,0,none⟩=some (.bool b)∧w'.cell? ⟨w.heap.size,1,none⟩=some (.slice A gx.length c)∧w'.cell? ⟨w.heap.size+1,1,none⟩=some (.slice A' gy.length c'))
  (go_keep)
  (first
   |(go_at_call 140;refine(HPL.out _ (HA.out.ext HX0.out.drew) (HA'.out.ext HX0.out.drew)).mono ?_;rintro e w1⟨A1,c1,rfl,hrd,hx1,hc1,hc2⟩;have hbr:=HBR.out.drew.ext hx1;have hq0:=hbr.cell 0;have hq1:=hbr.cell 1;have hf0:=hbr.frozen 0;have hf1:=hbr.frozen 1;have hbx:=((((blk_at w 112 #[.bool b,.slice A gx.length c] w.heap.size rfl).alloc (.cells #[.bool b,.slice A' gy.length c'] 112)).alloc (.cells #[.bool false,.slice none 0 0] 112)).drew).ext hx1;have hy0:=hbx.cell 0;have hy1:=hbx.cell 1;have hby:=(((blk_at (w.alloc (.cells #[.bool b,.slice A gx.length c] 112)) 112 #[.bool b,.slice A' gy.length c'] (w.heap.size+1) (by simp)).alloc (.cells #[.bool false,.slice none 0 0] 112)).drew).ext hx1;have hz1:=hby.cell 1;simp only[Mk,Mm,Ms]at hq0 hq1 hy0 hy1 hz1;have HBR1:=ME hbr;have HX1:=ME (HX0.out.drew.trans hx1);have HRD:=ME hrd;have HC:=ME (MC hc1 hc2);clear hbr hbx hby hx1 hrd hc1 hc2))
 all_goals
  go_wp2_with fail;refine MI (results_num rfl _ _ (w.heap.size+1+1) (.bool b) (.slice A1 (gr (x+y)).length c1) rfl ((HBR1.out.set_ 0 (.bool b)).set_ 1 (.slice A1 (gr (x+y)).length c1))) rfl ?_;have hne:=HRD.out.box HBR1.out;exact⟨b,x+y,A1,c1,rfl,HS.out,(HRD.out.far (.bool b) hne).far _ hne,(HX1.out.setCell (p:=⟨w.heap.size+1+1,0,none⟩) (by show w.heap.size<=w.heap.size+1+1;omega) _).setCell (p:=⟨w.heap.size+1+1,1,none⟩) (by show w.heap.size<=w.heap.size+1+1;omega) _,HC.out.1,HC.out.2⟩
theorem intAdd_diff(b:Bool)(x y:Nat)(A A':Option Addr)(c c':Nat)(w:World)(hA:RdU w A (gr x))(hA':RdU w A' (gr y))(hn:(gr x).length<=1000000)(hn':(gr y).length<=1000000) :
  Calls prog 68 #[.agg #[.bool b,.slice A (gr x).length c],.agg #[.bool (!b),.slice A' (gr y).length c']] w (AddEnds (sgn b x+sgn (!b) y) w):=by
 have HA:=ME hA;have HA':=ME hA';have HCP:=ME (fun W h1 h2=>intCompare x y A A' c c' W h1 h2 hn hn');have HM1:=ME (fun h W h1 h2=>intMinus x y h A A' c c' W h1 h2 hn hn');have HM2:=ME (fun h W h1 h2=>intMinus y x h A' A c' c W h1 h2 hn' hn);have HS1:Hid (y<=x->sgn b (x-y)=sgn b x+sgn (!b) y):=ME (by intro h;unfold sgn;cases b <;> simp <;> omega);have HS2:Hid (x<=y->sgn (!b) (y-x)=sgn b x+sgn (!b) y):=ME (by intro h;unfold sgn;cases b <;> simp <;> omega);generalize gr x=gx at *;generalize gr y=gy at *;clear hA hA';have hbb:(b == !b)=false:=by cases b <;> rfl
 generalize hnb:(!b)=nb at *;clear hnb;have HX0:Hid (Ext w (((w.alloc (.cells #[.bool b,.slice A gx.length c] 112)).alloc (.cells #[.bool nb,.slice A' gy.length c'] 112)).alloc (.cells #[.bool false,.slice none 0 0] 112))):=ME (((Id _ _).alloc _).alloc _);have HBR:=ME (blk_at ((w.alloc (.cells #[.bool b,.slice A gx.length c] 112)).alloc (.cells #[.bool nb,.slice A' gy.length c'] 112)) 112 #[.bool false,.slice none 0 0] (w.heap.size+1+1) (by simp));have HBX:=ME (((blk_at w 112 #[.bool b,.slice A gx.length c] w.heap.size rfl).alloc (.cells #[.bool nb,.slice A' gy.length c'] 112)).alloc (.cells #[.bool false,.slice none 0 0] 112));have HBY:=ME ((blk_at (w.alloc (.cells #[.bool b,.slice A gx.length c] 112)) 112 #[.bool nb,.slice A' gy.length c'] (w.heap.size+1) (by simp)).alloc (.cells #[.bool false,.slice none 0 0] 112));have hn1:w.heap.size≠w.heap.size+1+1:=by omega
 have hn2:w.heap.size+1+1≠w.heap.size:=by omega
 have hn3:¬ (w.heap.size=w.heap.size+1+1):=by omega
 go_enter func68,ntmps68;go_wp2_with fail;refine(HCP.out _ (HA.out.ext HX0.out) (HA'.out.ext HX0.out)).mono ?_;rintro e w1⟨hx1,r,rfl,hcase⟩;have hbx:=HBX.out.ext hx1;have hby:=HBY.out.ext hx1;have hbr:=HBR.out.ext hx1;have x0:=hbx.cell 0;have x1:=hbx.cell 1;have y0:=hby.cell 0;have y1:=hby.cell 1;have xf0:=hbx.frozen 0;have xf1:=hbx.frozen 1;have yf0:=hby.frozen 0;have yf1:=hby.frozen 1;simp only[Mk,Mm,Ms]at x0 x1 y0 y1;have HX1:=ME (HX0.out.trans hx1);have HBX1:=ME hbx;have HBY1:=ME hby;have HBR1:=ME hbr;clear hbx hby hbr hx1 HX0 HBX HBY HBR;by_cases hr:r<0
 ·have hle:x<=y:=by omega
  have HM:=ME (HM2.out hle);have HS:=ME (HS2.out hle);clear hcase hle;have HBXW:Hid (Blk ((((w1.setCell ⟨w.heap.size,0,none⟩ (.bool nb)).setCell ⟨w.heap.size,1,none⟩ (.slice A' gy.length c')).setCell ⟨w.heap.size+1,0,none⟩ (.bool b)).setCell ⟨w.heap.size+1,1,none⟩ (.slice A gx.length c)) w.heap.size 112 #[.bool nb,.slice A' gy.length c']):=ME ((((HBX1.out.set_ 0 (.bool nb)).set_ 1 (.slice A' gy.length c')).far (p:=⟨w.heap.size+1,0,none⟩) (by show w.heap.size≠w.heap.size+1;omega) _).far (p:=⟨w.heap.size+1,1,none⟩) (by show w.heap.size≠w.heap.size+1;omega) _);have HBYW:Hid (Blk ((((w1.setCell ⟨w.heap.size,0,none⟩ (.bool nb)).setCell ⟨w.heap.size,1,none⟩ (.slice A' gy.length c')).setCell ⟨w.heap.size+1,0,none⟩ (.bool b)).setCell ⟨w.heap.size+1,1,none⟩ (.slice A gx.length c)) (w.heap.size+1) 112 #[.bool b,.slice A gx.length c]):=ME ((((HBY1.out.far (p:=⟨w.heap.size,0,none⟩) (by show w.heap.size+1≠w.heap.size;omega) (.bool nb)).far (p:=⟨w.heap.size,1,none⟩) (by show w.heap.size+1≠w.heap.size;omega) (.slice A' gy.length c')).set_ 0 (.bool b)).set_ 1 (.slice A gx.length c));have HBRW:Hid (Blk ((((w1.setCell ⟨w.heap.size,0,none⟩ (.bool nb)).setCell ⟨w.heap.size,1,none⟩ (.slice A' gy.length c')).setCell ⟨w.heap.size+1,0,none⟩ (.bool b)).setCell ⟨w.heap.size+1,1,none⟩ (.slice A gx.length c)) (w.heap.size+1+1) 112 #[.bool false,.slice none 0 0]):=ME ((((HBR1.out.far (p:=⟨w.heap.size,0,none⟩) (by show w.heap.size+1+1≠w.heap.size;omega) _).far (p:=⟨w.heap.size,1,none⟩) (by show w.heap.size+1+1≠w.heap.size;omega) _).far (p:=⟨w.heap.size+1,0,none⟩) (by show w.heap.size+1+1≠w.heap.size+1;omega) _).far (p:=⟨w.heap.size+1,1,none⟩) (by show w.heap.size+1+1≠w.heap.size+1;omega) _);have HXW:Hid (Ext w ((((w1.setCell ⟨w.heap.size,0,none⟩ (.bool nb)).setCell ⟨w.heap.size,1,none⟩ (.slice A' gy.length c')).setCell ⟨w.heap.size+1,0,none⟩ (.bool b)).setCell ⟨w.heap.size+1,1,none⟩ (.slice A gx.length c))):=ME ((((HX1.out.setCell (p:=⟨w.heap.size,0,none⟩) (Mn _) _).setCell (p:=⟨w.heap.size,1,none⟩) (Mn _) _).setCell (p:=⟨w.heap.size+1,0,none⟩) (QQ _) _).setCell (p:=⟨w.heap.size+1,1,none⟩) (QQ _) _);go_wp2_with fail;generalize ((((w1.setCell ⟨w.heap.size,0,none⟩ (.bool nb)).setCell ⟨w.heap.size,1,none⟩ (.slice A' gy.length c')).setCell ⟨w.heap.size+1,0,none⟩ (.bool b)).setCell ⟨w.heap.size+1,1,none⟩ (.slice A gx.length c))=W at *;have x0':=HBXW.out.cell 0;have x1':=HBXW.out.cell 1;have y1':=HBYW.out.cell 1;simp only[Mk,Mm,Ms]at x0' x1' y1'
  go_region_held3 (fun w'=>w'.cell? ⟨w.heap.size,0,none⟩=some (.bool nb)∧w'.cell? ⟨w.heap.size,1,none⟩=some (.slice A' gy.length c')∧w'.cell? ⟨w.heap.size+1,1,none⟩=some (.slice A gx.length c))
   (go_keep)
   (first
    |(go_at_call 141;refine(HM.out _ (HA'.out.ext HXW.out.drew) (HA.out.ext HXW.out.drew)).mono ?_;rintro e w2⟨A1,c1,rfl,hrd,hx2,hc1,hc2⟩;have hbr:=HBRW.out.drew.ext hx2;have q0:=hbr.cell 0;have q1:=hbr.cell 1;have f0:=hbr.frozen 0;have f1:=hbr.frozen 1;have hbx:=HBXW.out.drew.ext hx2;have u0:=hbx.cell 0;have u1:=hbx.cell 1;have hby:=HBYW.out.drew.ext hx2;have v1:=hby.cell 1;simp only[Mk,Mm,Ms]at q0 q1 u0 u1 v1;have HBR2:=ME hbr;have HX2:=ME (HXW.out.drew.trans hx2);have HRD:=ME hrd;have HC:=ME (MC hc1 hc2);clear hbr hbx hby hx2 hrd hc1 hc2))
  all_goals
   go_wp2_with fail;refine MI (results_num rfl _ _ (w.heap.size+1+1) (.bool nb) (.slice A1 (gr (y-x)).length c1) rfl ((HBR2.out.set_ 0 (.bool nb)).set_ 1 (.slice A1 (gr (y-x)).length c1))) rfl ?_;have hne:=HRD.out.box HBR2.out;exact⟨nb,y-x,A1,c1,rfl,HS.out,(HRD.out.far (.bool nb) hne).far _ hne,(HX2.out.setCell (p:=⟨w.heap.size+1+1,0,none⟩) (by show w.heap.size<=w.heap.size+1+1;omega) _).setCell (p:=⟨w.heap.size+1+1,1,none⟩) (by show w.heap.size<=w.heap.size+1+1;omega) _,HC.out.1,HC.out.2⟩
 ·have hle:y<=x:=by omega
  have HM:=ME (HM1.out hle);have HS:=ME (HS1.out hle);clear hcase hle;go_wp2_with fail;have HBXW:=HBX1;have HBYW:=HBY1;have HBRW:=HBR1;have HXW:=HX1
  go_region_held3 (fun w'=>w'.cell? ⟨w.heap.size,0,none⟩=some (.bool b)∧w'.cell? ⟨w.heap.size,1,none⟩=some (.slice A gx.length c)∧w'.cell? ⟨w.heap.size+1,1,none⟩=some (.slice A' gy.length c'))
   (go_keep)
   (first
    |(go_at_call 141;refine(HM.out _ (HA.out.ext HXW.out.drew) (HA'.out.ext HXW.out.drew)).mono ?_;rintro e w2⟨A1,c1,rfl,hrd,hx2,hc1,hc2⟩;have hbr:=HBRW.out.drew.ext hx2;have q0:=hbr.cell 0;have q1:=hbr.cell 1;have f0:=hbr.frozen 0;have f1:=hbr.frozen 1;have hbx:=HBXW.out.drew.ext hx2;have u0:=hbx.cell 0;have u1:=hbx.cell 1;have hby:=HBYW.out.drew.ext hx2;have v1:=hby.cell 1;simp only[Mk,Mm,Ms]at q0 q1 u0 u1 v1;have HBR2:=ME hbr;have HX2:=ME (HXW.out.drew.trans hx2);have HRD:=ME hrd;have HC:=ME (MC hc1 hc2);clear hbr hbx hby hx2 hrd hc1 hc2))
  all_goals
   go_wp2_with fail;refine MI (results_num rfl _ _ (w.heap.size+1+1) (.bool b) (.slice A1 (gr (x-y)).length c1) rfl ((HBR2.out.set_ 0 (.bool b)).set_ 1 (.slice A1 (gr (x-y)).length c1))) rfl ?_;have hne:=HRD.out.box HBR2.out;exact⟨b,x-y,A1,c1,rfl,HS.out,(HRD.out.far (.bool b) hne).far _ hne,(HX2.out.setCell (p:=⟨w.heap.size+1+1,0,none⟩) (by show w.heap.size<=w.heap.size+1+1;omega) _).setCell (p:=⟨w.heap.size+1+1,1,none⟩) (by show w.heap.size<=w.heap.size+1+1;omega) _,HC.out.1,HC.out.2⟩
theorem intAdd(b b':Bool)(x y:Nat)(A A':Option Addr)(c c':Nat)(w:World)(hA:RdU w A (gr x))(hA':RdU w A' (gr y))(hn:(gr x).length<=1000000)(hn':(gr y).length<=1000000) :
  Calls prog 68 #[.agg #[.bool b,.slice A (gr x).length c],.agg #[.bool b',.slice A' (gr y).length c']] w (AddEnds (sgn b x+sgn b' y) w):=by
 by_cases h:b'=b
 ·subst h;exact intAdd_same b' x y A A' c c' w hA hA' hn hn'
 ·have e:b'=!b:=by cases b <;> cases b' <;> simp_all
  subst e;exact intAdd_diff b x y A A' c c' w hA hA' hn hn'
end
section
open Go.RowKit Go.Shelf
theorem cell_in{w:World}{p:Addr}{v:Value}(h:w.cell? p=some v):p.block<w.heap.size:=by
 rcases Nw p.block w.heap.size with k|k
 ·exact k
 ·unfold World.cell? at h;rw[OS k]at h;simp at h
structure Env (w:World):Prop where
 tab:Lib.TabIs prog w "internal/strconv.uint64pow10" .u64 Lib.pow10Tab
 len:∃m:Int,w.cell? ⟨3,0,none⟩=some (.int .i64 m)
 big:2<w.heap.size∧3<w.heap.size
 syn:∃v,w.cell? ⟨0,0,none⟩=some v∧(v = .nilIface∨∃te pe,v = .iface te pe)
 rng:∃v,w.cell? ⟨1,0,none⟩=some v∧(v = .nilIface∨∃te pe,v = .iface te pe)
theorem Env.ext{w w':World}(h:Env w)(he:Ext w w'):Env w':=by
 refine⟨?_,?_,⟨M5 h.big.1 he.size,M5 h.big.2 he.size⟩,?_,?_⟩
 ·exact var?_below he (g:=2) (by kernel_rfl) h.big.1 h.tab
 ·obtain⟨m,hm⟩:=h.len;exact⟨m,(he.cell (p:=⟨3,0,none⟩) h.big.2).trans hm⟩
 ·obtain⟨v,hv,k⟩:=h.syn;exact⟨v,(he.cell (p:=⟨0,0,none⟩) (cell_in hv)).trans hv,k⟩
 ·obtain⟨v,hv,k⟩:=h.rng;exact⟨v,(he.cell (p:=⟨1,0,none⟩) (cell_in hv)).trans hv,k⟩
theorem itoa_any(n:Int)(w:World)(h0 : -9223372036854775808<=n)(h1:n<=9223372036854775807)(hE:Env w) :
  Calls prog 187 #[.int .i64 n] w fun e w'=>e = .returned (.string (bs (Lib.itoa n)))∧Ext w w':=by
 refine(strconv_Itoa n h0 h1 w hE.tab).mono ?_;rintro e w'⟨rfl,k,os,rfl⟩;exact⟨rfl,Lib.below_grow _ w (Mn _) k os⟩
theorem repeat_any(l:Bs)(c:Int)(w:World)(h0:0<=c)(hc:c<=1000)(hl:l.length<=1000) :
  Calls prog 146 #[.string (bs l),.int .i64 c] w fun e w'=>e = .returned (.string (bs (Lib.repeatL l c.toNat)))∧Ext w w':=by
 obtain⟨n,rfl⟩:=Int.eq_ofNat_of_zero_le h0;refine(strings_Repeat (bs l) n w (by omega) (by rw[size_bs];exact Mx (P9 hl (show n<=1000 by omega)) (by decide))).mono ?_;rintro e w'⟨rfl,hb⟩;exact⟨by rw[data_bs,NP];rfl,hb⟩
end
section
open Go.RowKit Go.Lib Go.Sort
theorem fmtIn(u:Nat)(hu64:u<9223372036854775808)(w:World)(hE:Env w) :
  Calls prog 213 #[.int .u64 u,.int .i64 10] w fun e w'=>e = .returned (.string (bs (Lib.decDigits u)))∧Ext w w':=by
 by_cases hs:u<100
 ·go_enter func213,ntmps213;go_wp2_with fail;refine(internal_strconv_small u hs _).mono ?_;rintro e w'⟨rfl,rfl⟩;go_wp2_with fail;go_ret;exact⟨rfl,iD _⟩
 ·have hu1:1<=u:=by omega
  have hu:u<18446744073709551616:=by omega
  have hnd20:Lib.nDigits u<=20:=by have:=Lib.numDigits_eq u hu1 hu;split at this <;> omega
  have hH0:=Lib.holds_zero0 w 291 (Lib.nDigits u) (by omega);have hfmt:=internal_strconv_formatBase10 w.heap.size 0 24 u (Array.replicate (Lib.nDigits u) 0) (w.alloc (.cells Lib.zeros24 291)) hH0 (by rw[PD];exact Lib.lt_pow_nDigits u) hu (by rw[PD];omega);rw[PD]at hfmt;have HH0:=ME hH0;have HF:=ME hfmt;have HT:=ME (Lib.tabIs_alloc hE.tab (.cells Lib.zeros24 291));clear hH0 hfmt;have hal:prog.arrayLen 291=24:=by kernel_rfl
  have hsl:∀W,(Instr.sliceAt 291 (.pointer (some ⟨w.heap.size,0,none⟩)) none (some (.int .i64 (Lib.nDigits u:Int))) none).run prog W = .ok (.slice (some ⟨w.heap.size,0,none⟩) (Lib.nDigits u) 24) W:=fun W=>by
   rw[run_sliceAt_array_h W 291 ⟨w.heap.size,0,none⟩ (by simp[Program.arrayLen,Program.elem,underlying291]) .i64 (Lib.nDigits u:Int) (by omega) (by rw[hal];omega)];rw[hal,NP,show prog.elem 291=5 from by kernel_rfl,sizeOf5];simp[Result.andThen,slicedAt,Addr.add]
  clear hal;go_enter func213,ntmps213;go_wp2_with fail;refine(internal_strconv_numDigits u hu1 hu _ HT.out).mono ?_;rintro e w'⟨rfl,rfl⟩;go_wp2_with fail;refine HF.out.mono ?_;rintro e w'⟨rfl,k,v',dk,rfl,hF⟩
  have hcv:(convert 159 9 (.slice (some ⟨w.heap.size,0,none⟩) (Lib.nDigits u) 24)).run prog ((putRow (fun(b:UInt8)=>Value.int .u8 (b.toNat:Int)) (w.alloc (.cells Lib.zeros24 291)) w.heap.size 0 dk).drewN k) = .ok (.string ⟨(Lib.decDigits u).toArray⟩) ((putRow (fun(b:UInt8)=>Value.int .u8 (b.toNat:Int)) (w.alloc (.cells Lib.zeros24 291)) w.heap.size 0 dk).drewN k):=by
   have h:=run_convert_bytes_back (P:=prog) ((putRow (fun(b:UInt8)=>Value.int .u8 (b.toNat:Int)) (w.alloc (.cells Lib.zeros24 291)) w.heap.size 0 dk).drewN k) 159 9 5 ⟨w.heap.size,0,none⟩ 24 (Lib.decDigits u) underlying159 underlying5 Nd (fun j hj=>by
    rw[Lib.row_is_numeral hF j hj,Lib.add_plain,World.cell?_drewN];exact cell?_putRow (fun(b:UInt8)=>Value.int .u8 (b.toNat:Int)) _ w.heap.size 0 _ dk HH0.out (by rw[hF.size,PD]) j (by rw[hF.size];rw[Lib.decDigits_length]at hj;exact hj))
   rw[Lib.decDigits_length]at h;exact h
  obtain⟨os,eo⟩:=Lib.fin_at w (.cells Lib.zeros24 291) dk k 0;have HX:Hid (Ext w ((putRow (fun(b:UInt8)=>Value.int .u8 (b.toNat:Int)) (w.alloc (.cells Lib.zeros24 291)) w.heap.size 0 dk).drewN k)):=ME (by rw[eo];exact Lib.below_grow _ w (Mn _) k os);clear eo hF;generalize (putRow (fun(b:UInt8)=>Value.int .u8 (b.toNat:Int)) (w.alloc (.cells Lib.zeros24 291)) w.heap.size 0 dk).drewN k=W at *;go_wp2_with fail;go_ret;exact⟨rfl,HX.out⟩
theorem dec_pos(u:Nat)(h:u≠0):Lib.decDigits u=dig10 u:=by
 induction u using Nat.strongRecOn with
 |ind u ih =>
  rw[Lib.decDigits];by_cases h10:u<10
  ·rw[dif_pos h10,dig10_pos h,show u / 10=0 by omega,dig10_zero,O3 h10];rfl
  ·rw[dif_neg h10,dig10_pos h,ih (u / 10) (by omega) (by omega)]
theorem dec_fmtU(u:Nat):Lib.decDigits u=fmtU u:=by
 unfold fmtU;split
 ·rename_i h;subst h;rw[Lib.decDigits];rfl
 ·exact dec_pos u (by assumption)
theorem fmtUint(u:Nat)(hu64:u<9223372036854775808)(w:World)(hE:Env w) :
  Calls prog 145 #[.int .u64 u,.int .i64 10] w fun e w'=>e = .returned (.string (bs (fmtU u)))∧Ext w w':=by
 go_enter func145,ntmps145;go_wp2_with fail;refine(fmtIn u hu64 _ hE).mono ?_;rw[dec_fmtU];rintro e w'⟨rfl,hx⟩;go_wp2_with fail;go_ret;exact⟨rfl,hx⟩
end
end Go.Proofs.YtaegjkllenlfpaaGreatDoor
namespace Go.Proofs
open Go.Shelf
def Tryz.lays240_ren:Go.Shelf.Ren:=⟨fun | 240=>212 | 276=>292|n=>n,fun | 70=>180 | 72=>182 | 37=>159 | 164=>289 | 75=>175 | 80=>188 | 20=>20 | 0=>0 | 3=>3 | 4=>4 | 5=>5 | 9=>9|n=>n,fun|n=>n⟩
def Tryz.lays166_ren:Go.Shelf.Ren:=⟨fun | 166=>144 | 240=>212 | 276=>292|n=>n,fun | 70=>180 | 72=>182 | 37=>159 | 164=>289 | 75=>175 | 80=>188 | 20=>20 | 0=>0 | 3=>3 | 4=>4 | 5=>5 | 9=>9|n=>n,fun|n=>n⟩
theorem Tryz.lays166:Go.Proofs.Lays.n166 Tryz.prog Tryz.lays166_ren:={
 mixed:=by kernel_rfl
 f166:=Tryz.func144.trans (congrArg some (by kernel_rfl))
 f240:=Tryz.func212.trans (congrArg some (by kernel_rfl))
 f276:=Tryz.func292.trans (congrArg some (by kernel_rfl))
 t0:=Tryz.underlying0
 a0:=Tryz.isAgg0
 z0:=Tryz.sizeOf0
 v0:=Tryz.zeroValue0
 t3:=Tryz.underlying3
 a3:=Tryz.isAgg3
 z3:=Tryz.sizeOf3
 v3:=Tryz.zeroValue3
 t4:=Tryz.underlying4
 a4:=Tryz.isAgg4
 z4:=Tryz.sizeOf4
 v4:=Tryz.zeroValue4
 t9:=Tryz.underlying9
 a9:=Tryz.isAgg9
 z9:=Tryz.sizeOf9
 v9:=Tryz.zeroValue9
 t20:=Tryz.underlying20
 a20:=Tryz.isAgg20
 z20:=Tryz.sizeOf20
 v20:=Tryz.zeroValue20
 t37:=Tryz.underlying159
 a37:=Tryz.isAgg159
 z37:=Tryz.sizeOf159
 v37:=Tryz.zeroValue159
 t70:=Tryz.underlying180
 a70:=Tryz.isAgg180
 z70:=Tryz.sizeOf180
 v70:=Tryz.zeroValue180
 t72:=Tryz.underlying182
 a72:=Tryz.isAgg182
 z72:=Tryz.sizeOf182
 v72:=Tryz.zeroValue182
 t75:=Tryz.underlying175
 a75:=Tryz.isAgg175
 z75:=Tryz.sizeOf175
 v75:=Tryz.zeroValue175
 t164:=Tryz.underlying289
 a164:=Tryz.isAgg289
 z164:=Tryz.sizeOf289
 v164:=Tryz.zeroValue289
}
def Tryz.lays167_ren:Go.Shelf.Ren:=⟨fun | 167=>143 | 240=>212 | 276=>292|n=>n,fun | 70=>180 | 72=>182 | 37=>159 | 164=>289 | 75=>175 | 80=>188 | 20=>20 | 0=>0 | 3=>3 | 4=>4 | 5=>5 | 9=>9|n=>n,fun|n=>n⟩
theorem Tryz.lays167:Go.Proofs.Lays.n167 Tryz.prog Tryz.lays167_ren:={
 mixed:=by kernel_rfl
 f167:=Tryz.func143.trans (congrArg some (by kernel_rfl))
 f240:=Tryz.func212.trans (congrArg some (by kernel_rfl))
 f276:=Tryz.func292.trans (congrArg some (by kernel_rfl))
 t0:=Tryz.underlying0
 a0:=Tryz.isAgg0
 z0:=Tryz.sizeOf0
 v0:=Tryz.zeroValue0
 t4:=Tryz.underlying4
 a4:=Tryz.isAgg4
 z4:=Tryz.sizeOf4
 v4:=Tryz.zeroValue4
 t5:=Tryz.underlying5
 a5:=Tryz.isAgg5
 z5:=Tryz.sizeOf5
 v5:=Tryz.zeroValue5
 t9:=Tryz.underlying9
 a9:=Tryz.isAgg9
 z9:=Tryz.sizeOf9
 v9:=Tryz.zeroValue9
 t20:=Tryz.underlying20
 a20:=Tryz.isAgg20
 z20:=Tryz.sizeOf20
 v20:=Tryz.zeroValue20
 t37:=Tryz.underlying159
 a37:=Tryz.isAgg159
 z37:=Tryz.sizeOf159
 v37:=Tryz.zeroValue159
 t70:=Tryz.underlying180
 a70:=Tryz.isAgg180
 z70:=Tryz.sizeOf180
 v70:=Tryz.zeroValue180
 t72:=Tryz.underlying182
 a72:=Tryz.isAgg182
 z72:=Tryz.sizeOf182
 v72:=Tryz.zeroValue182
 t75:=Tryz.underlying175
 a75:=Tryz.isAgg175
 z75:=Tryz.sizeOf175
 v75:=Tryz.zeroValue175
 t164:=Tryz.underlying289
 a164:=Tryz.isAgg289
 z164:=Tryz.sizeOf289
 v164:=Tryz.zeroValue289
}
theorem Tryz.Builder_Extra_166:Builder.Extra Tryz.prog Tryz.lays166_ren:={
 sizeBuilder:=by kernel_rfl
 liesBuilder:=by kernel_rfl
 t5:=Tryz.underlying5
 a5:=Tryz.isAgg5
 z5:=Tryz.sizeOf5
 v5:=Tryz.zeroValue5
 infoByte:=by kernel_rfl
 cellsByte:=by kernel_rfl
 sizeByte:=by kernel_rfl
 neB5:=by decide
}
theorem Tryz.Builder_Extra_167:Builder.Extra Tryz.prog Tryz.lays167_ren:={
 sizeBuilder:=by kernel_rfl
 liesBuilder:=by kernel_rfl
 t5:=Tryz.underlying5
 a5:=Tryz.isAgg5
 z5:=Tryz.sizeOf5
 v5:=Tryz.zeroValue5
 infoByte:=by kernel_rfl
 cellsByte:=by kernel_rfl
 sizeByte:=by kernel_rfl
 neB5:=by decide
}
open Go.RowKit in
theorem Tryz.Builder_WriteString_k(B b:Nat)(bs:List Value)(s:ByteArray)(w:World)(h:Lib.IsBuilderF 182 5 B b bs w)(hlen:bs.length+s.size<=140737488355328)(hBw:B<=w.heap.size) :
  Calls Tryz.prog 144 #[.pointer (some ⟨b,0,none⟩),.string s] w fun e w'=>e = .returned (.tuple #[.int .i64 s.size,.nilIface])∧(Lib.BuilderAtF 182 5 B b (.pointer (some ⟨b,0,none⟩)) (bs++Lib.strCells s) w'∧Below B w w'∧Lib.OthersKept 5 (some b) w w'):=Any.Builder_WriteString_k Tryz.lays166 Tryz.Builder_Extra_166 B b bs s w h hlen hBw
open Go.RowKit in
theorem Tryz.Builder_WriteByte_k(B b:Nat)(bs:List Value)(c:Int)(w:World)(h:Lib.IsBuilderF 182 5 B b bs w)(hlen:bs.length+1<=140737488355328)(hBw:B<=w.heap.size) :
  Calls Tryz.prog 143 #[.pointer (some ⟨b,0,none⟩),.int .u8 c] w fun e w'=>e = .returned .nilIface∧(Lib.BuilderAtF 182 5 B b (.pointer (some ⟨b,0,none⟩)) (bs++[.int .u8 c]) w'∧Below B w w'∧Lib.OthersKept 5 (some b) w w'):=Any.Builder_WriteByte_k Tryz.lays167 Tryz.Builder_Extra_167 B b bs c w h hlen hBw
end Go.Proofs
namespace Go.Proofs.YtaegjkllenlfpaaGreatDoor
open Tryz
section
open Go.RowKit Go.Shelf
attribute [local go_sem] size_bs toList_bs extract_bs get_bs append_bs lit_append append_lit
def Bld(B b:Nat)(l:Bs)(w:World):Prop:=Lib.IsBuilderF 182 5 B b (Lib.byteCells l) w
theorem Bld.ext{B b:Nat}{l:Bs}{w w':World}(h:Bld B b l w)(hx:Ext w w'):Bld B b l w':=by
 have key:∀p,Lib.BuilderAtF 182 5 B b p (Lib.byteCells l) w->Lib.BuilderAtF 182 5 B b p (Lib.byteCells l) w':=by
  rintro p⟨hB,v,hb,hown,hne⟩
  have hlt:b<w.heap.size:=by
   rcases Nw b w.heap.size with h|h
   ·exact h
   ·rw[OS h]at hb;cases hb
  exact⟨hB,v,(hx.block b hlt).trans hb,hown.kept (row:=none) ⟨hx.os,hx.tape,hx.output,hx.size,fun i hi _=>hx.block i hi⟩ (by cases v.ownBlock <;> simp),hne⟩
 rcases h with h|h
 ·exact .inl (key _ h)
 ·exact .inr (key _ h)
theorem Bld.new(w:World):Bld w.heap.size w.heap.size [] (w.alloc (.cells #[.pointer none,.slice none 0 0] 182)) :=
 .inl ⟨Mn _,.slice none 0 0,M4 w _,World.ownsRowF_nil _ _ _ _,by simp[Value.ownBlock]⟩
end
end Go.Proofs.YtaegjkllenlfpaaGreatDoor
