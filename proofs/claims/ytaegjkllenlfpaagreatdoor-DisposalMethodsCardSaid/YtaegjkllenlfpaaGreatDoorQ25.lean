/- The seat's texts, part Q25. -/
import Derived.Test.YtaegjkllenlfpaaGreatDoorQ12
import Derived.Test.YtaegjkllenlfpaaGreatDoorQ21
import Derived.Test.YtaegjkllenlfpaaGreatDoorQ22
import Derived.Test.YtaegjkllenlfpaaGreatDoorQ24
import Derived.Deep.MidRow
import Derived.Laws.AppendOwn
import Derived.BigRegion
import Derived.Deep.RegionHeld3
set_option maxRecDepth 100000
set_option maxHeartbeats 8000000
namespace Go.Proofs.YtaegjkllenlfpaaGreatDoor
variable {w w' U W W' W0 U0:World}{g G base c k GO GQ i X:Nat}{t t0:TypeId}{xs ys:List Value}{fs o ps:List Fr}{id ins:Bs}{x:LotV}{v2:Value}{l ls:List LotV}
section
open Go.RowKit Go.Shelf
attribute [local go_sem] size_bs toList_bs
abbrev kW:Value := .func (.func 224) #[] #[]
abbrev Je(G:Nat):Value := .func (.func 226) #[] #[.pointer (some ⟨G,0,none⟩)]
abbrev Jf(G:Nat):Value := .func (.func 229) #[] #[.pointer (some ⟨G,0,none⟩)]
def cS(G:Nat):List Value:=[.string ⟨#[]⟩,.nilFunc,.bool false,.string ⟨#[102,105,102,111]⟩,kW,.bool false,.string ⟨#[108,105,102,111]⟩,kW,.bool true,.string ⟨#[104,105,103,104,101,115,116]⟩,Jf G,.bool false,.string ⟨#[108,111,119,101,115,116]⟩,Je G,.bool false,.string ⟨#[110,97,109,101,100]⟩,kW,.bool false,.string ⟨#[97,118,101,114,97,103,101]⟩,kW,.bool false]
def dR:List Value:=[.string ⟨#[]⟩,.nilFunc,.bool false,.string ⟨#[]⟩,.nilFunc,.bool false,.string ⟨#[]⟩,.nilFunc,.bool false,.string ⟨#[]⟩,.nilFunc,.bool false,.string ⟨#[]⟩,.nilFunc,.bool false,.string ⟨#[]⟩,.nilFunc,.bool false,.string ⟨#[]⟩,.nilFunc,.bool false]
theorem mV(G:Nat):(cS G).toArray.all (·.oneCell')=true:=by simp[cS,Value.oneCell']
theorem mW(h:Blk w g t xs.toArray)(hl:xs.length=ys.length):Blk (w.setCells g 0 ys) g t ys.toArray:=by
 have:=Blk.sets ys 0 w xs h (by omega);rwa[nF _ _ hl]at this
theorem jY{n:Nat}(h:Blk w g t xs.toArray)(hx:n=xs.length):w.there g 0 n:=fun j hj=>by
 have hj2:j<xs.length:=by omega
 rw[Nat.zero_add,h.cell j,h.frozen j,List.getElem?_toArray,List.getElem?_eq_getElem hj2];exact⟨rfl,rfl⟩
theorem sU(h:Blk w g t xs.toArray):w.rangeAt g 0 xs:=fun j v hv=>by
 rw[Nat.zero_add,h.cell j,List.getElem?_toArray];exact hv
theorem ug{fn:Func}{a:Tmp}(h:fn.results=#[.cell a 192])(tmps:Array Value)(w:World)(g G:Nat)(ha:tmps.getD a undef = .pointer (some ⟨g,0,none⟩))(hb:Blk w g 192 (cS G).toArray) :
  (results fn tmps).run Tryz.prog w = .ok (.agg (cS G).toArray) w:=by
 have hl:=run_loadVar_mid (P:=Tryz.prog) w g 0 192 (cS G) _ (sU hb) Tryz.underlying192 rfl (by kernel_rfl);generalize cS G=cs at *;unfold results;rw[h];simp only[List.mapM_toArray,List.mapM_cons,List.mapM_nil,ha];simp[asAddr,hl]
theorem sV(w:World):Calls Tryz.prog 151 #[] w fun e w'=>e = .returned (.agg (cS (w.heap.size+1)).toArray)∧Blk w' (w.heap.size+1) 127 #[kW]∧Ext w w':=by
 have hB0:=(Blk.new w 192 dR.toArray).alloc (.cells #[kW] 127);have hB1:=Blk.newAt (w.alloc (.cells dR.toArray 192)) 127 #[kW] (w.heap.size+1) (by simp);have hX:Ext w ((w.alloc (.cells dR.toArray 192)).alloc (.cells #[kW] 127)):=(Ext.new _ _).alloc _;have B0:=qh hB0;have B1:=qh hB1;have HX:=qh hX;clear hB0 hB1 hX;dsimp only[dR]at B0 B1 HX;go_enter Tryz.func151,Tryz.ntmps151;go_upto_region 2 with fail;generalize hW2:(w.alloc _).alloc _=W2 at *;clear hW2;obtain⟨G,hG⟩:∃G,w.heap.size+1=G:=⟨_,rfl⟩;have hne:G≠w.heap.size:=by omega
 rw[hG]at B1 ⊢;have HG:=qh hG;clear hG;have q0:=boxCell B1.out;have hth:W2.there w.heap.size 0 (cS G).toArray.size:=jY (xs:=dR) B0.out (by rfl);have hs2:(Tryz.prog.info? 192).map (·.size)=some (cS G).toArray.size:=by kernel_rfl
 have hoc:=mV G;have O0:=qh (mW (xs:=dR) (ys:=cS G) B0.out rfl);have O1:=qh (Blk.sets_far B1.out (g':=w.heap.size) hne (cS G) 0);have HS:=qh (ext_sets (cS G) 0 W2 () HX.out (Nat.le_refl _));go_wp2_with (first|refine wpList_store_mid rfl 192 _ _ rfl w.heap.size 0 (cS G).toArray rfl rfl hth hs2 hoc ?_|fail);refine bodyPost_ret (ug rfl _ _ w.heap.size G rfl O0.out) rfl ?_;exact⟨by rw[HG.out],by rw[HG.out];exact O1.out,HS.out⟩
def f8(G n:Nat):List Value:=((cS G).drop (n*3)).take 3
theorem jZ{n:Nat}(h:n<=6):(f8 G n).length=3:=by
 unfold f8;rw[List.length_take,List.length_drop,show(cS G).length=21 from rfl];omega
theorem Ad(G n:Nat):(f8 G n).toArray.all (·.oneCell')=true:=by
 refine all_oneCell_toArray fun v hv=>?_
 have h:=mV G;rw[List.all_toArray,List.all_eq_true]at h;exact h v (List.mem_of_mem_drop (List.mem_of_mem_take hv))
theorem kH{fn:Func}{a b:Tmp}(h:fn.results=#[.cell a 129,.tmp b])(tmps:Array Value)(w:World)(g:Nat)(cs:List Value)(z:Value)(hn:cs.length=3)(ha:tmps.getD a undef = .pointer (some ⟨g,0,none⟩))(hz:tmps.getD b undef=z)(hb:Blk w g 129 cs.toArray) :
  (results fn tmps).run Tryz.prog w = .ok (.tuple #[.agg cs.toArray,z]) w:=by
 have hl:=run_loadVar_mid (P:=Tryz.prog) w g 0 129 cs _ (sU hb) Tryz.underlying129 rfl (by rw[hn];kernel_rfl);unfold results;rw[h];simp only[List.mapM_toArray,List.mapM_cons,List.mapM_nil,ha,hz];simp[asAddr,hl]
def dP:List Value:=[.string ⟨#[]⟩,.nilFunc,.bool false]
def Ae(n:Nat)(w:World)(e:Ending)(w':World):Prop:=∃G,e = .returned (.tuple #[.agg (f8 G n).toArray,.bool true])∧Blk w' G 127 #[kW]∧w.heap.size<=G∧Ext w w'
theorem j0(n:Nat)(h1:1<=n)(h6:n<=6)(w:World):Calls Tryz.prog 76 #[.int .i64 n] w (Ae n w):=by
 have B0:=qh (Blk.new w 129 dP.toArray);have HX:Hid (Ext w (w.alloc (.cells dP.toArray 129))):=qh (Ext.new _ _);dsimp only[dP]at B0 HX;have g1:¬ ((n:Int)<1):=by omega
 have g2:¬ ((7:Int)<=(n:Int)):=by omega
 have g3:(n:Int)<7:=by omega
 have g4:(0:Int)<=(n:Int):=by omega
 have HN:=qh h6;clear h1 h6;go_enter Tryz.func76,Tryz.ntmps76;go_wp2_with fail;refine(sV _).mono ?_;rintro e W1⟨rfl,hb1,hx1⟩;obtain⟨G,hG⟩:∃G,(w.alloc (.cells #[.string ⟨#[]⟩,.nilFunc,.bool false] 129)).heap.size+1=G:=⟨_,rfl⟩;rw[hG]at hb1 ⊢;have HG:Hid (w.heap.size<=G):=qh (by rw[←hG];simp;omega);have B1:=qh (hb1.ext (Ext.new W1 (.cells dR.toArray 192)));replace B0:=qh ((B0.out.ext hx1).ext (Ext.new W1 (.cells dR.toArray 192)));have B2:=qh (Blk.new W1 192 dR.toArray);replace HX:=qh ((HX.out.trans hx1).trans (Ext.new W1 (.cells dR.toArray 192)));have hlt:Hid (w.heap.size<W1.heap.size∧G<W1.heap.size):=qh ⟨by have:=hx1.size;simp at this;omega,hb1.lt⟩;dsimp only[dR]at B0 B1 B2 HX;clear hG hb1 hx1;have hth:=jY (xs:=dR) B2.out (n:=(cS G).toArray.size) rfl;have hs2:(Tryz.prog.info? 192).map (·.size)=some (cS G).toArray.size:=by kernel_rfl
 have hoc:=mV G;go_upto_region 2 with (first|refine wpList_store_mid rfl 192 _ _ rfl W1.heap.size 0 (cS G).toArray rfl rfl hth hs2 hoc ?_|fail)
 replace B0:=qh (Blk.sets_far B0.out (g':=W1.heap.size) (by have:=hlt.out.1;omega) (cS G) 0);replace B1:=qh (Blk.sets_far B1.out (g':=W1.heap.size) (by have:=hlt.out.2;omega) (cS G) 0);replace B2:=qh (mW (xs:=dR) (ys:=cS G) B2.out rfl);replace HX:=qh (ext_sets (cS G) 0 _ () HX.out (Nat.le_of_lt hlt.out.1));clear hth hs2 hoc;generalize (W1.alloc _).setCells W1.heap.size 0 (cS G)=W3 at *
 have hrg:W3.rangeAt W1.heap.size (n*3) (f8 G n):=fun j v hv=>by
  have h1:((cS G).drop (n*3))[j]? = some v:=by
   unfold f8 at hv;rw[List.getElem?_take]at hv;split at hv
   ·exact hv
   ·cases hv
  rw[List.getElem?_drop]at h1;rw[B2.out.cell,List.getElem?_toArray];exact h1
 have hs3:(Tryz.prog.info? 129).map (·.size)=some (f8 G n).length:=by rw[jZ HN.out];kernel_rfl
 have hs4:(Tryz.prog.info? 129).map (·.size)=some (f8 G n).toArray.size:=by rw[List.size_toArray,jZ HN.out];kernel_rfl
 have hth:=jY (xs:=dP) B0.out (n:=(f8 G n).toArray.size) (by rw[List.size_toArray,jZ HN.out];rfl);have hoc:=Ad G n;have O0:=qh (mW (xs:=dP) (ys:=f8 G n) B0.out (by rw[jZ HN.out];rfl));have HL:=qh (jZ (G:=G) HN.out);have HGW:Hid (Blk (W3.setCells w.heap.size 0 (f8 G n)) G 127 #[kW]):=qh (Blk.sets_far B1.out (dZ B1.out B0.out (by decide)) (f8 G n) 0);have HS:=qh (ext_sets (f8 G n) 0 W3 () HX.out (Nat.le_refl _));generalize hcs:f8 G n=cs at *;have HCS:=qh hcs;clear hcs;go_wp2_with (first|refine wpList_load_mid rfl 129 _ rfl W1.heap.size (n*3) rfl _ _ hrg Tryz.underlying129 rfl hs3 ?_|refine wpList_store_mid rfl 129 _ _ rfl w.heap.size 0 _ rfl rfl hth hs4 hoc ?_|fail);refine bodyPost_ret (kH rfl _ _ w.heap.size cs (.bool true) HL.out rfl rfl O0.out) rfl ?_;exact⟨G,by rw[HCS.out],HGW.out,HG.out,HS.out⟩
theorem Af(n:Int)(hn:n<1∨7<=n)(w:World):Calls Tryz.prog 76 #[.int .i64 n] w fun e w'=>e = .returned (.tuple #[.agg dP.toArray,.bool false])∧Ext w w':=by
 have B0:=qh (Blk.new w 129 dP.toArray);have HX:Hid (Ext w (w.alloc (.cells dP.toArray 129))):=qh (Ext.new _ _);dsimp only[dP]at B0 HX;have HN:=qh hn;clear hn;go_enter Tryz.func76,Tryz.ntmps76;go_wp2_with fail;refine(sV _).mono ?_;rintro e W1⟨rfl,hb1,hx1⟩;generalize (w.alloc (.cells #[.string ⟨#[]⟩,.nilFunc,.bool false] 129)).heap.size+1=G at *;replace B0:=qh ((B0.out.ext hx1).ext (Ext.new W1 (.cells dR.toArray 192)));have B2:=qh (Blk.new W1 192 dR.toArray);have hlt:Hid (w.heap.size<W1.heap.size):=qh (by have:=hx1.size;simp at this;omega);replace HX:=qh ((HX.out.trans hx1).trans (Ext.new W1 (.cells dR.toArray 192)));dsimp only[dR]at B0 B2 HX;clear hb1 hx1;have hth:=jY (xs:=dR) B2.out (n:=(cS G).toArray.size) rfl;have hs2:(Tryz.prog.info? 192).map (·.size)=some (cS G).toArray.size:=by kernel_rfl
 have hoc:=mV G;go_upto_region 2 with (first|refine wpList_store_mid rfl 192 _ _ rfl W1.heap.size 0 (cS G).toArray rfl rfl hth hs2 hoc ?_|fail)
 replace B0:=qh (Blk.sets_far B0.out (g':=W1.heap.size) (by have:=hlt.out;omega) (cS G) 0);replace HX:=qh (ext_sets (cS G) 0 _ () HX.out (Nat.le_of_lt hlt.out));clear hth hs2 hoc B2;generalize (W1.alloc _).setCells W1.heap.size 0 (cS G)=W3 at *;have O0:=qh (mW (xs:=dP) (ys:=dP) B0.out rfl);have HS:=qh (ext_sets dP 0 W3 () HX.out (Nat.le_refl _));have hs4:(Tryz.prog.info? 129).map (·.size)=some dP.toArray.size:=by kernel_rfl
 have hth:=jY (xs:=dP) B0.out (n:=dP.toArray.size) rfl;have hoc:dP.toArray.all (·.oneCell')=true:=by simp[dP,Value.oneCell']
 by_cases h1:n<1
 rotate_left
 focus have h2:7<=n:=by have:=HN.out;omega
 all_goals
  go_wp2_with (first|refine wpList_store_mid rfl 129 _ _ rfl w.heap.size 0 dP.toArray rfl rfl hth hs4 hoc ?_|fail);refine bodyPost_ret (kH rfl _ _ w.heap.size dP (.bool false) rfl rfl rfl O0.out) rfl ?_;exact⟨rfl,HS.out⟩
def VS(x:LotV):Prop:=SmallL x∧kF x
theorem I1(m:Int):WkOn (jt m) VS:=⟨fun a b ha hb=>(Ix m).asy a b ha.2 hb.2,fun a b c ha hb hc=>(Ix m).neg a b c ha.2 hb.2 hc.2⟩
theorem sW(a b:Int):decide (cmpI a b<0)=decide (a<b):=by
 unfold cmpI;split
 ·simp[*]
 ·split <;> simp[*]
theorem BF(a b c d:Int):decide (orI (cmpI a b) (cmpI c d)<0)=(decide (a<b) || (!decide (b<a) && decide (c<d))):=by
 have h1:=sW a b;have h2:=sW c d;unfold orI;by_cases h:cmpI a b=0
 ·rw[if_neg (by simpa using h),h2]
  have:a=b:=by
   unfold cmpI at h;split at h
   ·cases h
   ·split at h
    ·assumption
    ·cases h
  subst this;simp
 ·rw[if_pos h,h1]
  have:a≠b:=by
   rintro rfl;apply h;unfold cmpI;simp
  by_cases h3:a<b
  ·simp[h3]
  ·have:b<a:=by omega
   simp[h3,this]
structure EntP (G n:Nat) (nm:ByteArray) (kf:Nat) (cb:Array Value):Prop where
 eq:f8 G n=[.string nm,.func (.func kf) #[] cb,.bool (decide (n=2))]
 ek:∀args w,(callFunc kf args).run Tryz.prog w = .ok (.enter kf args) w
 cmp:∀w,Env w->Blk w G 127 #[kW]->∀g w1,w.heap.size<=g->Ext w w1->gC kf cb (jt n) VS g w1
theorem qc(G n:Nat)(h1:1<=n)(h6:n<=6):∃nm kf cb,EntP G n nm kf cb:=by
 have first:∀m:Nat,m≠3->m≠4->∀w,Env w->Blk w G 127 #[kW]->∀g w1,w.heap.size<=g->Ext w w1->gC 224 #[] (jt m) VS g w1:=by
  intro m h3 h4 w hE hB g w1 hg hx W ho x y hx1 hy1;refine(Iy x y W).mono ?_;rintro e w'⟨rfl,hx'⟩;refine⟨_,rfl,?_,hx'⟩;rw[sW];unfold jt jh;rw[if_neg (by omega),if_neg (by omega)]
 have hc:n=1∨n=2∨n=3∨n=4∨n=5∨n=6:=by omega
 rcases hc with rfl|rfl|rfl|rfl|rfl|rfl
 ·exact⟨_,_,_,rfl,fun _ _=>by rfl,first 1 (by decide) (by decide)⟩
 ·exact⟨_,_,_,rfl,fun _ _=>by rfl,first 2 (by decide) (by decide)⟩
 ·refine⟨_,229,#[.pointer (some ⟨G,0,none⟩)],rfl,fun _ _=>by rfl,?_⟩;intro w hE hB g w1 hg hx W ho x y hx1 hy1;have hW:=ho.toExt hx hg;refine(Jd x y hx1.1 hy1.1 G W (hE.ext hW) (hB.ext hW)).mono ?_;rintro e w'⟨rfl,hx'⟩;exact⟨_,rfl,by rw[BF];rfl,hx'⟩
 ·refine⟨_,226,#[.pointer (some ⟨G,0,none⟩)],rfl,fun _ _=>by rfl,?_⟩;intro w hE hB g w1 hg hx W ho x y hx1 hy1;have hW:=ho.toExt hx hg;refine(Jc x y hx1.1 hy1.1 G W (hE.ext hW) (hB.ext hW)).mono ?_;rintro e w'⟨rfl,hx'⟩;exact⟨_,rfl,by rw[BF];rfl,hx'⟩
 ·exact⟨_,_,_,rfl,fun _ _=>by rfl,first 5 (by decide) (by decide)⟩
 ·exact⟨_,_,_,rfl,fun _ _=>by rfl,first 6 (by decide) (by decide)⟩
theorem Ah(A:Option Addr)(c:Nat)(cf:Value)(w:World):Calls Tryz.prog 307 #[.slice A 0 c,.int .i64 0,.int .i64 0,cf] w fun e w'=>e = .returned (.tuple #[])∧w'=w:=by
 go_enter Tryz.func307,Tryz.ntmps307;go_wp2_with fail;refine wp_loop_rounds 1 ?_;rw[rounds_succ];go_wp2_with fail;go_end0
 exact⟨rfl,rfl⟩
theorem CZ(A:Option Addr)(c:Nat)(cf:Value)(w:World):Calls Tryz.prog 230 #[.slice A 0 c,.int .i64 0,cf] w fun e w'=>e = .returned (.tuple #[])∧w'=w:=by
 go_enter Tryz.func230,Tryz.ntmps230;go_wp2_with fail;refine wp_loop_rounds 1 ?_;rw[rounds_succ];go_wp2_with fail;refine(Ah A c cf _).mono ?_;rintro e w1⟨rfl,rfl⟩;go_wp2_with fail;refine wp_loop_rounds 1 ?_;rw[rounds_succ];go_wp2_with fail;go_end0
 exact⟨rfl,rfl⟩
theorem uh(A:Option Addr)(c:Nat)(cf:Value)(w:World):Calls Tryz.prog 152 #[.slice A 0 c,cf] w fun e w'=>e = .returned (.tuple #[])∧w'=w:=by
 go_enter Tryz.func152,Tryz.ntmps152;go_wp2_with fail;refine(CZ A c cf _).mono ?_;rintro e w1⟨rfl,rfl⟩;go_wp2_with fail;go_end0
 exact⟨rfl,rfl⟩
theorem Ai(A:Option Addr)(c:Nat)(w:World):Calls Tryz.prog 153 #[.slice A 0 c] w fun e w'=>e = .returned (.tuple #[])∧w'=w:=by
 go_enter Tryz.func153,Tryz.ntmps153;go_wp2_with fail;refine wp_loop_rounds 1 ?_;rw[rounds_succ];go_wp2_with fail;go_end0
 exact⟨rfl,rfl⟩
def Da(n:Nat)(ls:List LotV)(w:World)(e:Ending)(w':World):Prop:=∃A c,e = .returned (.slice A ls.length c)∧(0<ls.length->∃g,A=some ⟨g,0,none⟩∧aD w' g c (bv n ls))∧Ext w w'
theorem qU(n:Nat)(h1:1<=n)(h6:n<=6)(G:Nat)(ls:List LotV)(hv:∀x ∈ ls,VS x)(A:Option Addr)(c:Nat)(w:World)(hE:Env w)(hG:Blk w G 127 #[kW])(hA:aG w A ls)(hn:ls.length<=100000) :
  Calls Tryz.prog 81 #[.agg (f8 G n).toArray,.slice A ls.length c] w (Da n ls w):=by
 obtain⟨nm,kf,cb,hp⟩:=qc G n h1 h6;rw[hp.eq];have ek:=hp.ek;have HC:=qh (hp.cmp w hE hG);have HV:=qh hv;have B0:=qh (Blk.new w 129 #[.string nm,.func (.func kf) #[] cb,.bool (decide (n=2))]);have HX:Hid (Ext w (w.alloc (.cells #[.string nm,.func (.func kf) #[] cb,.bool (decide (n=2))] 129))):=qh (Ext.new _ _);have HCL:=qh (kM ls A c _ (hA.ext HX.out) (by omega));have B00:=B0;clear hp hE hG hA hv;go_enter Tryz.func81,Tryz.ntmps81;go_wp2_with fail;refine HCL.out.mono ?_;rintro e w1⟨A1,c1,rfl,hx1,hrow⟩;replace B0:=qh (B0.out.ext hx1);have HX1:=HX.qt hx1;have q1:=B0.out.cell 1;have q2:=B0.out.cell 2;simp only[List.getElem?_toArray,List.getElem?_cons_zero,List.getElem?_cons_succ]at q1 q2;have hbl:=B0.out.lt;rcases Nat.eq_zero_or_pos ls.length with h0|h0
 ·have e0:ls=[]:=List.length_eq_zero_iff.1 h0;subst e0;clear hrow hx1 HCL;simp only[List.length_nil];go_wp2_with fail;refine(uh A1 c1 _ _).mono ?_;rintro e w2⟨rfl,rfl⟩;by_cases h2:n=2
  focus subst h2;go_wp2_with fail;refine(Ai A1 c1 _).mono ?_;rintro e w2⟨rfl,rfl⟩
  rotate_left
  focus
   have hd:decide (n=2)=false:=by simp[h2]
   rw[hd]at q2
  all_goals
   go_wp2_with fail;go_ret;exact⟨A1,c1,rfl,fun h=>absurd h (by simp),HX1.out⟩
 ·obtain⟨g,rfl,hg,hr⟩:=hrow h0;have hgw:w.heap.size<=g:=by have:=HX.out.size;omega
  have HS:=qh (wa (jt n) VS (I1 n) ls HV.out kf cb ek g c1 w1 (HC.out g w1 hgw HX1.out) hr hn);have HGE:=qh (And.intro hg hgw);have HXA:=qh hx1;clear hr hrow hx1 HCL hg hgw;go_wp2_with fail;refine HS.out.mono ?_;rintro e w2⟨rfl,hr2,ho2⟩;have HR:=qh hr2;have HXA2:=qh (ho2.toExt HXA.out HGE.out.1);have hb2:=B00.out.ext HXA2.out;have q2:=hb2.cell 2;simp only[List.getElem?_toArray,List.getElem?_cons_zero,List.getElem?_cons_succ]at q2;have HX2:=qh (HX.out.trans HXA2.out);have hl:(eX (jt n) ls).length=ls.length:=(lQ ls).length_eq.symm;have HSL:=qh hl;clear hr2 ho2 hb2 hl q1 HS HC HV B0 HX1;by_cases h2:n=2
  ·subst h2;have hrv:=zH (eX (jt ((2:Nat):Int)) ls) g c1 w2 HR.out (by rw[HSL.out];omega);rw[HSL.out]at hrv;have HRV:=qh hrv;clear hrv;go_wp2_with fail;refine HRV.out.mono ?_;rintro e w3⟨rfl,hr3,ho3⟩;have HF:Hid ((0<ls.length->∃g',(some ⟨g,0,none⟩:Option Addr)=some ⟨g',0,none⟩∧aD w3 g' c1 (bv ((2:Nat):Int) ls))∧Ext w w3):=qh ⟨by unfold bv;rw[if_pos (by decide)];exact fun _=>⟨g,rfl,hr3⟩,(ho3.toExt HX2.out HGE.out.2)⟩;clear hr3 ho3;go_wp2_with fail;go_ret;exact⟨_,c1,rfl,HF.out⟩
  ·have hd:decide (n=2)=false:=by simp[h2]
   rw[hd]at q2;have HF:Hid ((0<ls.length->∃g',(some ⟨g,0,none⟩:Option Addr)=some ⟨g',0,none⟩∧aD w2 g' c1 (bv n ls))∧Ext w w2):=qh ⟨by unfold bv;rw[if_neg (by omega)];exact fun _=>⟨g,rfl,HR.out⟩,HX2.out⟩;go_wp2_with fail;go_ret;exact⟨_,c1,rfl,HF.out⟩
theorem jj(a:Bs)(ha:a.length<=100000):cw 75 #[.string (bs a)] (.bool (decide (0<valI a))):=by
 intro w hE;have HC:=qh (ij a ha w hE)
 have HD:Hid (decide (0<cmpI (valI a) 0)=decide (0<valI a)):=qh (by
  have:=@dq (valI a) 0;rw[decide_eq_decide];omega)
 generalize decide (0<valI a)=b at *;generalize cmpI (valI a) 0=k at *;go_enter Tryz.func75,Tryz.ntmps75;go_wp2_with fail;refine HC.out.mono ?_;rintro e w1⟨rfl,hx1⟩;have HX:=qh hx1;clear hx1;go_wp2_with fail;go_ret;exact⟨by rw[←HD.out];rfl,HX.out⟩
theorem lV(a b:Bs)(ha:a.length<=100000)(hb:b.length<=100000):cw 80 #[.string (bs a),.string (bs b)] (.string (bs (aF a b))):=by
 intro w hE;have HC:=qh (cmpP a b ha hb w hE);have hn:=@cZ (valI a) (valI b);by_cases h:valI a<valI b
 focus have e:aF a b=a:=if_pos h;have g1:decide (cmpI (valI a) (valI b)<0)=true:=by rw[decide_eq_true_eq];omega
 rotate_left
 focus have e:aF a b=b:=if_neg h;have g1:decide (cmpI (valI a) (valI b)<0)=false:=by rw[decide_eq_false_iff_not];omega
 all_goals
  rw[e];clear h hn e;generalize cmpI (valI a) (valI b)=k at *;go_enter Tryz.func80,Tryz.ntmps80;go_wp2_with fail;refine HC.out.mono ?_;rintro e w1⟨rfl,hx1⟩;have HX:=qh hx1;clear hx1;go_wp2_with fail;go_ret;exact⟨rfl,HX.out⟩
theorem sX:(Tryz.prog.info? 124).map (fun i=>(i.zero,i.size,i.bytes))=some (some (.agg #[.string ⟨#[]⟩,.string ⟨#[]⟩]),2,32):=by kernel_rfl
def eB(w:World)(base:Nat)(v:Value)(fs:List Fr):Prop:=w.ownsRow base 124 2 v fs.length (bE fs)
theorem eB.ext{v:Value}(h:eB w base v fs)(hx:Ext w w'):eB w' base v fs:=own_ext2 h hx
theorem eB.rd{A:Option Addr}(h:eB w base (.slice A fs.length c) fs):dS w A fs:=Reads.own h
theorem eB.row{v:Value}(h:eB w base v fs)(h0:0<fs.length):∃g c,v = .slice (some ⟨g,0,none⟩) fs.length c∧base<=g∧∃cur,Row w g 124 2 fs.length c (bE fs) cur:=by
 obtain⟨A,c,rfl⟩:=aM h;rcases h.2 with ⟨h1,h2⟩ | ⟨g,cap,cur,h1,h2,_⟩
 ·omega
 ·injection h1 with e1 e2 e3
  subst e1 e3;exact⟨g,c,rfl,h2,(Row.of_own h).2⟩
theorem wb(fs:List Fr)(k:Nat)(d:Bs)(h:k<fs.length):bE (fs.set k ⟨(fs[k]'h).num,d⟩)=(bE fs).set (k*2+1) (.string (bs d)):=by
 rw[vR fs k _ h];congr 1
 apply List.ext_getElem (by simp);intro m h1 h2;rw[List.getElem_set];split
 ·rename_i e
  have:=iK bB 2 dE fs k 0 h (by decide);rw[Nat.add_zero]at this
  subst e;have h3:(bE fs)[k*2]? = some (.string (bs (fs[k]'h).num)):=this
  rw[List.getElem?_eq_getElem h2]at h3;injection h3 with h3
  exact h3.symm
 ·rfl
theorem eB.den(h:eB w base (.slice (some ⟨g,0,none⟩) fs.length c) fs)(hk:k<fs.length)(d:Bs):eB (w.setCell ⟨g,k*2+1,none⟩ (.string (bs d))) base (.slice (some ⟨g,0,none⟩) (fs.set k ⟨(fs[k]'hk).num,d⟩).length c) (fs.set k ⟨(fs[k]'hk).num,d⟩):=by
 obtain⟨hb,cur,hr⟩:=Row.of_own h;have hl:(bE fs).length=fs.length*2:=oU fs;have hlen:cur.length=c*2:=hr.full;have hle:=hr.le;have h1:=hr.blk.set_ (k*2+1) (.string (bs d));rw[List.setIfInBounds_toArray]at h1
 have hrow:Row (w.setCell ⟨g,k*2+1,none⟩ (.string (bs d))) g 124 2 (fs.set k ⟨(fs[k]'hk).num,d⟩).length c (bE (fs.set k ⟨(fs[k]'hk).num,d⟩)) (cur.set (k*2+1) (.string (bs d))) :=
  ⟨h1,oU _,by simpa using hle,hr.big,by simpa using hlen,by rw[List.length_set,List.take_set,hr.take,wb fs k d hk]⟩
 exact hrow.own hb
theorem Only.grown{a:World}{b:Option Nat}(h:Only g a w)(hg:w.grownBy w' b)(hb:∀k,b=some k->a.heap.size<=k):Only g a w' :=
 ⟨hg.os.trans h.os,hg.tape.trans h.tape,hg.output.trans h.output,Nat.le_trans h.size hg.size,fun i hi hne=>(World.grownBy.block hg i (Nat.lt_of_lt_of_le hi h.size) (fun e=>by have:=hb i e.symm;omega)).trans (World.grownBy.block h i hi hne)⟩
theorem Only.setNew{a:World}(h:Only g a w){p:Addr}(hp:a.heap.size<=p.block)(u:Value):Only g a (w.setCell p u) :=
 ⟨h.os,h.tape,h.output,by simpa[World.setCell] using h.size,fun i hi hne=>(Below.heap_setCell w p u i (by omega)).trans (World.grownBy.block h i hi hne)⟩
def iG(U W:World):Prop:=∀(g:Nat) (t:TypeId) (cs:Array Value),Blk U g t cs->t≠27->t≠24->t≠124->Blk W g t cs
theorem iG.refl(U:World):iG U U:=fun _ _ _ h _ _ _=>h
theorem iG.ext(h:iG U W)(hx:Ext W W'):iG U W':=fun g t cs hb h1 h2 h3=>(h g t cs hb h1 h2 h3).ext hx
theorem iG.set_(h:iG U W){p:Addr}{cs0:Array Value}(hp:Blk W p.block t0 cs0)(ht:t0=27∨t0=24∨t0=124)(u:Value):iG U (W.setCell p u):=fun g t cs hb h1 h2 h3 =>
 (h g t cs hb h1 h2 h3).far (dZ (h g t cs hb h1 h2 h3) hp (by rcases ht with rfl|rfl|rfl <;> assumption)) u
theorem iG.grown(h:iG U W){v:Value}(ow:eB W base v fs)(hg:W.grownBy w' v.ownBlock):iG U w':=fun g t cs hb h1 h2 h3 =>
 (hg.block g (h g t cs hb h1 h2 h3).lt (fun e=>gh ow (h g t cs hb h1 h2 h3) (Ne.symm h3) e.symm)).trans (h g t cs hb h1 h2 h3)
structure ChM (W0 U0:World) (GO GQ:Nat) (s:Cho) (W:World):Prop where
 ext:Only GQ W0 W
 o:∃v,Blk W GO 27 #[v]∧eB W W0.heap.size v s.out
 q:Blk W GQ 24 #[.string (bs s.rem)]
 ty:iG U0 W
theorem ChM.on{s:Cho}(h:ChM W0 U0 GO GQ s W)(hx:Ext W W'):ChM W0 U0 GO GQ s W':=by
 obtain⟨v,h1,h2⟩:=h.o;exact⟨h.ext.ext hx,⟨v,h1.ext hx,h2.ext hx⟩,h.q.ext hx,h.ty.ext hx⟩
theorem E7(x:LotV)(p:Fr)(X:Nat)(W:World)(hb:Blk W X 62 (lc x)):Calls Tryz.prog 79 #[uI p,.pointer (some ⟨X,0,none⟩)] W fun e w'=>e = .returned (.bool (p.num == x.id))∧Ext W w':=by
 obtain⟨q0,_⟩:=aj (hb.alloc (.cells #[.string (bs p.num),.string (bs p.den)] 124)) (Ext.refl _);have hlt:=hb.lt;have HX:Hid (Ext W (W.alloc (.cells #[.string (bs p.num),.string (bs p.den)] 124))):=qh (Ext.new _ _);clear hb;obtain⟨pn,pd⟩:=p;go_enter Tryz.func79,Tryz.ntmps79;go_wp2_with fail;go_ret;exact⟨rfl,HX.out⟩
structure ChB1 (s:Cho):Prop where
 rem:s.rem.length<=50000
 den:∀p ∈ s.out,p.den.length<=50000
 len:s.out.length<=100000
theorem gY{a b:Bs}{L:Nat}(ha:a.length<=L)(hb:b.length<=L):(aF a b).length<=L:=by unfold aF;split <;> assumption
theorem qV{s:Cho}{q:Bs}(h:aZ s.out id=none):s.left id q=q:=by
 unfold Cho.left;unfold aZ at h;rw[h]
theorem qW{s:Cho}{q:Bs}(h:aZ s.out id=some i)(hi:i<s.out.length):s.left id q=ofI (valI q-valI (s.out[i]'hi).den):=by
 unfold Cho.left;unfold aZ at h;rw[h];simp[hi]
theorem sY{s:Cho}{n:Bs}(h:aZ s.out id=none):s.put id n=s.out++[⟨id,ofI (0+valI n)⟩]:=by
 unfold Cho.put;unfold aZ at h;rw[h]
theorem sZ{s:Cho}{n:Bs}(h:aZ s.out id=some i)(hi:i<s.out.length):s.put id n=s.out.set i ⟨id,ofI (valI (s.out[i]'hi).den+valI n)⟩:=by
 unfold Cho.put;unfold aZ at h;rw[h];simp[hi]
theorem Aj{s:Cho}(h:aZ s.out id=none):cF (fun p:Fr=>p.num == id) s.out = -1:=by
 unfold cF;unfold aZ at h;rw[h]
theorem Ak{s:Cho}(h:aZ s.out id=some i):cF (fun p:Fr=>p.num == id) s.out=(i:Int):=by
 unfold cF;unfold aZ at h;rw[h]
structure ChX (W0 U0:World) (GO GQ X:Nat) (x:LotV) (s:Cho) (W:World):Prop where
 m:ChM W0 U0 GO GQ s W
 x:Blk W X 62 (lc x)
theorem ChX.on{s:Cho}(h:ChX W0 U0 GO GQ X x s W)(hx:Ext W W'):ChX W0 U0 GO GQ X x s W':=⟨h.m.on hx,h.x.ext hx⟩
theorem ChX.app{s:Cho}{v:Value}(h:ChX W0 U0 GO GQ X x s W)(hg:W0.heap.size<=GO∧GO≠GQ)(hX:X≠GO)(ob:Blk W GO 27 #[v])(ow:eB W W0.heap.size v s.out)(hgrow:W.grownBy w' v.ownBlock)
  (hown':w'.ownsRow W0.heap.size 124 2 v2 (s.out.length+1) (bE s.out++bB ⟨id,[]⟩)):ChX W0 U0 GO GQ X x ⟨s.out++[⟨id,[]⟩],s.rem⟩ (w'.setCell ⟨GO,0,none⟩ v2):=by
 have keep:∀ {g:Nat} {t:TypeId} {cs:Array Value},Blk W g t cs->t≠124->Blk w' g t cs:=fun {g t cs} hb hne =>
  (hgrow.block g hb.lt (fun e=>gh ow hb hne.symm e.symm)).trans hb
 have hb':=keep ob (by decide);refine⟨⟨(h.m.ext.grown hgrow (own_base ow)).setNew (p:=⟨GO,0,none⟩) hg.1 _,⟨v2,hb'.set_ 0 _,?_⟩,(keep h.m.q (by decide)).far (p:=⟨GO,0,none⟩) (Ne.symm hg.2) _,(h.m.ty.grown ow hgrow).set_ (p:=⟨GO,0,none⟩) hb' (.inl rfl) _⟩,(keep h.x (by decide)).far (p:=⟨GO,0,none⟩) hX _⟩;unfold eB;have e1:bE (s.out++[(⟨id,[]⟩:Fr)])=bE s.out++bB ⟨id,[]⟩:=by simp[bE]
 rw[List.length_append,e1];exact jF hown' (gh hown' hb' (by decide)) _
structure ChO (W0:World) (GO GQ X:Nat) (s:Cho) (g c k:Nat) (d:Bs) (W:World):Prop where
 o:W.cell? ⟨GO,0,none⟩=some (.slice (some ⟨g,0,none⟩) s.out.length c)
 d:W.cell? ⟨g,k*2+1,none⟩=some (.string (bs d))
 f:W.frozen? ⟨g,k*2+1,none⟩=false
 fo:W.frozen? ⟨GO,0,none⟩=false
theorem ChX.open_{s:Cho}(h:ChX W0 U0 GO GQ X x s W)(hk:k<s.out.length):∃g c,(∀W',Ext W W'->ChO W0 GO GQ X s g c k (s.out[k]'hk).den W')∧W0.heap.size<=g∧g≠GO∧g≠GQ∧g≠X ∧
  ∀W',Ext W W'->∀d,ChX W0 U0 GO GQ X x ⟨s.out.set k ⟨(s.out[k]'hk).num,d⟩,s.rem⟩ (W'.setCell ⟨g,k*2+1,none⟩ (.string (bs d))):=by
 obtain⟨v,ob,ow⟩:=h.m.o;obtain⟨g,c,rfl,hb,cur,hr⟩:=ow.row (by omega);have n1:g≠GO:=dZ hr.blk ob (by decide);have n2:g≠GQ:=dZ hr.blk h.m.q (by decide);have n3:g≠X:=dZ hr.blk h.x (by decide)
 have hcell:W.cell? ⟨g,k*2+1,none⟩=some (.string (bs (s.out[k]'hk).den)):=by
  have:=iK bB 2 dE s.out k 1 hk (by decide);exact hr.cell this
 refine⟨g,c,fun W' hx=>⟨boxCell (ob.ext hx),(hx.cell (p:=⟨g,k*2+1,none⟩) hr.blk.lt).trans hcell,(hr.ext hx).frozen _,(ob.ext hx).frozen 0⟩,hb,n1,n2,n3,fun W' hx d=>?_⟩;have h':=h.on hx;refine⟨⟨h'.m.ext.setNew (p:=⟨g,k*2+1,none⟩) hb _,⟨_,(ob.ext hx).far (p:=⟨g,k*2+1,none⟩) (Ne.symm n1) _,by have:=(ow.ext hx).den hk d;rw[List.length_set]at this;exact this⟩,h'.m.q.far (p:=⟨g,k*2+1,none⟩) (Ne.symm n2) _,h'.m.ty.set_ (p:=⟨g,k*2+1,none⟩) (hr.blk.ext hx) (.inr (.inr rfl)) _⟩,h'.x.far (p:=⟨g,k*2+1,none⟩) (Ne.symm n3) _⟩
theorem ChX.quant{s:Cho}(h:ChX W0 U0 GO GQ X x s W)(hg:W0.heap.size<=GO∧GO≠GQ)(r:Bs):ChM W0 U0 GO GQ ⟨s.out,r⟩ (W.setCell ⟨GQ,0,none⟩ (.string (bs r))):=by
 obtain⟨v,ob,ow⟩:=h.m.o;exact⟨h.m.ext.setCell 0 _,⟨v,ob.far (p:=⟨GQ,0,none⟩) hg.2 _,jF ow (gh ow h.m.q (by decide)) _⟩,h.m.q.set_ 0 _,h.m.ty.set_ (p:=⟨GQ,0,none⟩) h.m.q (.inr (.inl rfl)) _⟩
theorem xQ(f:Fr):∀u ∈ bB f,u.oneCell'=true:=by
 intro u hu;simp only[bB,List.mem_cons,List.not_mem_nil,or_false]at hu;rcases hu with rfl|rfl <;> rfl
def fJ(W0 U0:World)(GO GQ:Nat)(s:Cho)(x:LotV)(most:Bs)(e:Ending)(w':World):Prop:=e = .returned (.tuple #[])∧ChM W0 U0 GO GQ (s.take x.id x.q most) w'
theorem Al(x:LotV)(hx:x.q.length<=50000)(most:Bs)(hm:most.length<=50000)(W0 U0:World)(GO GQ:Nat)(hE:∀W',Only GQ W0 W'->Env W')(hg:W0.heap.size<=GO∧GO≠GQ)(s:Cho)(hb:ChB1 s)(h0:aZ s.out x.id=none)(W:World)(h:ChM W0 U0 GO GQ s W) :
  Calls Tryz.prog 77 #[lv x,.string (bs most),.pointer (some ⟨GO,0,none⟩),.pointer (some ⟨GQ,0,none⟩)] W (fJ W0 U0 GO GQ s x most):=by
 have HH:Hid (ChX W0 U0 GO GQ W.heap.size x s (W.alloc (.cells (lc x) 62))):=qh ⟨h.on (Ext.new _ _),Blk.new _ _ _⟩;have HE:=qh hE;have HG:=qh hg;have hlo:GO<W.heap.size:=by obtain⟨v,ob,_⟩:=h.o;exact ob.lt
 have hlq:GQ<W.heap.size:=h.q.lt;have hl:=qV (q:=x.q) h0;have hnn:s.n x.id x.q most=aF (aF most x.q) s.rem:=by unfold Cho.n;rw[hl]
 have HT:Hid (s.take x.id x.q most=if valI (aF (aF most x.q) s.rem)<=0 then s else⟨s.out++[⟨x.id,ofI (0+valI (aF (aF most x.q) s.rem))⟩],ofI (valI s.rem-valI (aF (aF most x.q) s.rem))⟩):=qh (by unfold Cho.take;rw[hnn,sY h0]);have L1:=qh (lV most x.q (by omega) (by omega));have L2:=qh (lV (aF most x.q) s.rem (by have:=gY hm hx;omega) (by have:=hb.rem;omega));have hnl:(aF (aF most x.q) s.rem).length<=50000:=gY (gY hm hx) hb.rem;have HB:=qh hb;have hol:=hb.len;have P1:=qh (jj (aF (aF most x.q) s.rem) (by omega));obtain⟨d0,hd0⟩:∃d0:Bs,d0=[]:=⟨_,rfl⟩;have A1:=qh (ii d0 (aF (aF most x.q) s.rem) (by rw[hd0];simp) (by omega));have S1:=qh (ln s.rem (aF (aF most x.q) s.rem) (by have:=hb.rem;omega) (by omega));obtain⟨i0,hI,hz0,hz1,hz2⟩:=info_parts sX;have HI:=qh hI;have HZ:=qh (And.intro hz0 (And.intro hz1 hz2));have HIX:Hid (cF (fun p:Fr=>p.num == x.id) s.out = -1):=qh (Aj h0);rw[show valI d0=0 by rw[hd0];exact lu]at A1;have HD0:=qh hd0;clear hd0;have hnx:GO≠W.heap.size∧GQ≠W.heap.size:=⟨by omega,by omega⟩;generalize aF (aF most x.q) s.rem=n at *;generalize aF most x.q=n1 at *;generalize ofI (0+valI n)=nd at *;generalize ofI (valI s.rem-valI n)=nr at *;clear h h0 hl hnn hb hx hm hE hg hI hz0 hz1 hz2;have HIDX:=qh (fun A c U0 (h:eB U0 W0.heap.size (.slice A s.out.length c) s.out) (hb:Blk U0 W.heap.size 62 (lc x))=>nS 79 #[.pointer (some ⟨W.heap.size,0,none⟩)] (fun _ _=>by rfl) (fun p=>p.num == x.id) s.out A c U0 h.rd (by omega) (fun p _ U hu=>E7 x p W.heap.size U (hb.ext hu)));obtain⟨xi,xn,xa,xo,xq,xc,xu⟩:=x;simp only at HT L1 HIDX HIX;rw[HIX.out]at HIDX;have HIDX1:=qh (fun A c h=>HIDX.out A c _ h HH.out.x);obtain⟨v,ob,ow⟩:=HH.out.m.o;obtain⟨A,c,hv⟩:=aM ow;subst hv;have q0:=boxCell ob;go_enter Tryz.func77,Tryz.ntmps77;go_wp2_with fail;refine(HIDX1.out A c ow).mono ?_;rintro e w1⟨rfl,hx1⟩;replace HH:=qh (HH.out.on hx1);clear hx1 ob ow q0 HIDX HIDX1;generalize W.heap.size=X at *;obtain⟨v,ob,ow⟩:=HH.out.m.o;obtain⟨A,c,hv⟩:=aM ow;subst hv;have q0:=boxCell ob;have qq:=boxCell HH.out.m.q;obtain⟨x0,x1,x2,x3,x4,x5,x6⟩:=aj HH.out.x (Ext.refl _);go_upto_region 5 with fail;have HX:Hid (Ext w1 w1.drew):=qh (Ext.refl _).drew
 go_region_held3 (fun w'=>w'.cell? ⟨GQ,0,none⟩=some (.string (bs s.rem)))
  (go_keep)
  ((go_at_call 80;((first|(with_reducible refine(L1.out _ (HE.out _ (HH.out.on HX.out).m.ext)).mono ?_)|(with_reducible refine(L2.out _ (HE.out _ (HH.out.on HX.out).m.ext)).mono ?_));rintro e w2⟨rfl,hx2⟩);(replace HX:=HX.qt hx2);(have qn:=boxCell (HH.out.on HX.out).m.q);clear hx2))
 replace HH:=qh (HH.out.on HX.out);clear HX qn q0 qq x0 x1 x2 x3 x4 x5 x6 ob ow;by_cases hn:valI n<=0
 ·have hd:decide (0<valI n)=false:=by rw[decide_eq_false_iff_not];omega
  rw[hd]at P1;have HF:Hid (fJ W0 U0 GO GQ s ⟨xi,xn,xa,xo,xq,xc,xu⟩ most (.returned (.tuple #[]))=fJ W0 U0 GO GQ s ⟨xi,xn,xa,xo,xq,xc,xu⟩ most (.returned (.tuple #[]))):=qh rfl;clear hd HF;rw[if_pos hn]at HT;go_wp2_with fail;refine(P1.out _ (HE.out _ HH.out.m.ext)).mono ?_;rintro e wv⟨rfl,hx1⟩;replace HH:=qh (HH.out.on hx1);clear hx1;go_wp2_with fail;go_end0
  exact⟨rfl,by rw[HT.out];exact HH.out.m⟩
 ·have hd:decide (0<valI n)=true:=by rw[decide_eq_true_eq];omega
  rw[hd]at P1;rw[if_neg hn]at HT;clear hd hn;go_wp2_with fail;refine(P1.out _ (HE.out _ HH.out.m.ext)).mono ?_;rintro e wv⟨rfl,hx1⟩;replace HH:=qh (HH.out.on hx1);clear hx1;have HH1:=qh (HH.out.on (Ext.new wv (.cells #[.string (bs xi),.string ⟨#[]⟩] 124)));obtain⟨v,ob,ow⟩:=HH.out.m.o;obtain⟨A2,c2,hv⟩:=aM ow;subst hv;have q0:=boxCell ob;obtain⟨x0,_,_,_,_,_,_⟩:=aj HH.out.x (Ext.refl _);have OB:=qh (ob.alloc (.cells #[.string (bs xi),.string ⟨#[]⟩] 124));have OW:=qh (ow.ext (Ext.new wv (.cells #[.string (bs xi),.string ⟨#[]⟩] 124)));have hsz:=HH1.out.m.ext.size;obtain⟨hz0,hz1,hz2⟩:=HZ.out;have hXG:X≠GO:=Ne.symm hnx.1;clear ob ow;go_upto_region 9 with fail;go_wp2_with (at_builtin;go_must (refine wpList_append_own _ rfl (.tmp 35) (.tmp 39) 27 rfl W0.heap.size 124 i0 _ 2 32 Tryz.underlying27 HI.out hz0 hz1 hz2 rfl (by decide) _ s.out.length (bE s.out) rfl OW.out ⟨wv.heap.size,0,none⟩ 1 1 (bB ⟨xi,[]⟩) rfl rfl (World.news_of_block (heap_alloc_new wv _)) (xQ _) (by simp only[maxLen];omega) (by omega) hsz ?_);intro v2 w' hown' hgrow hnil;(obtain⟨A3,c3,rfl⟩:=aM hown');clear hnil;(have HT1:=qh (HH1.out.app HG.out hXG OB.out OW.out hgrow hown'));(have hbG:Blk w' GO 27 #[.slice A2 s.out.length c2]:=(hgrow.block GO OB.out.lt (fun e=>gh OW.out OB.out (by decide) e.symm)).trans OB.out);(have d0:=boxCell hbG);(have d1:=hbG.frozen 0));clear hgrow hown' hbG d0 d1 q0 x0 OB OW hsz hz0 hz1 hz2 HH HH1 hnx hXG;generalize w'.setCell { block:=GO,off:=0 } (Value.slice A3 (s.out.length+1) c3)=W5 at *;obtain⟨k,hk⟩:∃k,s.out.length=k:=⟨_,rfl⟩;have hk1:k<(s.out++[(⟨xi,[]⟩:Fr)]).length:=by rw[List.length_append,hk];simp
  obtain⟨g,c,ho,hgb,g1,g2,g3,hst⟩:=HT1.out.open_ (s:=⟨s.out++[⟨xi,[]⟩],s.rem⟩) (k:=k) hk1;have e1:(s.out++[(⟨xi,[]⟩:Fr)])[k]=⟨xi,[]⟩:=by simp only[←hk];simp
  have e2:(s.out++[(⟨xi,[]⟩:Fr)]).length=k+1:=by rw[List.length_append,hk];rfl
  have e3:(s.out++[(⟨xi,[]⟩:Fr)]).set k ⟨xi,nd⟩=s.out++[⟨xi,nd⟩]:=by rw[←hk,List.set_append_right _ _ (Nat.le_refl _),Nat.sub_self];rfl
  simp only[e1]at ho hst;have HST:Hid (∀W',Ext W5 W'->ChX W0 U0 GO GQ X ⟨xi,xn,xa,xo,xq,xc,xu⟩ ⟨s.out++[⟨xi,nd⟩],s.rem⟩ (W'.setCell ⟨g,k*2+1,none⟩ (.string (bs nd)))):=qh (fun W' hx=>by have:=hst W' hx nd;rw[e3]at this;exact this);have HOO:Hid (∀W',Ext W5 W'->W'.cell? ⟨GO,0,none⟩=some (.slice (some ⟨g,0,none⟩) (k+1) c)∧W'.cell? ⟨g,k*2+1,none⟩=some (.string (bs d0))∧W'.frozen? ⟨g,k*2+1,none⟩=false):=qh (fun W' hx=>⟨by rw[←e2];exact(ho W' hx).o,by rw[HD0.out];exact(ho W' hx).d,(ho W' hx).f⟩);have HM1:Hid (∀W',Ext W5 W'->Env W'):=qh (fun W' hx=>HE.out _ (HT1.out.on hx).m.ext);simp only[hk];have hkc:(k:Int)<(k:Int)+1:=by omega
  have hk0:(0:Int)<=(k:Int):=by omega
  have hgn:g≠GO:=g1;have hgn2:GO≠g:=Ne.symm g1;have hgn3:g≠GQ:=g2;have hgn4:GQ≠g:=Ne.symm g2;clear HT1 ho hst e1 e2 e3 hk1 hgb g1 g2 g3 hk hol;obtain⟨o0,o1,o2⟩:=HOO.out W5 (Ext.refl _);have HD:Hid (Ext W5 W5.drew):=qh (Ext.refl _).drew;go_region_law (first|(go_simp;go_at_call 19;((with_reducible refine(A1.out _ (HM1.out _ HD.out)).mono ?_);rintro e w6⟨rfl,hx⟩);(replace HD:=HD.qt hx);(obtain⟨y0,y1,y2⟩:=HOO.out _ HD.out);clear hx))
  all_goals
   have HF:=qh (HST.out _ HD.out);clear o0 o1 o2 y0 y1 y2 HD HST HOO HM1;have qf:=boxCell HF.out.m.q;go_wp2_with fail;refine(S1.out _ (HE.out _ HF.out.m.ext)).mono ?_;rintro e wz⟨rfl,hx9⟩;replace HF:=qh (HF.out.on hx9);have qf2:=boxCell HF.out.m.q;have ff:=HF.out.m.q.frozen 0;clear hx9 qf;go_wp2_with fail;go_end0
   exact⟨rfl,by rw[HT.out];exact HF.out.quant HG.out nr⟩
theorem Ap(x:LotV)(hx:x.q.length<=50000)(most:Bs)(hm:most.length<=50000)(W0 U0:World)(GO GQ:Nat)(hE:∀W',Only GQ W0 W'->Env W')(hg:W0.heap.size<=GO∧GO≠GQ)(s:Cho)(hb:ChB1 s)(hlf:(s.left x.id x.q).length<=50000)(i:Nat)(h0:aZ s.out x.id=some i)(W:World)(h:ChM W0 U0 GO GQ s W) :
  Calls Tryz.prog 77 #[lv x,.string (bs most),.pointer (some ⟨GO,0,none⟩),.pointer (some ⟨GQ,0,none⟩)] W (fJ W0 U0 GO GQ s x most):=by
 obtain⟨hi,hnum⟩:=ej h0;have HH:Hid (ChX W0 U0 GO GQ W.heap.size x s (W.alloc (.cells (lc x) 62))):=qh ⟨h.on (Ext.new _ _),Blk.new _ _ _⟩;have HE:=qh hE;have HG:=qh hg;have hl:=qW (q:=x.q) h0 hi;obtain⟨d0,hd0⟩:∃d0:Bs,d0=(s.out[i]'hi).den:=⟨_,rfl⟩;rw[←hd0]at hl;rw[hl]at hlf;have hdl:d0.length<=50000:=by rw[hd0];exact hb.den _ (List.getElem_mem hi)
 have hnn:s.n x.id x.q most=aF (aF most (ofI (valI x.q-valI d0))) s.rem:=by unfold Cho.n;rw[hl]
 have HT:Hid (s.take x.id x.q most=if valI (aF (aF most (ofI (valI x.q-valI d0))) s.rem)<=0 then s else⟨s.out.set i ⟨x.id,ofI (valI d0+valI (aF (aF most (ofI (valI x.q-valI d0))) s.rem))⟩,ofI (valI s.rem-valI (aF (aF most (ofI (valI x.q-valI d0))) s.rem))⟩):=qh (by unfold Cho.take;rw[hnn,sZ h0 hi,←hd0]);have SL:=qh (ln x.q d0 (by omega) (by omega));have L1:=qh (lV most (ofI (valI x.q-valI d0)) (by omega) (by omega));have L2:=qh (lV (aF most (ofI (valI x.q-valI d0))) s.rem (by have:=gY hm hlf;omega) (by have:=hb.rem;omega));have hnl:(aF (aF most (ofI (valI x.q-valI d0))) s.rem).length<=50000:=gY (gY hm hlf) hb.rem;have hol:=hb.len;have P1:=qh (jj (aF (aF most (ofI (valI x.q-valI d0))) s.rem) (by omega));have A1:=qh (ii d0 (aF (aF most (ofI (valI x.q-valI d0))) s.rem) (by omega) (by omega));have S1:=qh (ln s.rem (aF (aF most (ofI (valI x.q-valI d0))) s.rem) (by have:=hb.rem;omega) (by omega));have HIX:Hid (cF (fun p:Fr=>p.num == x.id) s.out=(i:Int)):=qh (Ak h0);have HD0:=qh hd0;have HNUM:=qh hnum;have HIL:=qh hi;generalize aF (aF most (ofI (valI x.q-valI d0))) s.rem=n at *;generalize aF most (ofI (valI x.q-valI d0))=n1 at *;generalize ofI (valI x.q-valI d0)=lf at *;generalize ofI (valI d0+valI n)=nd at *;generalize ofI (valI s.rem-valI n)=nr at *;have HIDX:=qh (fun A c U0 (h:eB U0 W0.heap.size (.slice A s.out.length c) s.out) (hb:Blk U0 W.heap.size 62 (lc x))=>nS 79 #[.pointer (some ⟨W.heap.size,0,none⟩)] (fun _ _=>by rfl) (fun p=>p.num == x.id) s.out A c U0 h.rd (by omega) (fun p _ U hu=>E7 x p W.heap.size U (hb.ext hu)));have hkc:(i:Int)<(s.out.length:Int):=by omega
 have hk0:(0:Int)<=(i:Int):=by omega
 clear h h0 hl hnn hb hx hm hE hg hlf hd0 hnum hdl hnl hol;obtain⟨xi,xn,xa,xo,xq,xc,xu⟩:=x;simp only at HT L1 HIDX HIX SL HNUM;rw[HIX.out]at HIDX;have HIDX1:=qh (fun A c h=>HIDX.out A c _ h HH.out.x);obtain⟨v,ob,ow⟩:=HH.out.m.o;obtain⟨A,c,hv⟩:=aM ow;subst hv;have q0:=boxCell ob;go_enter Tryz.func77,Tryz.ntmps77;go_wp2_with fail;refine(HIDX1.out A c ow).mono ?_;rintro e w1⟨rfl,hx1⟩;replace HH:=qh (HH.out.on hx1);clear hx1 ob ow q0 HIDX HIDX1;generalize W.heap.size=X at *;obtain⟨g,c,ho,hgb,g1,g2,g3,hst⟩:=HH.out.open_ hi;rw[HNUM.out]at hst;rw[←HD0.out]at ho;have HST:Hid (∀W',Ext w1 W'->ChX W0 U0 GO GQ X ⟨xi,xn,xa,xo,xq,xc,xu⟩ ⟨s.out.set i ⟨xi,nd⟩,s.rem⟩ (W'.setCell ⟨g,i*2+1,none⟩ (.string (bs nd)))):=qh (fun W' hx=>hst W' hx nd);have HOO:Hid (∀W',Ext w1 W'->W'.cell? ⟨GO,0,none⟩=some (.slice (some ⟨g,0,none⟩) s.out.length c)∧W'.cell? ⟨g,i*2+1,none⟩=some (.string (bs d0))∧W'.frozen? ⟨g,i*2+1,none⟩=false):=qh (fun W' hx=>⟨(ho W' hx).o,(ho W' hx).d,(ho W' hx).f⟩);have HM1:Hid (∀W',Ext w1 W'->Env W'):=qh (fun W' hx=>HE.out _ (HH.out.on hx).m.ext);have HQ:Hid (∀W',Ext w1 W'->W'.cell? ⟨GQ,0,none⟩=some (.string (bs s.rem))):=qh (fun W' hx=>boxCell (HH.out.on hx).m.q);have hgn:g≠GO:=g1;have hgn2:GO≠g:=Ne.symm g1;have hgn3:g≠GQ:=g2;have hgn4:GQ≠g:=Ne.symm g2;obtain⟨o0,o1,o2⟩:=HOO.out w1 (Ext.refl _);obtain⟨x0,x1,x2,x3,x4,x5,x6⟩:=aj HH.out.x (Ext.refl _);clear ho hst hgb g1 g2 g3;go_wp2_with fail;refine(SL.out _ (HM1.out _ (Ext.refl _))).mono ?_;rintro e w2⟨rfl,hx2⟩;have HX0:=qh hx2;clear hx2 o0 o1 o2 x0 x1 x2 x3 x4 x5 x6 SL;have qq:=HQ.out _ HX0.out;go_upto_region 5 with fail;have HX:Hid (Ext w1 w2.drew):=qh HX0.out.drew
 go_region_held3 (fun w'=>w'.cell? ⟨GQ,0,none⟩=some (.string (bs s.rem)))
  (go_keep)
  ((go_at_call 80;((first|(with_reducible refine(L1.out _ (HM1.out _ HX.out)).mono ?_)|(with_reducible refine(L2.out _ (HM1.out _ HX.out)).mono ?_));rintro e w3⟨rfl,hx3⟩);(replace HX:=HX.qt hx3);(have qn:=HQ.out _ HX.out);clear hx3))
 clear qq qn HX0;by_cases hn:valI n<=0
 ·have hd:decide (0<valI n)=false:=by rw[decide_eq_false_iff_not];omega
  rw[hd]at P1;clear hd;rw[if_pos hn]at HT;go_wp2_with fail;refine(P1.out _ (HM1.out _ HX.out)).mono ?_;rintro e w4⟨rfl,hx4⟩;replace HX:=HX.qt hx4;clear hx4;go_wp2_with fail;go_end0
  exact⟨rfl,by rw[HT.out];exact(HH.out.on HX.out).m⟩
 ·have hd:decide (0<valI n)=true:=by rw[decide_eq_true_eq];omega
  rw[hd]at P1;rw[if_neg hn]at HT;clear hd hn;go_wp2_with fail;refine(P1.out _ (HM1.out _ HX.out)).mono ?_;rintro e w4⟨rfl,hx4⟩;have HX4:=HX.qt hx4;replace HST:Hid (∀W',Ext w4 W'->ChX W0 U0 GO GQ X ⟨xi,xn,xa,xo,xq,xc,xu⟩ ⟨s.out.set i ⟨xi,nd⟩,s.rem⟩ (W'.setCell ⟨g,i*2+1,none⟩ (.string (bs nd)))):=qh (fun W' hx=>HST.out W' (HX4.out.trans hx));replace HOO:Hid (∀W',Ext w4 W'->W'.cell? ⟨GO,0,none⟩=some (.slice (some ⟨g,0,none⟩) s.out.length c)∧W'.cell? ⟨g,i*2+1,none⟩=some (.string (bs d0))∧W'.frozen? ⟨g,i*2+1,none⟩=false):=qh (fun W' hx=>HOO.out W' (HX4.out.trans hx));replace HM1:Hid (∀W',Ext w4 W'->Env W'):=qh (fun W' hx=>HM1.out W' (HX4.out.trans hx));clear hx4 HX HX4 HQ;go_upto_region 10 with fail;generalize w4=W5 at *;obtain⟨o0,o1,o2⟩:=HOO.out W5 (Ext.refl _);have HD:Hid (Ext W5 W5.drew):=qh (Ext.refl _).drew;go_region_law (first|(go_simp;go_at_call 19;((with_reducible refine(A1.out _ (HM1.out _ HD.out)).mono ?_);rintro e w6⟨rfl,hx⟩);(replace HD:=HD.qt hx);(obtain⟨y0,y1,y2⟩:=HOO.out _ HD.out);clear hx))
  all_goals
   have HF:=qh (HST.out _ HD.out);clear o0 o1 o2 y0 y1 y2 HD HST HOO HM1;have qf:=boxCell HF.out.m.q;go_wp2_with fail;refine(S1.out _ (HE.out _ HF.out.m.ext)).mono ?_;rintro e wz⟨rfl,hx9⟩;replace HF:=qh (HF.out.on hx9);have qf2:=boxCell HF.out.m.q;have ff:=HF.out.m.q.frozen 0;clear hx9 qf;go_wp2_with fail;go_end0
   exact⟨rfl,by rw[HT.out];exact HF.out.quant HG.out nr⟩
end
section
open Go.RowKit
theorem ta{v:Int}{b:Bs}{L:Nat}(h0:0<=v)(h1:v<=valI b)(hb:b.length<=L):(ofI v).length<=L+1 :=
 un (by have:=aH (l:=b) hb;omega)
theorem ui(h:∀p ∈ o,checkI p.den=0∧0<valI p.den):0<=iT o:=by
 unfold iT;induction o with
 |nil=>simp
 |cons p r ih=>simp only[List.map_cons,List.sum_cons];have:=(h p (by simp)).2;have:=ih (fun q hq=>h q (by simp[hq]));omega
theorem uS(hn:(o.map (·.num)).Nodup){p:Fr}(hp:p ∈ o):eh o p.num=valI p.den:=by
 obtain⟨k,hk,rfl⟩:=List.mem_iff_getElem.1 hp
 have h:aZ o (o[k]'hk).num=some k:=by
  unfold aZ;rw[List.findIdx?_eq_some_iff_getElem];refine⟨hk,by simp,fun j hj=>?_⟩;have:=List.pairwise_iff_getElem.1 hn j k (by simp;omega) (by simpa using hk) hj;simpa using this
 obtain⟨_,e⟩:=pS h;rw[e]
theorem ChoOK.short{own:List LotV}{q:Bs}{s:Cho}(h:ChoOK own (valI q) s)(hq:q.length<=1000)(hs:∀x ∈ own,x.q.length<=1000):s.rem.length<=1001∧∀p ∈ s.out,p.den.length<=1001:=by
 have hsum:=h.sum;have h0:=ui h.den;constructor
 ·rw[←di.1 h.c];exact ta h.nn (by omega) hq
 ·intro p hp;obtain⟨x,hx,e⟩:=h.mem p hp;have h1:=h.le x hx;rw[e,uS h.nod hp]at h1;rw[←di.1 (h.den p hp).1];exact ta (Int.le_of_lt (h.den p hp).2) h1 (hs x hx)
theorem ChoOK.leftS{own:List LotV}{q:Int}{s:Cho}(h:ChoOK own q s)(hx:x ∈ own)(hs:x.q.length<=1000):(s.left x.id x.q).length<=1001:=by
 cases hp:aZ s.out x.id with
 |none=>rw[qV hp];omega
 |some i =>
  obtain⟨hi,_⟩:=ej hp;rw[qW hp hi];obtain⟨_,e⟩:=pS hp;have h1:=h.le x hx;have h2:=(h.den _ (List.getElem_mem hi)).2;rw[e]at h1;exact ta (by omega) (by omega) hs
theorem Db(s:Cho)(id n:Bs):(s.put id n).length<=s.out.length+1:=by
 cases h:aZ s.out id with
 |none=>rw[sY h];simp
 |some i=>obtain⟨hi,_⟩:=ej h;rw[sZ h hi];simp
theorem td(s:Cho)(id q m:Bs):(s.take id q m).out.length<=s.out.length+1:=by
 unfold Cho.take;split
 ·omega
 ·exact Db _ _ _
def gc(own:List LotV)(ps:List Fr)(q:Bs)(k:Nat):Cho:=(ps.take k).foldl (Cho.named own) ⟨[],q⟩
theorem qX{own:List LotV}{q:Bs}(hk:k<ps.length):gc own ps q (k+1)=Cho.named own (gc own ps q k) (ps[k]'hk):=by
 unfold gc;rw[List.take_succ_eq_append_getElem hk,List.foldl_append];rfl
theorem xR{own:List LotV}{q:Bs}:gc own ps q ps.length=ps.foldl (Cho.named own) ⟨[],q⟩:=by unfold gc;rw[List.take_length]
theorem xS(own:List LotV)(s:Cho)(p:Fr):(Cho.named own s p).out.length<=s.out.length+1:=by
 unfold Cho.named;split
 ·exact td _ _ _ _
 ·omega
theorem tf(own:List LotV)(ps:List Fr)(q:Bs):∀k,k<=ps.length->(gc own ps q k).out.length<=k
 |0,_=>by simp[gc]
 |k+1,h=>by rw[qX (by omega)];have:=xS own (gc own ps q k) (ps[k]'(by omega));have:=tf own ps q k (by omega);omega
def iX(s:Cho)(l:List LotV)(k:Nat):Cho:=s.all (l.take k)
theorem kn{s:Cho}(hk:k<l.length):iX s l (k+1)=(iX s l k).take (l[k]'hk).id (l[k]'hk).q (l[k]'hk).q:=by
 unfold iX Cho.all;rw[List.take_succ_eq_append_getElem hk,List.foldl_append];rfl
theorem qY{s:Cho}:iX s l l.length=s.all l:=by unfold iX;rw[List.take_length]
theorem om(s:Cho)(l:List LotV):∀k,k<=l.length->(iX s l k).out.length<=s.out.length+k
 |0,_=>by simp[iX,Cho.all]
 |k+1,h=>by rw[kn (by omega)];have:=td (iX s l k) (l[k]'(by omega)).id (l[k]'(by omega)).q (l[k]'(by omega)).q;have:=om s l k (by omega);omega
theorem qd{own:List LotV}{q:Int}{s:Cho}(h:ChoOK own q s)(hnd:(own.map (·.id)).Nodup)(hl:∀x ∈ l,x ∈ own):∀k,k<=l.length->ChoOK own q (iX s l k)
 |0,_=>h
 |k+1,hk=>by rw[kn (by omega)];exact pT (qd h hnd hl k (by omega)) hnd (hl _ (List.getElem_mem _)) _
theorem Dc{own:List LotV}{q:Bs}(hnd:(own.map (·.id)).Nodup)(h:ChoOK own (valI q) ⟨[],q⟩)(ps:List Fr)(k:Nat):ChoOK own (valI q) (gc own ps q k):=nU hnd _ h
theorem Aq{q:Bs}(hq:checkI q=0)(hq0:0<valI q)(hh:valI q<=totQ ls ins)(hle:∀x ∈ ls,0<=valI x.q):ChoOK (ofL ls ins) (valI q) ⟨[],q⟩:=by
 have hf0:(ofL ls ins).map (free [])=(ofL ls ins).map (fun x=>valI x.q):=by
  apply List.map_congr_left;intro x _;unfold free eh aZ;simp
 refine⟨hq,by show 0<=valI q;omega,by simp[iT],by simp,by simp,by simp,fun x hx=>?_,?_⟩
 ·have:eh [] x.id=0:=by unfold eh aZ;simp
  show eh [] x.id<=_;rw[this];exact hle x (List.mem_filter.1 hx).1
 ·show valI q<=((ofL ls ins).map (free [])).sum;rw[hf0];exact hh
end
end Go.Proofs.YtaegjkllenlfpaaGreatDoor
