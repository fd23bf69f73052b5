/- The seat's texts, part Y25. -/
import Derived.Test.YtaegjkllenlfpaaGreatDoorY24
set_option maxRecDepth 100000
set_option maxHeartbeats 8000000
namespace Go.Proofs.YtaegjkllenlfpaaGreatDoor
open Tryz
variable {w w' U W W' W0 U0:World}{g G base c k GO GQ i X:Nat}{t t0:TypeId}{xs ys:List Value}{fs o ps:List Fr}{id ins:Bs}{x:LotV}{v2:Value}{l:List LotV}
section
open Go.RowKit Go.Shelf
attribute [local go_sem] size_bs toList_bs
abbrev mh:Value := .func (.func 224) #[] #[]
abbrev Md(G:Nat):Value := .func (.func 226) #[] #[.pointer (some ⟨G,0,none⟩)]
abbrev Me(G:Nat):Value := .func (.func 229) #[] #[.pointer (some ⟨G,0,none⟩)]
def cO(G:Nat):List Value:=[.string ⟨#[]⟩,.nilFunc,.bool false,.string ⟨#[102,105,102,111]⟩,mh,.bool false,.string ⟨#[108,105,102,111]⟩,mh,.bool true,.string ⟨#[104,105,103,104,101,115,116]⟩,Me G,.bool false,.string ⟨#[108,111,119,101,115,116]⟩,Md G,.bool false,.string ⟨#[110,97,109,101,100]⟩,mh,.bool false,.string ⟨#[97,118,101,114,97,103,101]⟩,mh,.bool false]
def dV:List Value:=[.string ⟨#[]⟩,.nilFunc,.bool false,.string ⟨#[]⟩,.nilFunc,.bool false,.string ⟨#[]⟩,.nilFunc,.bool false,.string ⟨#[]⟩,.nilFunc,.bool false,.string ⟨#[]⟩,.nilFunc,.bool false,.string ⟨#[]⟩,.nilFunc,.bool false,.string ⟨#[]⟩,.nilFunc,.bool false]
theorem oB(G:Nat):(cO G).toArray.all (·.oneCell')=true:=by simp[cO,Value.oneCell']
theorem oC(h:Blk w g t xs.toArray)(hl:xs.length=ys.length):Blk (w.setCells g 0 ys) g t ys.toArray:=by
 have:=Blk.sets ys 0 w xs h (by omega);rwa[ph _ _ hl]at this
theorem kP{n:Nat}(h:Blk w g t xs.toArray)(hx:n=xs.length):w.there g 0 n:=fun j hj=>by
 have hj2:j<xs.length:=by omega
 rw[MV,h.cell j,h.frozen j,Mk,Mr hj2];exact⟨rfl,rfl⟩
theorem uE(h:Blk w g t xs.toArray):w.rangeAt g 0 xs:=fun j v hv=>by
 rw[MV,h.cell j,Mk];exact hv
theorem vW{fn:Func}{a:Tmp}(h:fn.results=#[.cell a 192])(tmps:Array Value)(w:World)(g G:Nat)(ha:tmps.getD a undef = .pointer (some ⟨g,0,none⟩))(hb:Blk w g 192 (cO G).toArray) :
  (results fn tmps).run prog w = .ok (.agg (cO G).toArray) w:=by
 have hl:=SB (P:=prog) w g 0 192 (cO G) _ (uE hb) underlying192 rfl (by kernel_rfl);generalize cO G=cs at *;unfold results;rw[h];simp only[Ob,OG,OO,ha];simp[asAddr,hl]
theorem uF(w:World):Calls prog 151 #[] w fun e w'=>e = .returned (.agg (cO (w.heap.size+1)).toArray)∧Blk w' (w.heap.size+1) 127 #[mh]∧Ext w w':=by
 have hB0:=(ID w 192 dV.toArray).alloc (.cells #[mh] 127);have hB1:=Mf (w.alloc (.cells dV.toArray 192)) 127 #[mh] (w.heap.size+1) (by simp);have hX:Ext w ((w.alloc (.cells dV.toArray 192)).alloc (.cells #[mh] 127)):=(Id _ _).alloc _;have B0:=qh hB0;have B1:=qh hB1;have HX:=qh hX;clear hB0 hB1 hX;dsimp only[dV]at B0 B1 HX;go_enter func151,ntmps151;go_upto_region 2 with fail;generalize hW2:(w.alloc _).alloc _=W2 at *;clear hW2;obtain⟨G,hG⟩:∃G,w.heap.size+1=G:=⟨_,rfl⟩;have hne:G≠w.heap.size:=by omega
 rw[hG]at B1 ⊢;have HG:=qh hG;clear hG;have q0:=boxCell B1.out;have hth:W2.there w.heap.size 0 (cO G).toArray.size:=kP (xs:=dV) B0.out (by rfl);have hs2:(prog.info? 192).map (·.size)=some (cO G).toArray.size:=by kernel_rfl
 have hoc:=oB G;have O0:=qh (oC (xs:=dV) (ys:=cO G) B0.out rfl);have O1:=qh (Mg B1.out (g':=w.heap.size) hne (cO G) 0);have HS:=qh (ext_sets (cO G) 0 W2 () HX.out (Mn _));go_wp2_with (first|refine Oy rfl 192 _ _ rfl w.heap.size 0 (cO G).toArray rfl rfl hth hs2 hoc ?_|fail);refine MI (vW rfl _ _ w.heap.size G rfl O0.out) rfl ?_;exact⟨by rw[HG.out],by rw[HG.out];exact O1.out,HS.out⟩
def gA(G n:Nat):List Value:=((cO G).drop (n*3)).take 3
theorem kQ{n:Nat}(h:n<=6):(gA G n).length=3:=by
 unfold gA;rw[Mu,MU,show(cO G).length=21 from rfl];omega
theorem CJ(G n:Nat):(gA G n).toArray.all (·.oneCell')=true:=by
 refine all_oneCell_toArray fun v hv=>?_
 have h:=oB G;rw[List.all_toArray,Nm]at h;exact h v (NA (Ng hv))
theorem lO{fn:Func}{a b:Tmp}(h:fn.results=#[.cell a 129,.tmp b])(tmps:Array Value)(w:World)(g:Nat)(cs:List Value)(z:Value)(hn:cs.length=3)(ha:tmps.getD a undef = .pointer (some ⟨g,0,none⟩))(hz:tmps.getD b undef=z)(hb:Blk w g 129 cs.toArray) :
  (results fn tmps).run prog w = .ok (.tuple #[.agg cs.toArray,z]) w:=by
 have hl:=SB (P:=prog) w g 0 129 cs _ (uE hb) underlying129 rfl (by rw[hn];kernel_rfl);unfold results;rw[h];simp only[Ob,OG,OO,ha,hz];simp[asAddr,hl]
def dR:List Value:=[.string ⟨#[]⟩,.nilFunc,.bool false]
def CU(n:Nat)(w:World)(e:Ending)(w':World):Prop:=∃G,e = .returned (.tuple #[.agg (gA G n).toArray,.bool true])∧Blk w' G 127 #[mh]∧w.heap.size<=G∧Ext w w'
theorem kR(n:Nat)(h1:1<=n)(h6:n<=6)(w:World):Calls prog 76 #[.int .i64 n] w (CU n w):=by
 have B0:=qh (ID w 129 dR.toArray);have HX:Hid (Ext w (w.alloc (.cells dR.toArray 129))):=qh (Id _ _);dsimp only[dR]at B0 HX;have g1:¬ ((n:Int)<1):=by omega
 have g2:¬ ((7:Int)<=(n:Int)):=by omega
 have g3:(n:Int)<7:=by omega
 have g4:(0:Int)<=(n:Int):=by omega
 have HN:=qh h6;clear h1 h6;go_enter func76,ntmps76;go_wp2_with fail;refine(uF _).mono ?_;rintro e W1⟨rfl,hb1,hx1⟩;obtain⟨G,hG⟩:∃G,(w.alloc (.cells #[.string ⟨#[]⟩,.nilFunc,.bool false] 129)).heap.size+1=G:=⟨_,rfl⟩;rw[hG]at hb1 ⊢;have HG:Hid (w.heap.size<=G):=qh (by rw[←hG];simp;omega);have B1:=qh (hb1.ext (Id W1 (.cells dV.toArray 192)));replace B0:=qh ((B0.out.ext hx1).ext (Id W1 (.cells dV.toArray 192)));have B2:=qh (ID W1 192 dV.toArray);replace HX:=qh ((HX.out.trans hx1).trans (Id W1 (.cells dV.toArray 192)));have hlt:Hid (w.heap.size<W1.heap.size∧G<W1.heap.size):=qh ⟨by have:=hx1.size;simp at this;omega,hb1.lt⟩;dsimp only[dV]at B0 B1 B2 HX;clear hG hb1 hx1;have hth:=kP (xs:=dV) B2.out (n:=(cO G).toArray.size) rfl;have hs2:(prog.info? 192).map (·.size)=some (cO G).toArray.size:=by kernel_rfl
 have hoc:=oB G;go_upto_region 2 with (first|refine Oy rfl 192 _ _ rfl W1.heap.size 0 (cO G).toArray rfl rfl hth hs2 hoc ?_|fail)
 replace B0:=qh (Mg B0.out (g':=W1.heap.size) (by have:=hlt.out.1;omega) (cO G) 0);replace B1:=qh (Mg B1.out (g':=W1.heap.size) (by have:=hlt.out.2;omega) (cO G) 0);replace B2:=qh (oC (xs:=dV) (ys:=cO G) B2.out rfl);replace HX:=qh (ext_sets (cO G) 0 _ () HX.out (PE hlt.out.1));clear hth hs2 hoc;generalize (W1.alloc _).setCells W1.heap.size 0 (cO G)=W3 at *
 have hrg:W3.rangeAt W1.heap.size (n*3) (gA G n):=fun j v hv=>by
  have h1:((cO G).drop (n*3))[j]? = some v:=by
   unfold gA at hv;rw[O7]at hv;split at hv
   ·exact hv
   ·cases hv
  rw[RZ]at h1;rw[B2.out.cell,Mk];exact h1
 have hs3:(prog.info? 129).map (·.size)=some (gA G n).length:=by rw[kQ HN.out];kernel_rfl
 have hs4:(prog.info? 129).map (·.size)=some (gA G n).toArray.size:=by rw[Nh,kQ HN.out];kernel_rfl
 have hth:=kP (xs:=dR) B0.out (n:=(gA G n).toArray.size) (by rw[Nh,kQ HN.out];rfl);have hoc:=CJ G n;have O0:=qh (oC (xs:=dR) (ys:=gA G n) B0.out (by rw[kQ HN.out];rfl));have HL:=qh (kQ (G:=G) HN.out);have HGW:Hid (Blk (W3.setCells w.heap.size 0 (gA G n)) G 127 #[mh]):=qh (Mg B1.out (eh B1.out B0.out (by decide)) (gA G n) 0);have HS:=qh (ext_sets (gA G n) 0 W3 () HX.out (Mn _));generalize hcs:gA G n=cs at *;have HCS:=qh hcs;clear hcs;go_wp2_with (first|refine Oh rfl 129 _ rfl W1.heap.size (n*3) rfl _ _ hrg underlying129 rfl hs3 ?_|refine Oy rfl 129 _ _ rfl w.heap.size 0 _ rfl rfl hth hs4 hoc ?_|fail);refine MI (lO rfl _ _ w.heap.size cs (.bool true) HL.out rfl rfl O0.out) rfl ?_;exact⟨G,by rw[HCS.out],HGW.out,HG.out,HS.out⟩
def VS(x:LotV):Prop:=SmallL x∧lL x
theorem LN(m:Int):WkOn (jW m) VS:=⟨fun a b ha hb=>(Li m).asy a b ha.2 hb.2,fun a b c ha hb hc=>(Li m).neg a b c ha.2 hb.2 hc.2⟩
theorem uG(a b:Int):decide (cmpI a b<0)=decide (a<b):=by
 unfold cmpI;split
 ·simp[*]
 ·split <;> simp[*]
theorem Ey(a b c d:Int):decide (orI (cmpI a b) (cmpI c d)<0)=(decide (a<b) || (!decide (b<a) && decide (c<d))):=by
 have h1:=uG a b;have h2:=uG c d;unfold orI;by_cases h:cmpI a b=0
 ·rw[Mj (by simpa using h),h2]
  have:a=b:=by
   unfold cmpI at h;split at h
   ·cases h
   ·split at h
    ·assumption
    ·cases h
  subst this;simp
 ·rw[Mq h,h1]
  have:a≠b:=by
   rintro rfl;apply h;unfold cmpI;simp
  by_cases h3:a<b
  ·simp[h3]
  ·have:b<a:=by omega
   simp[h3,this]
structure EntP (G n:Nat) (nm:ByteArray) (kf:Nat) (cb:Array Value):Prop where
 eq:gA G n=[.string nm,.func (.func kf) #[] cb,.bool (decide (n=2))]
 ek:∀args w,(callFunc kf args).run prog w = .ok (.enter kf args) w
 cmp:∀w,Env w->Blk w G 127 #[mh]->∀g w1,w.heap.size<=g->Ext w w1->gO kf cb (jW n) VS g w1
theorem rZ(G n:Nat)(h1:1<=n)(h6:n<=6):∃nm kf cb,EntP G n nm kf cb:=by
 have first:∀m:Nat,m≠3->m≠4->∀w,Env w->Blk w G 127 #[mh]->∀g w1,w.heap.size<=g->Ext w w1->gO 224 #[] (jW m) VS g w1:=by
  intro m h3 h4 w hE hB g w1 hg hx W ho x y hx1 hy1;refine(Lj x y W).mono ?_;rintro e w'⟨rfl,hx'⟩;refine⟨_,rfl,?_,hx'⟩;rw[uG];unfold jW jI;rw[Mj (by omega),Mj (by omega)]
 have hc:n=1∨n=2∨n=3∨n=4∨n=5∨n=6:=by omega
 rcases hc with rfl|rfl|rfl|rfl|rfl|rfl
 ·exact⟨_,_,_,rfl,fun _ _=>by rfl,first 1 (by decide) (by decide)⟩
 ·exact⟨_,_,_,rfl,fun _ _=>by rfl,first 2 (by decide) (by decide)⟩
 ·refine⟨_,229,#[.pointer (some ⟨G,0,none⟩)],rfl,fun _ _=>by rfl,?_⟩;intro w hE hB g w1 hg hx W ho x y hx1 hy1;have hW:=ho.toExt hx hg;refine(Mc x y hx1.1 hy1.1 G W (hE.ext hW) (hB.ext hW)).mono ?_;rintro e w'⟨rfl,hx'⟩;exact⟨_,rfl,by rw[Ey];rfl,hx'⟩
 ·refine⟨_,226,#[.pointer (some ⟨G,0,none⟩)],rfl,fun _ _=>by rfl,?_⟩;intro w hE hB g w1 hg hx W ho x y hx1 hy1;have hW:=ho.toExt hx hg;refine(Mb x y hx1.1 hy1.1 G W (hE.ext hW) (hB.ext hW)).mono ?_;rintro e w'⟨rfl,hx'⟩;exact⟨_,rfl,by rw[Ey];rfl,hx'⟩
 ·exact⟨_,_,_,rfl,fun _ _=>by rfl,first 5 (by decide) (by decide)⟩
 ·exact⟨_,_,_,rfl,fun _ _=>by rfl,first 6 (by decide) (by decide)⟩
theorem CV(A:Option Addr)(c:Nat)(cf:Value)(w:World):Calls prog 307 #[.slice A 0 c,.int .i64 0,.int .i64 0,cf] w fun e w'=>e = .returned (.tuple #[])∧w'=w:=by
 go_enter func307,ntmps307;go_wp2_with fail;refine N4 1 ?_;rw[NN];go_wp2_with fail;go_end0
 exact⟨rfl,rfl⟩
theorem Fq(A:Option Addr)(c:Nat)(cf:Value)(w:World):Calls prog 230 #[.slice A 0 c,.int .i64 0,cf] w fun e w'=>e = .returned (.tuple #[])∧w'=w:=by
 go_enter func230,ntmps230;go_wp2_with fail;refine N4 1 ?_;rw[NN];go_wp2_with fail;refine(CV A c cf _).mono ?_;rintro e w1⟨rfl,rfl⟩;go_wp2_with fail;refine N4 1 ?_;rw[NN];go_wp2_with fail;go_end0
 exact⟨rfl,rfl⟩
theorem vX(A:Option Addr)(c:Nat)(cf:Value)(w:World):Calls prog 152 #[.slice A 0 c,cf] w fun e w'=>e = .returned (.tuple #[])∧w'=w:=by
 go_enter func152,ntmps152;go_wp2_with fail;refine(Fq A c cf _).mono ?_;rintro e w1⟨rfl,rfl⟩;go_wp2_with fail;go_end0
 exact⟨rfl,rfl⟩
theorem CW(A:Option Addr)(c:Nat)(w:World):Calls prog 153 #[.slice A 0 c] w fun e w'=>e = .returned (.tuple #[])∧w'=w:=by
 go_enter func153,ntmps153;go_wp2_with fail;refine N4 1 ?_;rw[NN];go_wp2_with fail;go_end0
 exact⟨rfl,rfl⟩
def Ft(n:Nat)(ls:List LotV)(w:World)(e:Ending)(w':World):Prop:=∃A c,e = .returned (.slice A ls.length c)∧(0<ls.length->∃g,A=some ⟨g,0,none⟩∧aE w' g c (bv n ls))∧Ext w w'
theorem sP(n:Nat)(h1:1<=n)(h6:n<=6)(G:Nat)(ls:List LotV)(hv:∀x ∈ ls,VS x)(A:Option Addr)(c:Nat)(w:World)(hE:Env w)(hG:Blk w G 127 #[mh])(hA:aK w A ls)(hn:ls.length<=100000) :
  Calls prog 81 #[.agg (gA G n).toArray,.slice A ls.length c] w (Ft n ls w):=by
 obtain⟨nm,kf,cb,hp⟩:=rZ G n h1 h6;rw[hp.eq];have ek:=hp.ek;have HC:=qh (hp.cmp w hE hG);have HV:=qh hv;have B0:=qh (ID w 129 #[.string nm,.func (.func kf) #[] cb,.bool (decide (n=2))]);have HX:Hid (Ext w (w.alloc (.cells #[.string nm,.func (.func kf) #[] cb,.bool (decide (n=2))] 129))):=qh (Id _ _);have HCL:=qh (nj ls A c _ (hA.ext HX.out) (by omega));have B00:=B0;clear hp hE hG hA hv;go_enter func81,ntmps81;go_wp2_with fail;refine HCL.out.mono ?_;rintro e w1⟨A1,c1,rfl,hx1,hrow⟩;replace B0:=qh (B0.out.ext hx1);have HX1:=HX.qt hx1;have q1:=B0.out.cell 1;have q2:=B0.out.cell 2;simp only[Mk,Mm,Ms]at q1 q2;have hbl:=B0.out.lt;rcases MB ls.length with h0|h0
 ·have e0:ls=[]:=My.1 h0;subst e0;clear hrow hx1 HCL;simp only[Ns];go_wp2_with fail;refine(vX A1 c1 _ _).mono ?_;rintro e w2⟨rfl,rfl⟩;by_cases h2:n=2
  focus subst h2;go_wp2_with fail;refine(CW A1 c1 _).mono ?_;rintro e w2⟨rfl,rfl⟩
  rotate_left
  focus
   have hd:decide (n=2)=false:=by simp[h2]
   rw[hd]at q2
  all_goals
   go_wp2_with fail;go_ret;exact⟨A1,c1,rfl,fun h=>absurd h (by simp),HX1.out⟩
 ·obtain⟨g,rfl,hg,hr⟩:=hrow h0;have hgw:w.heap.size<=g:=by have:=HX.out.size;omega
  have HS:=qh (ym (jW n) VS (LN n) ls HV.out kf cb ek g c1 w1 (HC.out g w1 hgw HX1.out) hr hn);have HGE:=qh (MC hg hgw);have HXA:=qh hx1;clear hr hrow hx1 HCL hg hgw;go_wp2_with fail;refine HS.out.mono ?_;rintro e w2⟨rfl,hr2,ho2⟩;have HR:=qh hr2;have HXA2:=qh (ho2.toExt HXA.out HGE.out.1);have hb2:=B00.out.ext HXA2.out;have q2:=hb2.cell 2;simp only[Mk,Mm,Ms]at q2;have HX2:=qh (HX.out.trans HXA2.out);have hl:(fm (jW n) ls).length=ls.length:=(mL ls).length_eq.symm;have HSL:=qh hl;clear hr2 ho2 hb2 hl q1 HS HC HV B0 HX1;by_cases h2:n=2
  ·subst h2;have hrv:=Cp (fm (jW ((2:Nat):Int)) ls) g c1 w2 HR.out (by rw[HSL.out];omega);rw[HSL.out]at hrv;have HRV:=qh hrv;clear hrv;go_wp2_with fail;refine HRV.out.mono ?_;rintro e w3⟨rfl,hr3,ho3⟩;have HF:Hid ((0<ls.length->∃g',(some ⟨g,0,none⟩:Option Addr)=some ⟨g',0,none⟩∧aE w3 g' c1 (bv ((2:Nat):Int) ls))∧Ext w w3):=qh ⟨by unfold bv;rw[Mq (by decide)];exact fun _=>⟨g,rfl,hr3⟩,(ho3.toExt HX2.out HGE.out.2)⟩;clear hr3 ho3;go_wp2_with fail;go_ret;exact⟨_,c1,rfl,HF.out⟩
  ·have hd:decide (n=2)=false:=by simp[h2]
   rw[hd]at q2;have HF:Hid ((0<ls.length->∃g',(some ⟨g,0,none⟩:Option Addr)=some ⟨g',0,none⟩∧aE w2 g' c1 (bv n ls))∧Ext w w2):=qh ⟨by unfold bv;rw[Mj (by omega)];exact fun _=>⟨g,rfl,HR.out⟩,HX2.out⟩;go_wp2_with fail;go_ret;exact⟨_,c1,rfl,HF.out⟩
theorem jL(a:Bs)(ha:a.length<=100000):bJ 75 #[.string (bs a)] (.bool (decide (0<valI a))):=by
 intro w hE;have HC:=qh (gK a ha w hE)
 have HD:Hid (decide (0<cmpI (valI a) 0)=decide (0<valI a)):=qh (by
  have:=@bA (valI a) 0;rw[decide_eq_decide];omega)
 generalize decide (0<valI a)=b at *;generalize cmpI (valI a) 0=k at *;go_enter func75,ntmps75;go_wp2_with fail;refine HC.out.mono ?_;rintro e w1⟨rfl,hx1⟩;have HX:=qh hx1;clear hx1;go_wp2_with fail;go_ret;exact⟨by rw[←HD.out];rfl,HX.out⟩
theorem mQ(a b:Bs)(ha:a.length<=100000)(hb:b.length<=100000):bJ 80 #[.string (bs a),.string (bs b)] (.string (bs (aD a b))):=by
 intro w hE;have HC:=qh (cmpP a b ha hb w hE);have hn:=@cX (valI a) (valI b);by_cases h:valI a<valI b
 focus have e:aD a b=a:=Mq h;have g1:decide (cmpI (valI a) (valI b)<0)=true:=by rw[MW];omega
 rotate_left
 focus have e:aD a b=b:=Mj h;have g1:decide (cmpI (valI a) (valI b)<0)=false:=by rw[Mi];omega
 all_goals
  rw[e];clear h hn e;generalize cmpI (valI a) (valI b)=k at *;go_enter func80,ntmps80;go_wp2_with fail;refine HC.out.mono ?_;rintro e w1⟨rfl,hx1⟩;have HX:=qh hx1;clear hx1;go_wp2_with fail;go_ret;exact⟨rfl,HX.out⟩
theorem uH:(prog.info? 124).map (fun i=>(i.zero,i.size,i.bytes))=some (some (.agg #[.string ⟨#[]⟩,.string ⟨#[]⟩]),2,32):=by kernel_rfl
def eG(w:World)(base:Nat)(v:Value)(fs:List Fr):Prop:=w.ownsRow base 124 2 v fs.length (bH fs)
theorem eG.ext{v:Value}(h:eG w base v fs)(hx:Ext w w'):eG w' base v fs:=own_ext2 h hx
theorem eG.rd{A:Option Addr}(h:eG w base (.slice A fs.length c) fs):eH w A fs:=Reads.own h
theorem eG.row{v:Value}(h:eG w base v fs)(h0:0<fs.length):∃g c,v = .slice (some ⟨g,0,none⟩) fs.length c∧base<=g∧∃cur,Row w g 124 2 fs.length c (bH fs) cur:=by
 obtain⟨A,c,rfl⟩:=aF h;rcases h.2 with ⟨h1,h2⟩ | ⟨g,cap,cur,h1,h2,_⟩
 ·omega
 ·injection h1 with e1 e2 e3
  subst e1 e3;exact⟨g,c,rfl,h2,(Row.of_own h).2⟩
theorem yp(fs:List Fr)(k:Nat)(d:Bs)(h:k<fs.length):bH (fs.set k ⟨(fs[k]'h).num,d⟩)=(bH fs).set (k*2+1) (.string (bs d)):=by
 rw[xX fs k _ h];congr 1
 apply Oi (by simp);intro m h1 h2;rw[QO];split
 ·rename_i e
  have:=ik bC 2 dF fs k 0 h (by decide);rw[Nj]at this
  subst e;have h3:(bH fs)[k*2]? = some (.string (bs (fs[k]'h).num)):=this
  rw[Mr h2]at h3;injection h3 with h3
  exact h3.symm
 ·rfl
theorem eG.den(h:eG w base (.slice (some ⟨g,0,none⟩) fs.length c) fs)(hk:k<fs.length)(d:Bs):eG (w.setCell ⟨g,k*2+1,none⟩ (.string (bs d))) base (.slice (some ⟨g,0,none⟩) (fs.set k ⟨(fs[k]'hk).num,d⟩).length c) (fs.set k ⟨(fs[k]'hk).num,d⟩):=by
 obtain⟨hb,cur,hr⟩:=Row.of_own h;have hl:(bH fs).length=fs.length*2:=qC fs;have hlen:cur.length=c*2:=hr.full;have hle:=hr.le;have h1:=hr.blk.set_ (k*2+1) (.string (bs d));rw[N6]at h1
 have hrow:Row (w.setCell ⟨g,k*2+1,none⟩ (.string (bs d))) g 124 2 (fs.set k ⟨(fs[k]'hk).num,d⟩).length c (bH (fs.set k ⟨(fs[k]'hk).num,d⟩)) (cur.set (k*2+1) (.string (bs d))) :=
  ⟨h1,qC _,by simpa using hle,hr.big,by simpa using hlen,by rw[MM,Rw,hr.take,yp fs k d hk]⟩
 exact hrow.own hb
theorem Only.grown{a:World}{b:Option Nat}(h:Only g a w)(hg:w.grownBy w' b)(hb:∀k,b=some k->a.heap.size<=k):Only g a w' :=
 ⟨hg.os.trans h.os,hg.tape.trans h.tape,hg.output.trans h.output,Mx h.size hg.size,fun i hi hne=>(No hg i (M5 hi h.size) (fun e=>by have:=hb i e.symm;omega)).trans (No h i hi hne)⟩
theorem Only.setNew{a:World}(h:Only g a w){p:Addr}(hp:a.heap.size<=p.block)(u:Value):Only g a (w.setCell p u) :=
 ⟨h.os,h.tape,h.output,by simpa[World.setCell] using h.size,fun i hi hne=>(Px w p u i (by omega)).trans (No h i hi hne)⟩
def je(U W:World):Prop:=∀(g:Nat) (t:TypeId) (cs:Array Value),Blk U g t cs->t≠27->t≠24->t≠124->Blk W g t cs
theorem je.refl(U:World):je U U:=fun _ _ _ h _ _ _=>h
theorem je.ext(h:je U W)(hx:Ext W W'):je U W':=fun g t cs hb h1 h2 h3=>(h g t cs hb h1 h2 h3).ext hx
theorem je.set_(h:je U W){p:Addr}{cs0:Array Value}(hp:Blk W p.block t0 cs0)(ht:t0=27∨t0=24∨t0=124)(u:Value):je U (W.setCell p u):=fun g t cs hb h1 h2 h3 =>
 (h g t cs hb h1 h2 h3).far (eh (h g t cs hb h1 h2 h3) hp (by rcases ht with rfl|rfl|rfl <;> assumption)) u
theorem je.grown(h:je U W){v:Value}(ow:eG W base v fs)(hg:W.grownBy w' v.ownBlock):je U w':=fun g t cs hb h1 h2 h3 =>
 (hg.block g (h g t cs hb h1 h2 h3).lt (fun e=>gC ow (h g t cs hb h1 h2 h3) (Ol h3) e.symm)).trans (h g t cs hb h1 h2 h3)
structure ChM (W0 U0:World) (GO GQ:Nat) (s:Cho) (W:World):Prop where
 ext:Only GQ W0 W
 o:∃v,Blk W GO 27 #[v]∧eG W W0.heap.size v s.out
 q:Blk W GQ 24 #[.string (bs s.rem)]
 ty:je U0 W
theorem ChM.on{s:Cho}(h:ChM W0 U0 GO GQ s W)(hx:Ext W W'):ChM W0 U0 GO GQ s W':=by
 obtain⟨v,h1,h2⟩:=h.o;exact⟨h.ext.ext hx,⟨v,h1.ext hx,h2.ext hx⟩,h.q.ext hx,h.ty.ext hx⟩
theorem Iw(x:LotV)(p:Fr)(X:Nat)(W:World)(hb:Blk W X 62 (lc x)):Calls prog 79 #[wP p,.pointer (some ⟨X,0,none⟩)] W fun e w'=>e = .returned (.bool (p.num == x.id))∧Ext W w':=by
 obtain⟨q0,_⟩:=ap (hb.alloc (.cells #[.string (bs p.num),.string (bs p.den)] 124)) (iD _);have hlt:=hb.lt;have HX:Hid (Ext W (W.alloc (.cells #[.string (bs p.num),.string (bs p.den)] 124))):=qh (Id _ _);clear hb;obtain⟨pn,pd⟩:=p;go_enter func79,ntmps79;go_wp2_with fail;go_ret;exact⟨rfl,HX.out⟩
structure ChB1 (s:Cho):Prop where
 rem:s.rem.length<=50000
 den:∀p ∈ s.out,p.den.length<=50000
 len:s.out.length<=100000
theorem iz{a b:Bs}{L:Nat}(ha:a.length<=L)(hb:b.length<=L):(aD a b).length<=L:=by unfold aD;split <;> assumption
theorem sQ{s:Cho}{q:Bs}(h:aW s.out id=none):s.left id q=q:=by
 unfold Cho.left;unfold aW at h;rw[h]
theorem sR{s:Cho}{q:Bs}(h:aW s.out id=some i)(hi:i<s.out.length):s.left id q=ofI (valI q-valI (s.out[i]'hi).den):=by
 unfold Cho.left;unfold aW at h;rw[h];simp[hi]
theorem uI{s:Cho}{n:Bs}(h:aW s.out id=none):s.put id n=s.out++[⟨id,ofI (0+valI n)⟩]:=by
 unfold Cho.put;unfold aW at h;rw[h]
theorem uJ{s:Cho}{n:Bs}(h:aW s.out id=some i)(hi:i<s.out.length):s.put id n=s.out.set i ⟨id,ofI (valI (s.out[i]'hi).den+valI n)⟩:=by
 unfold Cho.put;unfold aW at h;rw[h];simp[hi]
theorem CY{s:Cho}(h:aW s.out id=none):bO (fun p:Fr=>p.num == id) s.out = -1:=by
 unfold bO;unfold aW at h;rw[h]
theorem CZ{s:Cho}(h:aW s.out id=some i):bO (fun p:Fr=>p.num == id) s.out=(i:Int):=by
 unfold bO;unfold aW at h;rw[h]
structure ChX (W0 U0:World) (GO GQ X:Nat) (x:LotV) (s:Cho) (W:World):Prop where
 m:ChM W0 U0 GO GQ s W
 x:Blk W X 62 (lc x)
theorem ChX.on{s:Cho}(h:ChX W0 U0 GO GQ X x s W)(hx:Ext W W'):ChX W0 U0 GO GQ X x s W':=⟨h.m.on hx,h.x.ext hx⟩
theorem ChX.app{s:Cho}{v:Value}(h:ChX W0 U0 GO GQ X x s W)(hg:W0.heap.size<=GO∧GO≠GQ)(hX:X≠GO)(ob:Blk W GO 27 #[v])(ow:eG W W0.heap.size v s.out)(hgrow:W.grownBy w' v.ownBlock)
  (hown':w'.ownsRow W0.heap.size 124 2 v2 (s.out.length+1) (bH s.out++bC ⟨id,[]⟩)):ChX W0 U0 GO GQ X x ⟨s.out++[⟨id,[]⟩],s.rem⟩ (w'.setCell ⟨GO,0,none⟩ v2):=by
 have keep:∀ {g:Nat} {t:TypeId} {cs:Array Value},Blk W g t cs->t≠124->Blk w' g t cs:=fun {g t cs} hb hne =>
  (hgrow.block g hb.lt (fun e=>gC ow hb hne.symm e.symm)).trans hb
 have hb':=keep ob (by decide);refine⟨⟨(h.m.ext.grown hgrow (own_base ow)).setNew (p:=⟨GO,0,none⟩) hg.1 _,⟨v2,hb'.set_ 0 _,?_⟩,(keep h.m.q (by decide)).far (p:=⟨GO,0,none⟩) (Ol hg.2) _,(h.m.ty.grown ow hgrow).set_ (p:=⟨GO,0,none⟩) hb' (.inl rfl) _⟩,(keep h.x (by decide)).far (p:=⟨GO,0,none⟩) hX _⟩;unfold eG;have e1:bH (s.out++[(⟨id,[]⟩:Fr)])=bH s.out++bC ⟨id,[]⟩:=by simp[bH]
 rw[Mp,e1];exact fW hown' (gC hown' hb' (by decide)) _
structure ChO (W0:World) (GO GQ X:Nat) (s:Cho) (g c k:Nat) (d:Bs) (W:World):Prop where
 o:W.cell? ⟨GO,0,none⟩=some (.slice (some ⟨g,0,none⟩) s.out.length c)
 d:W.cell? ⟨g,k*2+1,none⟩=some (.string (bs d))
 f:W.frozen? ⟨g,k*2+1,none⟩=false
 fo:W.frozen? ⟨GO,0,none⟩=false
theorem ChX.open_{s:Cho}(h:ChX W0 U0 GO GQ X x s W)(hk:k<s.out.length):∃g c,(∀W',Ext W W'->ChO W0 GO GQ X s g c k (s.out[k]'hk).den W')∧W0.heap.size<=g∧g≠GO∧g≠GQ∧g≠X ∧
  ∀W',Ext W W'->∀d,ChX W0 U0 GO GQ X x ⟨s.out.set k ⟨(s.out[k]'hk).num,d⟩,s.rem⟩ (W'.setCell ⟨g,k*2+1,none⟩ (.string (bs d))):=by
 obtain⟨v,ob,ow⟩:=h.m.o;obtain⟨g,c,rfl,hb,cur,hr⟩:=ow.row (by omega);have n1:g≠GO:=eh hr.blk ob (by decide);have n2:g≠GQ:=eh hr.blk h.m.q (by decide);have n3:g≠X:=eh hr.blk h.x (by decide)
 have hcell:W.cell? ⟨g,k*2+1,none⟩=some (.string (bs (s.out[k]'hk).den)):=by
  have:=ik bC 2 dF s.out k 1 hk (by decide);exact hr.cell this
 refine⟨g,c,fun W' hx=>⟨boxCell (ob.ext hx),(hx.cell (p:=⟨g,k*2+1,none⟩) hr.blk.lt).trans hcell,(hr.ext hx).frozen _,(ob.ext hx).frozen 0⟩,hb,n1,n2,n3,fun W' hx d=>?_⟩;have h':=h.on hx;refine⟨⟨h'.m.ext.setNew (p:=⟨g,k*2+1,none⟩) hb _,⟨_,(ob.ext hx).far (p:=⟨g,k*2+1,none⟩) (Ol n1) _,by have:=(ow.ext hx).den hk d;rw[MM]at this;exact this⟩,h'.m.q.far (p:=⟨g,k*2+1,none⟩) (Ol n2) _,h'.m.ty.set_ (p:=⟨g,k*2+1,none⟩) (hr.blk.ext hx) (.inr (.inr rfl)) _⟩,h'.x.far (p:=⟨g,k*2+1,none⟩) (Ol n3) _⟩
theorem ChX.quant{s:Cho}(h:ChX W0 U0 GO GQ X x s W)(hg:W0.heap.size<=GO∧GO≠GQ)(r:Bs):ChM W0 U0 GO GQ ⟨s.out,r⟩ (W.setCell ⟨GQ,0,none⟩ (.string (bs r))):=by
 obtain⟨v,ob,ow⟩:=h.m.o;exact⟨h.m.ext.setCell 0 _,⟨v,ob.far (p:=⟨GQ,0,none⟩) hg.2 _,fW ow (gC ow h.m.q (by decide)) _⟩,h.m.q.set_ 0 _,h.m.ty.set_ (p:=⟨GQ,0,none⟩) h.m.q (.inr (.inl rfl)) _⟩
theorem zW(f:Fr):∀u ∈ bC f,u.oneCell'=true:=by
 intro u hu;simp only[bC,MS,N7,Qg]at hu;rcases hu with rfl|rfl <;> rfl
def fR(W0 U0:World)(GO GQ:Nat)(s:Cho)(x:LotV)(most:Bs)(e:Ending)(w':World):Prop:=e = .returned (.tuple #[])∧ChM W0 U0 GO GQ (s.take x.id x.q most) w'
theorem Da(x:LotV)(hx:x.q.length<=50000)(most:Bs)(hm:most.length<=50000)(W0 U0:World)(GO GQ:Nat)(hE:∀W',Only GQ W0 W'->Env W')(hg:W0.heap.size<=GO∧GO≠GQ)(s:Cho)(hb:ChB1 s)(h0:aW s.out x.id=none)(W:World)(h:ChM W0 U0 GO GQ s W) :
  Calls prog 77 #[lv x,.string (bs most),.pointer (some ⟨GO,0,none⟩),.pointer (some ⟨GQ,0,none⟩)] W (fR W0 U0 GO GQ s x most):=by
 have HH:Hid (ChX W0 U0 GO GQ W.heap.size x s (W.alloc (.cells (lc x) 62))):=qh ⟨h.on (Id _ _),ID _ _ _⟩;have HE:=qh hE;have HG:=qh hg;have hlo:GO<W.heap.size:=by obtain⟨v,ob,_⟩:=h.o;exact ob.lt
 have hlq:GQ<W.heap.size:=h.q.lt;have hl:=sQ (q:=x.q) h0;have hnn:s.n x.id x.q most=aD (aD most x.q) s.rem:=by unfold Cho.n;rw[hl]
 have HT:Hid (s.take x.id x.q most=if valI (aD (aD most x.q) s.rem)<=0 then s else⟨s.out++[⟨x.id,ofI (0+valI (aD (aD most x.q) s.rem))⟩],ofI (valI s.rem-valI (aD (aD most x.q) s.rem))⟩):=qh (by unfold Cho.take;rw[hnn,uI h0]);have L1:=qh (mQ most x.q (by omega) (by omega));have L2:=qh (mQ (aD most x.q) s.rem (by have:=iz hm hx;omega) (by have:=hb.rem;omega));have hnl:(aD (aD most x.q) s.rem).length<=50000:=iz (iz hm hx) hb.rem;have HB:=qh hb;have hol:=hb.len;have P1:=qh (jL (aD (aD most x.q) s.rem) (by omega));obtain⟨d0,hd0⟩:∃d0:Bs,d0=[]:=⟨_,rfl⟩;have A1:=qh (iL d0 (aD (aD most x.q) s.rem) (by rw[hd0];simp) (by omega));have S1:=qh (lC s.rem (aD (aD most x.q) s.rem) (by have:=hb.rem;omega) (by omega));obtain⟨i0,hI,hz0,hz1,hz2⟩:=Ny uH;have HI:=qh hI;have HZ:=qh (MC hz0 (MC hz1 hz2));have HIX:Hid (bO (fun p:Fr=>p.num == x.id) s.out = -1):=qh (CY h0);rw[show valI d0=0 by rw[hd0];exact my]at A1;have HD0:=qh hd0;clear hd0;have hnx:GO≠W.heap.size∧GQ≠W.heap.size:=⟨by omega,by omega⟩;generalize aD (aD most x.q) s.rem=n at *;generalize aD most x.q=n1 at *;generalize ofI (0+valI n)=nd at *;generalize ofI (valI s.rem-valI n)=nr at *;clear h h0 hl hnn hb hx hm hE hg hI hz0 hz1 hz2;have HIDX:=qh (fun A c U0 (h:eG U0 W0.heap.size (.slice A s.out.length c) s.out) (hb:Blk U0 W.heap.size 62 (lc x))=>pD 79 #[.pointer (some ⟨W.heap.size,0,none⟩)] (fun _ _=>by rfl) (fun p=>p.num == x.id) s.out A c U0 h.rd (by omega) (fun p _ U hu=>Iw x p W.heap.size U (hb.ext hu)));obtain⟨xi,xn,xa,xo,xq,xc,xu⟩:=x;simp only at HT L1 HIDX HIX;rw[HIX.out]at HIDX;have HIDX1:=qh (fun A c h=>HIDX.out A c _ h HH.out.x);obtain⟨v,ob,ow⟩:=HH.out.m.o;obtain⟨A,c,hv⟩:=aF ow;subst hv;have q0:=boxCell ob;go_enter func77,ntmps77;go_wp2_with fail;refine(HIDX1.out A c ow).mono ?_;rintro e w1⟨rfl,hx1⟩;replace HH:=qh (HH.out.on hx1);clear hx1 ob ow q0 HIDX HIDX1;generalize W.heap.size=X at *;obtain⟨v,ob,ow⟩:=HH.out.m.o;obtain⟨A,c,hv⟩:=aF ow;subst hv;have q0:=boxCell ob;have qq:=boxCell HH.out.m.q;obtain⟨x0,x1,x2,x3,x4,x5,x6⟩:=ap HH.out.x (iD _);go_upto_region 5 with fail;have HX:Hid (Ext w1 w1.drew):=qh (iD _).drew
 go_region_held3 (fun w'=>w'.cell? ⟨GQ,0,none⟩=some (.string (bs s.rem)))
  (go_keep)
  ((go_at_call 80;((first|(with_reducible refine(L1.out _ (HE.out _ (HH.out.on HX.out).m.ext)).mono ?_)|(with_reducible refine(L2.out _ (HE.out _ (HH.out.on HX.out).m.ext)).mono ?_));rintro e w2⟨rfl,hx2⟩);(replace HX:=HX.qt hx2);(have qn:=boxCell (HH.out.on HX.out).m.q);clear hx2))
 replace HH:=qh (HH.out.on HX.out);clear HX qn q0 qq x0 x1 x2 x3 x4 x5 x6 ob ow;by_cases hn:valI n<=0
 ·have hd:decide (0<valI n)=false:=by rw[Mi];omega
  rw[hd]at P1;have HF:Hid (fR W0 U0 GO GQ s ⟨xi,xn,xa,xo,xq,xc,xu⟩ most (.returned (.tuple #[]))=fR W0 U0 GO GQ s ⟨xi,xn,xa,xo,xq,xc,xu⟩ most (.returned (.tuple #[]))):=qh rfl;clear hd HF;rw[Mq hn]at HT;go_wp2_with fail;refine(P1.out _ (HE.out _ HH.out.m.ext)).mono ?_;rintro e wv⟨rfl,hx1⟩;replace HH:=qh (HH.out.on hx1);clear hx1;go_wp2_with fail;go_end0
  exact⟨rfl,by rw[HT.out];exact HH.out.m⟩
 ·have hd:decide (0<valI n)=true:=by rw[MW];omega
  rw[hd]at P1;rw[Mj hn]at HT;clear hd hn;go_wp2_with fail;refine(P1.out _ (HE.out _ HH.out.m.ext)).mono ?_;rintro e wv⟨rfl,hx1⟩;replace HH:=qh (HH.out.on hx1);clear hx1;have HH1:=qh (HH.out.on (Id wv (.cells #[.string (bs xi),.string ⟨#[]⟩] 124)));obtain⟨v,ob,ow⟩:=HH.out.m.o;obtain⟨A2,c2,hv⟩:=aF ow;subst hv;have q0:=boxCell ob;obtain⟨x0,_,_,_,_,_,_⟩:=ap HH.out.x (iD _);have OB:=qh (ob.alloc (.cells #[.string (bs xi),.string ⟨#[]⟩] 124));have OW:=qh (ow.ext (Id wv (.cells #[.string (bs xi),.string ⟨#[]⟩] 124)));have hsz:=HH1.out.m.ext.size;obtain⟨hz0,hz1,hz2⟩:=HZ.out;have hXG:X≠GO:=Ol hnx.1;clear ob ow;go_upto_region 9 with fail;go_wp2_with (at_builtin;go_must (refine OE _ rfl (.tmp 35) (.tmp 39) 27 rfl W0.heap.size 124 i0 _ 2 32 Rq HI.out hz0 hz1 hz2 rfl (by decide) _ s.out.length (bH s.out) rfl OW.out ⟨wv.heap.size,0,none⟩ 1 1 (bC ⟨xi,[]⟩) rfl rfl (M7 (M4 wv _)) (zW _) (by simp only[maxLen];omega) (by omega) hsz ?_);intro v2 w' hown' hgrow hnil;(obtain⟨A3,c3,rfl⟩:=aF hown');clear hnil;(have HT1:=qh (HH1.out.app HG.out hXG OB.out OW.out hgrow hown'));(have hbG:Blk w' GO 27 #[.slice A2 s.out.length c2]:=(hgrow.block GO OB.out.lt (fun e=>gC OW.out OB.out (by decide) e.symm)).trans OB.out);(have d0:=boxCell hbG);(have d1:=hbG.frozen 0));clear hgrow hown' hbG d0 d1 q0 x0 OB OW hsz hz0 hz1 hz2 HH HH1 hnx hXG;generalize w'.setCell { block:=GO,off:=0 } (Value.slice A3 (s.out.length+1) c3)=W5 at *;obtain⟨k,hk⟩:∃k,s.out.length=k:=⟨_,rfl⟩;have hk1:k<(s.out++[(⟨xi,[]⟩:Fr)]).length:=by rw[Mp,hk];simp
  obtain⟨g,c,ho,hgb,g1,g2,g3,hst⟩:=HT1.out.open_ (s:=⟨s.out++[⟨xi,[]⟩],s.rem⟩) (k:=k) hk1;have e1:(s.out++[(⟨xi,[]⟩:Fr)])[k]=⟨xi,[]⟩:=by simp only[←hk];simp
  have e2:(s.out++[(⟨xi,[]⟩:Fr)]).length=k+1:=by rw[Mp,hk];rfl
  have e3:(s.out++[(⟨xi,[]⟩:Fr)]).set k ⟨xi,nd⟩=s.out++[⟨xi,nd⟩]:=by rw[←hk,Nx _ _ (Mn _),Pq];rfl
  simp only[e1]at ho hst;have HST:Hid (∀W',Ext W5 W'->ChX W0 U0 GO GQ X ⟨xi,xn,xa,xo,xq,xc,xu⟩ ⟨s.out++[⟨xi,nd⟩],s.rem⟩ (W'.setCell ⟨g,k*2+1,none⟩ (.string (bs nd)))):=qh (fun W' hx=>by have:=hst W' hx nd;rw[e3]at this;exact this);have HOO:Hid (∀W',Ext W5 W'->W'.cell? ⟨GO,0,none⟩=some (.slice (some ⟨g,0,none⟩) (k+1) c)∧W'.cell? ⟨g,k*2+1,none⟩=some (.string (bs d0))∧W'.frozen? ⟨g,k*2+1,none⟩=false):=qh (fun W' hx=>⟨by rw[←e2];exact(ho W' hx).o,by rw[HD0.out];exact(ho W' hx).d,(ho W' hx).f⟩);have HM1:Hid (∀W',Ext W5 W'->Env W'):=qh (fun W' hx=>HE.out _ (HT1.out.on hx).m.ext);simp only[hk];have hkc:(k:Int)<(k:Int)+1:=by omega
  have hk0:(0:Int)<=(k:Int):=by omega
  have hgn:g≠GO:=g1;have hgn2:GO≠g:=Ol g1;have hgn3:g≠GQ:=g2;have hgn4:GQ≠g:=Ol g2;clear HT1 ho hst e1 e2 e3 hk1 hgb g1 g2 g3 hk hol;obtain⟨o0,o1,o2⟩:=HOO.out W5 (iD _);have HD:Hid (Ext W5 W5.drew):=qh (iD _).drew;go_region_law (first|(go_simp;go_at_call 19;((with_reducible refine(A1.out _ (HM1.out _ HD.out)).mono ?_);rintro e w6⟨rfl,hx⟩);(replace HD:=HD.qt hx);(obtain⟨y0,y1,y2⟩:=HOO.out _ HD.out);clear hx))
  all_goals
   have HF:=qh (HST.out _ HD.out);clear o0 o1 o2 y0 y1 y2 HD HST HOO HM1;have qf:=boxCell HF.out.m.q;go_wp2_with fail;refine(S1.out _ (HE.out _ HF.out.m.ext)).mono ?_;rintro e wz⟨rfl,hx9⟩;replace HF:=qh (HF.out.on hx9);have qf2:=boxCell HF.out.m.q;have ff:=HF.out.m.q.frozen 0;clear hx9 qf;go_wp2_with fail;go_end0
   exact⟨rfl,by rw[HT.out];exact HF.out.quant HG.out nr⟩
theorem Db(x:LotV)(hx:x.q.length<=50000)(most:Bs)(hm:most.length<=50000)(W0 U0:World)(GO GQ:Nat)(hE:∀W',Only GQ W0 W'->Env W')(hg:W0.heap.size<=GO∧GO≠GQ)(s:Cho)(hb:ChB1 s)(hlf:(s.left x.id x.q).length<=50000)(i:Nat)(h0:aW s.out x.id=some i)(W:World)(h:ChM W0 U0 GO GQ s W) :
  Calls prog 77 #[lv x,.string (bs most),.pointer (some ⟨GO,0,none⟩),.pointer (some ⟨GQ,0,none⟩)] W (fR W0 U0 GO GQ s x most):=by
 obtain⟨hi,hnum⟩:=eA h0;have HH:Hid (ChX W0 U0 GO GQ W.heap.size x s (W.alloc (.cells (lc x) 62))):=qh ⟨h.on (Id _ _),ID _ _ _⟩;have HE:=qh hE;have HG:=qh hg;have hl:=sR (q:=x.q) h0 hi;obtain⟨d0,hd0⟩:∃d0:Bs,d0=(s.out[i]'hi).den:=⟨_,rfl⟩;rw[←hd0]at hl;rw[hl]at hlf;have hdl:d0.length<=50000:=by rw[hd0];exact hb.den _ (Ml hi)
 have hnn:s.n x.id x.q most=aD (aD most (ofI (valI x.q-valI d0))) s.rem:=by unfold Cho.n;rw[hl]
 have HT:Hid (s.take x.id x.q most=if valI (aD (aD most (ofI (valI x.q-valI d0))) s.rem)<=0 then s else⟨s.out.set i ⟨x.id,ofI (valI d0+valI (aD (aD most (ofI (valI x.q-valI d0))) s.rem))⟩,ofI (valI s.rem-valI (aD (aD most (ofI (valI x.q-valI d0))) s.rem))⟩):=qh (by unfold Cho.take;rw[hnn,uJ h0 hi,←hd0]);have SL:=qh (lC x.q d0 (by omega) (by omega));have L1:=qh (mQ most (ofI (valI x.q-valI d0)) (by omega) (by omega));have L2:=qh (mQ (aD most (ofI (valI x.q-valI d0))) s.rem (by have:=iz hm hlf;omega) (by have:=hb.rem;omega));have hnl:(aD (aD most (ofI (valI x.q-valI d0))) s.rem).length<=50000:=iz (iz hm hlf) hb.rem;have hol:=hb.len;have P1:=qh (jL (aD (aD most (ofI (valI x.q-valI d0))) s.rem) (by omega));have A1:=qh (iL d0 (aD (aD most (ofI (valI x.q-valI d0))) s.rem) (by omega) (by omega));have S1:=qh (lC s.rem (aD (aD most (ofI (valI x.q-valI d0))) s.rem) (by have:=hb.rem;omega) (by omega));have HIX:Hid (bO (fun p:Fr=>p.num == x.id) s.out=(i:Int)):=qh (CZ h0);have HD0:=qh hd0;have HNUM:=qh hnum;have HIL:=qh hi;generalize aD (aD most (ofI (valI x.q-valI d0))) s.rem=n at *;generalize aD most (ofI (valI x.q-valI d0))=n1 at *;generalize ofI (valI x.q-valI d0)=lf at *;generalize ofI (valI d0+valI n)=nd at *;generalize ofI (valI s.rem-valI n)=nr at *;have HIDX:=qh (fun A c U0 (h:eG U0 W0.heap.size (.slice A s.out.length c) s.out) (hb:Blk U0 W.heap.size 62 (lc x))=>pD 79 #[.pointer (some ⟨W.heap.size,0,none⟩)] (fun _ _=>by rfl) (fun p=>p.num == x.id) s.out A c U0 h.rd (by omega) (fun p _ U hu=>Iw x p W.heap.size U (hb.ext hu)));have hkc:(i:Int)<(s.out.length:Int):=by omega
 have hk0:(0:Int)<=(i:Int):=by omega
 clear h h0 hl hnn hb hx hm hE hg hlf hd0 hnum hdl hnl hol;obtain⟨xi,xn,xa,xo,xq,xc,xu⟩:=x;simp only at HT L1 HIDX HIX SL HNUM;rw[HIX.out]at HIDX;have HIDX1:=qh (fun A c h=>HIDX.out A c _ h HH.out.x);obtain⟨v,ob,ow⟩:=HH.out.m.o;obtain⟨A,c,hv⟩:=aF ow;subst hv;have q0:=boxCell ob;go_enter func77,ntmps77;go_wp2_with fail;refine(HIDX1.out A c ow).mono ?_;rintro e w1⟨rfl,hx1⟩;replace HH:=qh (HH.out.on hx1);clear hx1 ob ow q0 HIDX HIDX1;generalize W.heap.size=X at *;obtain⟨g,c,ho,hgb,g1,g2,g3,hst⟩:=HH.out.open_ hi;rw[HNUM.out]at hst;rw[←HD0.out]at ho;have HST:Hid (∀W',Ext w1 W'->ChX W0 U0 GO GQ X ⟨xi,xn,xa,xo,xq,xc,xu⟩ ⟨s.out.set i ⟨xi,nd⟩,s.rem⟩ (W'.setCell ⟨g,i*2+1,none⟩ (.string (bs nd)))):=qh (fun W' hx=>hst W' hx nd);have HOO:Hid (∀W',Ext w1 W'->W'.cell? ⟨GO,0,none⟩=some (.slice (some ⟨g,0,none⟩) s.out.length c)∧W'.cell? ⟨g,i*2+1,none⟩=some (.string (bs d0))∧W'.frozen? ⟨g,i*2+1,none⟩=false):=qh (fun W' hx=>⟨(ho W' hx).o,(ho W' hx).d,(ho W' hx).f⟩);have HM1:Hid (∀W',Ext w1 W'->Env W'):=qh (fun W' hx=>HE.out _ (HH.out.on hx).m.ext);have HQ:Hid (∀W',Ext w1 W'->W'.cell? ⟨GQ,0,none⟩=some (.string (bs s.rem))):=qh (fun W' hx=>boxCell (HH.out.on hx).m.q);have hgn:g≠GO:=g1;have hgn2:GO≠g:=Ol g1;have hgn3:g≠GQ:=g2;have hgn4:GQ≠g:=Ol g2;obtain⟨o0,o1,o2⟩:=HOO.out w1 (iD _);obtain⟨x0,x1,x2,x3,x4,x5,x6⟩:=ap HH.out.x (iD _);clear ho hst hgb g1 g2 g3;go_wp2_with fail;refine(SL.out _ (HM1.out _ (iD _))).mono ?_;rintro e w2⟨rfl,hx2⟩;have HX0:=qh hx2;clear hx2 o0 o1 o2 x0 x1 x2 x3 x4 x5 x6 SL;have qq:=HQ.out _ HX0.out;go_upto_region 5 with fail;have HX:Hid (Ext w1 w2.drew):=qh HX0.out.drew
 go_region_held3 (fun w'=>w'.cell? ⟨GQ,0,none⟩=some (.string (bs s.rem)))
  (go_keep)
  ((go_at_call 80;((first|(with_reducible refine(L1.out _ (HM1.out _ HX.out)).mono ?_)|(with_reducible refine(L2.out _ (HM1.out _ HX.out)).mono ?_));rintro e w3⟨rfl,hx3⟩);(replace HX:=HX.qt hx3);(have qn:=HQ.out _ HX.out);clear hx3))
 clear qq qn HX0;by_cases hn:valI n<=0
 ·have hd:decide (0<valI n)=false:=by rw[Mi];omega
  rw[hd]at P1;clear hd;rw[Mq hn]at HT;go_wp2_with fail;refine(P1.out _ (HM1.out _ HX.out)).mono ?_;rintro e w4⟨rfl,hx4⟩;replace HX:=HX.qt hx4;clear hx4;go_wp2_with fail;go_end0
  exact⟨rfl,by rw[HT.out];exact(HH.out.on HX.out).m⟩
 ·have hd:decide (0<valI n)=true:=by rw[MW];omega
  rw[hd]at P1;rw[Mj hn]at HT;clear hd hn;go_wp2_with fail;refine(P1.out _ (HM1.out _ HX.out)).mono ?_;rintro e w4⟨rfl,hx4⟩;have HX4:=HX.qt hx4;replace HST:Hid (∀W',Ext w4 W'->ChX W0 U0 GO GQ X ⟨xi,xn,xa,xo,xq,xc,xu⟩ ⟨s.out.set i ⟨xi,nd⟩,s.rem⟩ (W'.setCell ⟨g,i*2+1,none⟩ (.string (bs nd)))):=qh (fun W' hx=>HST.out W' (HX4.out.trans hx));replace HOO:Hid (∀W',Ext w4 W'->W'.cell? ⟨GO,0,none⟩=some (.slice (some ⟨g,0,none⟩) s.out.length c)∧W'.cell? ⟨g,i*2+1,none⟩=some (.string (bs d0))∧W'.frozen? ⟨g,i*2+1,none⟩=false):=qh (fun W' hx=>HOO.out W' (HX4.out.trans hx));replace HM1:Hid (∀W',Ext w4 W'->Env W'):=qh (fun W' hx=>HM1.out W' (HX4.out.trans hx));clear hx4 HX HX4 HQ;go_upto_region 10 with fail;generalize w4=W5 at *;obtain⟨o0,o1,o2⟩:=HOO.out W5 (iD _);have HD:Hid (Ext W5 W5.drew):=qh (iD _).drew;go_region_law (first|(go_simp;go_at_call 19;((with_reducible refine(A1.out _ (HM1.out _ HD.out)).mono ?_);rintro e w6⟨rfl,hx⟩);(replace HD:=HD.qt hx);(obtain⟨y0,y1,y2⟩:=HOO.out _ HD.out);clear hx))
  all_goals
   have HF:=qh (HST.out _ HD.out);clear o0 o1 o2 y0 y1 y2 HD HST HOO HM1;have qf:=boxCell HF.out.m.q;go_wp2_with fail;refine(S1.out _ (HE.out _ HF.out.m.ext)).mono ?_;rintro e wz⟨rfl,hx9⟩;replace HF:=qh (HF.out.on hx9);have qf2:=boxCell HF.out.m.q;have ff:=HF.out.m.q.frozen 0;clear hx9 qf;go_wp2_with fail;go_end0
   exact⟨rfl,by rw[HT.out];exact HF.out.quant HG.out nr⟩
end
section
open Go.RowKit
theorem uK{v:Int}{b:Bs}{L:Nat}(h0:0<=v)(h1:v<=valI b)(hb:b.length<=L):(ofI v).length<=L+1 :=
 qY (by have:=aG (l:=b) hb;omega)
theorem vY(h:∀p ∈ o,checkI p.den=0∧0<valI p.den):0<=jS o:=by
 unfold jS;induction o with
 |nil=>simp
 |cons p r ih=>simp only[MQ,Nz];have:=(h p (by simp)).2;have:=ih (fun q hq=>h q (by simp[hq]));omega
theorem wY(hn:(o.map (·.num)).Nodup){p:Fr}(hp:p ∈ o):ez o p.num=valI p.den:=by
 obtain⟨k,hk,rfl⟩:=Pj.1 hp
 have h:aW o (o[k]'hk).num=some k:=by
  unfold aW;rw[Pt];refine⟨hk,by simp,fun j hj=>?_⟩;have:=Q5.1 hn j k (by simp;omega) (by simpa using hk) hj;simpa using this
 obtain⟨_,e⟩:=rQ h;rw[e]
theorem ChoOK.short{own:List LotV}{q:Bs}{s:Cho}(h:ChoOK own (valI q) s)(hq:q.length<=1000)(hs:∀x ∈ own,x.q.length<=1000):s.rem.length<=1001∧∀p ∈ s.out,p.den.length<=1001:=by
 have hsum:=h.sum;have h0:=vY h.den;constructor
 ·rw[←dC.1 h.c];exact uK h.nn (by omega) hq
 ·intro p hp;obtain⟨x,hx,e⟩:=h.mem p hp;have h1:=h.le x hx;rw[e,wY h.nod hp]at h1;rw[←dC.1 (h.den p hp).1];exact uK (Oj (h.den p hp).2) h1 (hs x hx)
theorem ChoOK.leftS{own:List LotV}{q:Int}{s:Cho}(h:ChoOK own q s)(hx:x ∈ own)(hs:x.q.length<=1000):(s.left x.id x.q).length<=1001:=by
 cases hp:aW s.out x.id with
 |none=>rw[sQ hp];omega
 |some i =>
  obtain⟨hi,_⟩:=eA hp;rw[sR hp hi];obtain⟨_,e⟩:=rQ hp;have h1:=h.le x hx;have h2:=(h.den _ (Ml hi)).2;rw[e]at h1;exact uK (by omega) (by omega) hs
theorem Fu(s:Cho)(id n:Bs):(s.put id n).length<=s.out.length+1:=by
 cases h:aW s.out id with
 |none=>rw[uI h];simp
 |some i=>obtain⟨hi,_⟩:=eA h;rw[uJ h hi];simp
theorem uL(s:Cho)(id q m:Bs):(s.take id q m).out.length<=s.out.length+1:=by
 unfold Cho.take;split
 ·omega
 ·exact Fu _ _ _
def gB(own:List LotV)(ps:List Fr)(q:Bs)(k:Nat):Cho:=(ps.take k).foldl (Cho.named own) ⟨[],q⟩
theorem sS{own:List LotV}{q:Bs}(hk:k<ps.length):gB own ps q (k+1)=Cho.named own (gB own ps q k) (ps[k]'hk):=by
 unfold gB;rw[Mo hk,PU];rfl
theorem zX{own:List LotV}{q:Bs}:gB own ps q ps.length=ps.foldl (Cho.named own) ⟨[],q⟩:=by unfold gB;rw[MK]
theorem zY(own:List LotV)(s:Cho)(p:Fr):(Cho.named own s p).out.length<=s.out.length+1:=by
 unfold Cho.named;split
 ·exact uL _ _ _ _
 ·omega
theorem uM(own:List LotV)(ps:List Fr)(q:Bs):∀k,k<=ps.length->(gB own ps q k).out.length<=k
 |0,_=>by simp[gB]
 |k+1,h=>by rw[sS (by omega)];have:=zY own (gB own ps q k) (ps[k]'(by omega));have:=uM own ps q k (by omega);omega
def jp(s:Cho)(l:List LotV)(k:Nat):Cho:=s.all (l.take k)
theorem ll{s:Cho}(hk:k<l.length):jp s l (k+1)=(jp s l k).take (l[k]'hk).id (l[k]'hk).q (l[k]'hk).q:=by
 unfold jp Cho.all;rw[Mo hk,PU];rfl
theorem sU{s:Cho}:jp s l l.length=s.all l:=by unfold jp;rw[MK]
theorem pK(s:Cho)(l:List LotV):∀k,k<=l.length->(jp s l k).out.length<=s.out.length+k
 |0,_=>by simp[jp,Cho.all]
 |k+1,h=>by rw[ll (by omega)];have:=uL (jp s l k) (l[k]'(by omega)).id (l[k]'(by omega)).q (l[k]'(by omega)).q;have:=pK s l k (by omega);omega
theorem r7{own:List LotV}{q:Int}{s:Cho}(h:ChoOK own q s)(hnd:(own.map (·.id)).Nodup){l:List LotV}(hl:∀x ∈ l,x ∈ own):∀k,k<=l.length->ChoOK own q (jp s l k)
 |0,_=>h
 |k+1,hk=>by rw[ll (by omega)];exact rR (r7 h hnd hl k (by omega)) hnd (hl _ (Ml _)) _
theorem Fv{own:List LotV}{q:Bs}(hnd:(own.map (·.id)).Nodup)(h:ChoOK own (valI q) ⟨[],q⟩)(ps:List Fr)(k:Nat):ChoOK own (valI q) (gB own ps q k):=pF hnd _ h
theorem Dc{ls:List LotV}{q:Bs}(hq:checkI q=0)(hq0:0<valI q)(hh:valI q<=totQ ls ins)(hle:∀x ∈ ls,0<=valI x.q):ChoOK (ofL ls ins) (valI q) ⟨[],q⟩:=by
 have hf0:(ofL ls ins).map (free [])=(ofL ls ins).map (fun x=>valI x.q):=by
  apply OC;intro x _;unfold free ez aW;simp
 refine⟨hq,by show 0<=valI q;omega,by simp[jS],by simp,by simp,by simp,fun x hx=>?_,?_⟩
 ·have:ez [] x.id=0:=by unfold ez aW;simp
  show ez [] x.id<=_;rw[this];exact hle x (Og.1 hx).1
 ·show valI q<=((ofL ls ins).map (free [])).sum;rw[hf0];exact hh
end
end Go.Proofs.YtaegjkllenlfpaaGreatDoor
