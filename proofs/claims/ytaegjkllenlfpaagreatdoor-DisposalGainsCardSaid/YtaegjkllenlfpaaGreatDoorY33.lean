/- The seat's texts, part Y33. -/
import Derived.Test.YtaegjkllenlfpaaGreatDoorY32
set_option maxRecDepth 100000
set_option maxHeartbeats 8000000
namespace Go.Proofs.YtaegjkllenlfpaaGreatDoor
open Tryz
variable {f:FactV}{ps:List Fr}{os:List OptV}{w W W':World}{ms rest:List LotV}{X:Nat}
section
open Go.RowKit Go.Shelf
attribute [local go_sem] size_bs toList_bs
def sc(ls:List LotV)(ins:Bs)(w:World)(e:Ending)(w':World):Prop:=∃A c,e = .returned (.slice A ls.length c)∧aK w' A (cH ls ins)∧Ext w w'
theorem FA(ls:List LotV)(A:Option Addr)(c:Nat)(ins:Bs)(W:World)(hE:Env W)(hA:aK W A ls)(hs:∀x ∈ ls,SmallL x)(hn:ls.length<=1000)(h0:0<(ofL ls ins).length)(hWt:WtOK (fP ls ins)) :
  Calls prog 56 #[.slice A ls.length c,.string (bs ins)] W (sc ls ins W):=by
 have HS:=qh hs;have HE:=qh hE;have HA:=qh hA;have HWT:=qh hWt;have hol:(ofL ls ins).length<=ls.length:=M8 _ _;have htl:=tP (ls:=ls) ins ls.length hs (by omega);rw[MK]at htl;have HTL:=qh htl;have C1:=qh (fun W hE hA=>gW ls A c ins W hE hA hs (by omega));have C2:=qh (fun W hA=>nk ls A c ins W hA (by omega));have C3:=qh (fun W hA=>nj ls A c W hA (by omega));obtain⟨i0,hI,hz0,hz1,hz2⟩:=Ny strInfo;have HI:=qh hI;clear hs hE hA hI hWt htl;generalize ofI (totQ ls ins)=tq at *;go_enter func56,ntmps56;go_wp2_with fail;refine(C1.out _ HE.out HA.out).mono ?_;rintro e w1⟨rfl,hx1⟩;have HX:=qh hx1;clear hx1;go_wp2_with fail;refine(C2.out _ (HA.out.ext HX.out)).mono ?_;rintro e w2⟨A2,c2,rfl,ho2,hc2,hx1⟩;replace HX:=HX.qt hx1;have HR2:Hid (aK w2 A2 (ofL ls ins)):=qh (Reads.own ho2);clear hx1 ho2 hc2 C1 C2;go_wp2_with fail;go_loopw [25,7] (fun i v7 wr=>∃k A7 c7,k<=(ofL ls ins).length∧i = .int .i64 (k:Nat)∧v7 = .slice A7 k c7∧wr.ownsRow w2.heap.size 24 1 v7 k (scells ((fP ls ins).take k))∧Ext w2 wr) (fun i _ _=>(ofL ls ins).length-(intOf i).toNat)
 case atStart=>exact⟨0,none,0,by omega,rfl,rfl,by simpa[scells] using NF _ _ _ _,iD _⟩
 case round =>
  obtain⟨k,A7,c7,hk,rfl,rfl,how,hx⟩:=hrel;have HO:=qh how;have HX2:=qh hx;clear how hx;by_cases hlt:k<(ofL ls ins).length
  ·obtain⟨b,o,hA2,hbl,d0,d1,d2,d3,d4,d5,d6⟩:=(HR2.out.ext HX2.out).at_ hlt;subst hA2;have hki:(k:Int)<((ofL ls ins).length:Int):=by omega
   have hk0:(0:Int)<=(k:Int):=by omega
   have hqx:(fP ls ins)[k]? = some ((ofL ls ins)[k]'hlt).q:=by unfold fP;rw[Oo,Mr hlt];rfl
   have HSN:=qh (lH _ hqx);generalize (ofL ls ins)[k]'hlt=x at *;obtain⟨xi,xn,xa,xo,xq,xc,xu⟩:=x;simp only at d0 d1 d2 d3 d4 d5 d6 HSN;clear hqx;go_upto_region 6 with fail;have BX:=qh (ID wr 62 (lc ⟨xi,xn,xa,xo,xq,xc,xu⟩));have HX3:=qh (HX2.out.trans (Id wr (.cells (lc ⟨xi,xn,xa,xo,xq,xc,xu⟩) 62)));have HO3:=qh (own_ext2 HO.out (Id wr (.cells (lc ⟨xi,xn,xa,xo,xq,xc,xu⟩) 62)));obtain⟨x0,x1,x2,x3,x4,x5,x6⟩:=ap BX.out (iD _);simp only at *;generalize wr.alloc (.cells #[.string (bs xi),.string (bs xn),.int .i64 xa,.int .i64 xo,.string (bs xq),.string (bs xc),.string (bs xu)] 62)=w5 at *;generalize wr.heap.size=X8 at *;have HO4:=qh (own_ext2 HO3.out (Id w5 (.cells #[.string (bs xq)] 24)));have HX4:=qh (HX3.out.trans (Id w5 (.cells #[.string (bs xq)] 24)));have hsz:=HX4.out.size;have hlow:=iB HO4.out;clear BX HO HO3 HX2 HX3;go_wp2_with (at_builtin;go_must (refine OE _ rfl (.tmp 29) (.tmp 32) 117 rfl w2.heap.size 24 i0 _ 1 16 underlying117 HI.out hz0 hz1 hz2 rfl (by decide) _ k (scells ((fP ls ins).take k)) rfl HO4.out ⟨w5.heap.size,0,none⟩ 1 1 [.string (bs xq)] rfl rfl (M7 (M4 w5 _)) (by simp[Value.oneCell']) (by simp only[maxLen];omega) (by omega) hsz ?_);intro v2 w' hown' hgrow hnil;(obtain⟨A3,c3,rfl⟩:=aF hown');clear hnil;(have HO5:=qh hown');(have HX5:=qh (HX4.out.grown hgrow hlow)));rw[HSN.out]at HO5;go_roundw
   case rel=>exact⟨k+1,A3,c3,by omega,by go_num,rfl,HO5.out,HX5.out⟩
   case measure=>simp[intOf];omega
  ·have hke:k=(ofL ls ins).length:=by omega
   subst hke;have hki:¬ (((ofL ls ins).length:Int)<((ofL ls ins).length:Int)):=by omega
   have hrd:RdS wr A7 (fP ls ins):=by
    have h:=Reads.own HO.out;rw[Mv (by rw[jn];exact Mn _)]at h;unfold RdS;rw[jn];exact h
   have C4:=tX (ofI (totC ls ins)) (fP ls ins) A7 c7 wr (HE.out.ext (HX.out.trans HX2.out)) hrd (by have:=HTL.out;omega) (mB _) HWT.out;rw[valI_ofI,jn]at C4;have HXS:Hid (Ext W wr):=qh (HX.out.trans HX2.out);have HSH:Hid ((bZ (totC ls ins) ((fP ls ins).map valI)).map ofI=eI ls ins):=qh rfl;rw[HSH.out]at C4;have C4:=qh C4;generalize ofI (totC ls ins)=tc at *;clear HX HX2 HO hrd HR2 HI;go_wp2_with fail;refine C4.out.mono ?_;rintro e w6⟨P,rfl,hP,hrow,hx1⟩;replace HXS:=HXS.qt hx1;have HRS:=qh hrow;clear hP hrow hx1 C4;go_wp2_with fail;refine(C3.out _ (HA.out.ext HXS.out)).mono ?_;rintro e w7⟨A8,C,rfl,hx1,hr8⟩;obtain⟨g,rfl,hg,hrow⟩:=hr8 (by omega);have HR8:=qh hrow;have hgw:W.heap.size<=g:=Mx HXS.out.size hg;have HX7:=HXS.qt hx1;obtain⟨cur,hrs⟩:=HRS.out;have hPg:P≠g:=by have:=hrs.blk.lt;omega
   have HRS7:Hid (RowS w7 P (ofL ls ins).length (eI ls ins)):=qh ⟨cur,hrs.ext hx1⟩;have HSL:=qh (rP ls ins);have HPV:Hid (cH ls ins=gv (fun n x=>{ x with c:=(eI ls ins).getD n [] }) ins 0 ls):=qh (by unfold cH;rw[Mj (by omega)]);clear hr8 hg hrow hx1 hrs HRS C3 HXS HS;go_wp2_with fail;go_loopw [45,13,14] (fun i v _ wr=>∃m,m<=ls.length∧i = .int .i64 (m:Nat)∧v = .int .i64 ((ofL (ls.take m) ins).length:Nat)∧aE wr g C (fF (fun n x=>{ x with c:=(eI ls ins).getD n [] }) ins ls m)∧Only g w7 wr) (fun i _ _ _=>ls.length-(intOf i).toNat)
   case atStart=>exact⟨0,by omega,rfl,rfl,by rw[yZ];exact HR8.out,Mh _ _⟩
   case round =>
    clear HR8;obtain⟨m,hm,rfl,rfl,hr,ho⟩:=hrel;have HR:=qh hr;have HO:=qh ho;clear hr ho;by_cases hlt:m<ls.length
    ·have hmi:(m:Int)<(ls.length:Int):=by omega
     have hm0:(0:Int)<=(m:Int):=by omega
     have hcl:(fF (fun n x=>{ x with c:=(eI ls ins).getD n [] }) ins ls m).length=ls.length:=BV;obtain⟨b,o,hg7,_,d0,d1,d2,d3,d4,d5,d6⟩:=HR.out.reads.at_ (k:=m) (by rw[hcl];exact hlt);injection hg7 with hg7
     injection hg7 with hg7 hg8
     subst hg7 hg8;simp only[MV,wJ hlt]at d0 d1 d2 d3 d4 d5 d6;by_cases hi:(ls[m]'hlt).ins=ins
     ·have hat:=GW hlt hi;obtain⟨hq,_⟩:=Nk.1 hat;have hhl:=vQ hlt hi;have hsl:(ofL (ls.take m) ins).length<(eI ls ins).length:=by rw[HSL.out];exact hq
      obtain⟨cur2,hrs2⟩:=HRS7.out;have hrs3:RdS wr (some ⟨P,0,none⟩) (eI ls ins):=({ hrs2 with blk:=(No HO.out P hrs2.blk.lt (fun e=>hPg (by injection e))).trans hrs2.blk }:Row wr P _ 1 _ _ _ cur2).reads;obtain⟨b3,o3,e3,hb3,s0⟩:=hrs3.at_ hsl;injection e3 with e3
      injection e3 with e3 e4
      subst e3 e4;simp only[MV]at s0;have hgd:(eI ls ins).getD (ofL (ls.take m) ins).length []=(eI ls ins)[(ofL (ls.take m) ins).length]'hsl:=by simp[hsl]
      have HSET:=qh (HR.out.setc (k:=m) (x:=ls[m]'hlt) (by rw[Mr (by rw[hcl];exact hlt),wJ hlt]) ((eI ls ins)[(ofL (ls.take m) ins).length]'hsl));have hch:=BW (ch:=fun n x=>{ x with c:=(eI ls ins).getD n [] }) hlt hi;simp only[hgd]at hch;rw[hch]at HSET;have HON:=qh (HO.out.setCell (m*7+5) (.string (bs ((eI ls ins)[(ofL (ls.take m) ins).length]'hsl))));have hfr:=fun k=>HR.out.frozen k
      have hkl:((ofL (ls.take m) ins).length:Int)<((ofL ls ins).length:Int):=by omega
      have hk0:(0:Int)<=((ofL (ls.take m) ins).length:Int):=by omega
      have HHL:=qh hhl;clear hat hch hgd hrs2 hrs3 HR HO hhl;generalize (eI ls ins)[(ofL (ls.take m) ins).length]'hsl=y at *;generalize (ofL (ls.take m) ins).length=q at *;generalize ls[m]'hlt=x at *;obtain⟨xi,xn,xa,xo,xq,xc,xu⟩:=x;simp only at d0 d1 d2 d3 d4 d5 d6 hi;subst hi;go_wp2_with fail;go_roundw
      case rel=>exact⟨m+1,by omega,by go_num,by rw[HHL.out];go_num,HSET.out,HON.out⟩
      case measure=>simp[intOf];omega
     ·have HSK:=qh (HR.out);rw[ze hlt hi]at HSK;have HLL:=qh (tZ hlt hi);clear HR;generalize (ofL (ls.take m) ins).length=q at *;generalize ls[m]'hlt=x at *;obtain⟨xi,xn,xa,xo,xq,xc,xu⟩:=x;simp only at d0 d1 d2 d3 d4 d5 d6 hi;have hbe:(xn == ins)=false:=by rw[Mt];exact hi
      go_wp2_with fail;go_roundw
      case rel=>exact⟨m+1,by omega,by go_num,by rw[HLL.out],HSK.out,HO.out⟩
      case measure=>simp[intOf];omega
    ·have hke:m=ls.length:=by omega
     subst hke;have hki:¬ ((ls.length:Int)<(ls.length:Int)):=by omega
     have HF:=qh HR.out.reads;rw[zb (Mn _),←HPV.out]at HF;go_wp2_with fail;go_ret;exact⟨some ⟨g,0,none⟩,C,rfl,HF.out,Ext.only HX7.out HO.out hgw⟩
theorem Ai(t:Bs)(A:Option Addr)(c:Nat)(w:World):Calls prog 148 #[.string (bs t),.slice A 0 c] w fun e w'=>e = .returned (.int .i64 11)∧Ext w w':=by
 go_enter func148,ntmps148;go_wp2_with fail;go_ret;exact⟨rfl,iD _⟩
theorem sW(t:Bs)(A:Option Addr)(c:Nat)(w:World):Calls prog 70 #[.string (bs t),.slice A 0 c] w fun e w'=>e = .returned (.tuple #[.slice none 0 0,.int .i64 11])∧Ext w w':=by
 have HC:=qh (Ai t A c w);go_enter func70,ntmps70;go_wp2_with fail;refine HC.out.mono ?_;rintro e w1⟨rfl,hx1⟩;have HX:=qh hx1;clear hx1 HC;go_wp2_with fail;go_ret2;exact⟨rfl,HX.out⟩
theorem FB(ls:List LotV)(A:Option Addr)(c:Nat)(ins:Bs)(W:World)(hE:Env W)(hA:aK W A ls)(hs:∀x ∈ ls,SmallL x)(hn:ls.length<=1000)(h0:(ofL ls ins).length=0) :
  Calls prog 56 #[.slice A ls.length c,.string (bs ins)] W (sc ls ins W):=by
 have HE:=qh hE;have HA:=qh hA;have C1:=qh (fun W hE hA=>gW ls A c ins W hE hA hs (by omega));have C2:=qh (fun W hA=>nk ls A c ins W hA (by omega));have C3:=qh (fun W hA=>nj ls A c W hA (by omega));have HPV:Hid (cH ls ins=ls):=qh (by unfold cH;rw[Mq h0])
 have HNI:Hid (∀x ∈ ls,x.ins≠ins):=qh (fun x hx e=>by
  have h1:ofL ls ins=[]:=My.1 h0;have h2:x ∈ ofL ls ins:=Og.2 ⟨hx,by simpa using e⟩;rw[h1]at h2
  cases h2)
 clear hE hA;generalize ofI (totQ ls ins)=tq at *;generalize ofI (totC ls ins)=tc at *;unfold qm at C2;rw[h0]at C2;clear h0;go_enter func56,ntmps56;go_wp2_with fail;refine(C1.out _ HE.out HA.out).mono ?_;rintro e w1⟨rfl,hx1⟩;have HX:=qh hx1;clear hx1;go_wp2_with fail;refine(C2.out _ (HA.out.ext HX.out)).mono ?_;rintro e w2⟨A2,c2,rfl,_,_,hx1⟩;replace HX:=HX.qt hx1;clear hx1 C1 C2;go_wp2_with fail;refine N4 1 ?_;rw[NN];go_wp2_with fail;refine(sW tc none 0 w2).mono ?_;rintro e w6⟨rfl,hx1⟩;replace HX:=HX.qt hx1;clear hx1;go_wp2_with fail;refine(C3.out _ (HA.out.ext HX.out)).mono ?_;rintro e w7⟨A8,C,rfl,hx1,hr8⟩;have HX7:=HX.qt hx1
 have HR8:Hid (aK w7 A8 ls):=qh (by
  rcases MB ls.length with g0|g0
  ·have:ls=[]:=My.1 g0;subst this
   exact Reads.nil
  ·obtain⟨g,rfl,hg,hrow⟩:=hr8 g0;exact hrow.reads)
 clear hr8 hx1 C3;go_wp2_with fail;go_loopw [45,13,14] (fun i v _ wr=>∃m,m<=ls.length∧i = .int .i64 (m:Nat)∧v = .int .i64 0∧Ext w7 wr) (fun i _ _ _=>ls.length-(intOf i).toNat)
 case atStart=>exact⟨0,by omega,rfl,rfl,iD _⟩
 case round =>
  obtain⟨m,hm,rfl,rfl,hxx⟩:=hrel;have HXX:=qh hxx;clear hxx;by_cases hlt:m<ls.length
  ·have hmi:(m:Int)<(ls.length:Int):=by omega
   have hm0:(0:Int)<=(m:Int):=by omega
   obtain⟨b,o,hg7,_,d0,d1,d2,d3,d4,d5,d6⟩:=(HR8.out.ext HXX.out).at_ hlt;subst hg7;have hne:=HNI.out _ (Ml hlt);generalize ls[m]'hlt=x at *;obtain⟨xi,xn,xa,xo,xq,xc,xu⟩:=x;simp only at d0 d1 d2 d3 d4 d5 d6 hne;have hbe:(xn == ins)=false:=by rw[Mt];exact hne
   clear hne;go_wp2_with fail;go_roundw
   case rel=>exact⟨m+1,by omega,by go_num,rfl,HXX.out⟩
   case measure=>simp[intOf];omega
  ·have hke:m=ls.length:=by omega
   subst hke;have hki:¬ ((ls.length:Int)<(ls.length:Int)):=by omega
   go_wp2_with fail;go_ret;exact⟨A8,C,rfl,by rw[HPV.out];exact HR8.out.ext HXX.out,HX7.out.trans HXX.out⟩
def bE(ls:List LotV)(ins:Bs)(n:Nat):List LotV:=if n=6 then cH ls ins else ls
theorem i8(ls:List LotV)(ins:Bs)(n:Nat):(bE ls ins n).length=ls.length:=by
 unfold bE;split
 ·exact nC ls ins
 ·rfl
structure SelIn (ls:List LotV) (f:FactV) (ps:List Fr) (os:List OptV):Prop where
 great:cI ls=false
 all:checkAllL ls=0
 fe:cr f ps os=0
 kd:f.kind=4
structure SelLs (ls:List LotV) (ins:Bs) (ms:List LotV):Prop where
 sm:∀x ∈ ms,SmallL x
 all:checkAllL ms=0
 q:totQ ms ins=totQ ls ins
 c:totC ms ins=totC ls ins
theorem SelIn.ls{ls:List LotV}(h:SelIn ls f ps os)(n:Nat):SelLs ls f.ins (bE ls f.ins n):=by
 unfold bE;split
 ·refine⟨yh (L:=13) h.all (fun x hx=>?_) (by omega) (av h.all).1,th h.all,zP,zQ h.all⟩;obtain⟨a,b,c,d,e⟩:=fQ ((fD h.great).2 x hx);exact⟨b,by omega,by omega,by omega,by omega⟩
 ·exact⟨dG h.great,h.all,rfl,rfl⟩
structure SelAt (w:World) (ms:List LotV) (f:FactV) (P O:Value) (n:Nat) (X:Nat) (A:Option Addr) (c:Nat) (W:World):Prop where
 x:w.heap.size<=X
 ext:Ext w W
 b0:Blk W X 22 #[.slice A ms.length c]
 b1:Blk W (X+1) 30 (ag f P O)
 b2:Blk W (X+2) 3 #[.int .i64 n]
 rd:aK W A ms
theorem SelAt.on{P O:Value}{n:Nat}{A:Option Addr}{c:Nat}(h:SelAt w ms f P O n X A c W)(hx:Ext W W'):SelAt w ms f P O n X A c W':=⟨h.x,h.ext.trans hx,h.b0.ext hx,h.b1.ext hx,h.b2.ext hx,h.rd.ext hx⟩
def oE(R:Value->Value->Value->Int->World->Prop)(e:Ending)(w':World):Prop:=∃A n c B m d C k l z,e = .returned (.tuple #[.agg #[.slice A n c,.slice B m d,.slice C k l,.slice none 0 0],.int .i64 z])∧R (.slice A n c) (.slice B m d) (.slice C k l) z w'
theorem xe(ls:List LotV)(A:Option Addr)(c:Nat)(f:FactV)(ps:List Fr)(os:List OptV)(pa oa:Option Addr)(pc oq n:Nat)(w:World)(hE:Env w)(hA:aK w A ls)(hF:FactAt w f ps os pa oa pc)(hi:SelIn ls f ps os)(h1:1<=n)(h6:n<=6)
  (R:Value->Value->Value->Int->World->Prop) (hR:∀a b c d z X W,w.heap.size<=X->R a b c z W->Blk W X rT #[.slice none 0 0,.slice none 0 0,.slice none 0 0,.slice none 0 0]->R a b c z (nz W X a b c d))
  (hD:∀X A' c' W,SelAt w (bE ls f.ins n) f (ae pa ps.length pc) (ae oa os.length oq) n X A' c' W->Calls prog 58 #[.slice A' ls.length c',aC f (ae pa ps.length pc) (ae oa os.length oq),.func (.func 57) #[] #[.pointer (some ⟨X,0,none⟩),.pointer (some ⟨X+1,0,none⟩),.pointer (some ⟨X+2,0,none⟩)],.func (.func 59) #[] #[.pointer (some ⟨X+1,0,none⟩)]] W (fun e w'=>oE R e w'∧Ext W w')) :
  Calls prog 13 #[.slice A ls.length c,aC f (ae pa ps.length pc) (ae oa os.length oq),.int .i64 n] w (oE R):=by
 have hs:=dG hi.great;have hwf:(Lit.int .i64 f.kind).wf=true:=by rw[hi.kd];decide
 have ck:=fun W (hx:Ext w W)=>uS ls A c f ps os pa oa pc oq W (hE.ext hx) (hA.ext hx) (hF.ext hx) hwf hs hi.all hi.fe
 rw[hi.kd]at ck;have CK:=qh ck;have CN:=qh (fun W=>Ds n h1 h6 W)
 have cp:∀W,Ext w W->Calls prog 56 #[.slice A ls.length c,.string (bs f.ins)] W (sc ls f.ins W):=fun W hx=>by
  rcases MB (ofL ls f.ins).length with h0|h0
  ·exact FB ls A c f.ins W (hE.ext hx) (hA.ext hx) hs (av hi.all).1 h0
  ·exact FA ls A c f.ins W (hE.ext hx) (hA.ext hx) hs (av hi.all).1 h0 (KM f.ins hs hi.all h0)
 have CP:=qh cp;have HA:=qh hA;have HD:=qh hD;have HRR:=qh hR;have HLN:=qh (nC ls f.ins);have hs1:(prog.info? 30).map (·.size)=some (ag f (ae pa ps.length pc) (ae oa os.length oq)).toList.length:=by kernel_rfl
 have B0:=qh ((((ID w 22 #[.slice A ls.length c]).alloc (.cells (ag f (ae pa ps.length pc) (ae oa os.length oq)) 30)).alloc (.cells #[.int .i64 n] 3)).alloc (.cells #[.slice none 0 0,.slice none 0 0,.slice none 0 0,.slice none 0 0] rT));have B1:=qh (((Mf (w.alloc (.cells #[.slice A ls.length c] 22)) 30 (ag f (ae pa ps.length pc) (ae oa os.length oq)) (w.heap.size+1) (by simp)).alloc (.cells #[.int .i64 n] 3)).alloc (.cells #[.slice none 0 0,.slice none 0 0,.slice none 0 0,.slice none 0 0] rT));have B2:=qh ((Mf ((w.alloc (.cells #[.slice A ls.length c] 22)).alloc (.cells (ag f (ae pa ps.length pc) (ae oa os.length oq)) 30)) 3 #[.int .i64 n] (w.heap.size+2) (by simp)).alloc (.cells #[.slice none 0 0,.slice none 0 0,.slice none 0 0,.slice none 0 0] rT));have B3:=qh (Mf (((w.alloc (.cells #[.slice A ls.length c] 22)).alloc (.cells (ag f (ae pa ps.length pc) (ae oa os.length oq)) 30)).alloc (.cells #[.int .i64 n] 3)) rT #[.slice none 0 0,.slice none 0 0,.slice none 0 0,.slice none 0 0] (w.heap.size+3) (by simp));have HX:Hid (Ext w ((((w.alloc (.cells #[.slice A ls.length c] 22)).alloc (.cells (ag f (ae pa ps.length pc) (ae oa os.length oq)) 30)).alloc (.cells #[.int .i64 n] 3)).alloc (.cells #[.slice none 0 0,.slice none 0 0,.slice none 0 0,.slice none 0 0] rT))):=qh ((((Id _ _).alloc _).alloc _).alloc _);clear hE hA hF hi hD hR ck cp hs hwf;go_enter func13,ntmps13;go_upto_region 1 with fail;generalize ((((w.alloc (.cells #[.slice A ls.length c] 22)).alloc (.cells (ag f (ae pa ps.length pc) (ae oa os.length oq)) 30)).alloc (.cells #[.int .i64 n] 3)).alloc (.cells #[.slice none 0 0,.slice none 0 0,.slice none 0 0,.slice none 0 0] rT))=w0 at *;obtain⟨X,hX⟩:∃X,w.heap.size=X:=⟨_,rfl⟩;rw[hX]at B0 B1 B2 B3 ⊢;have q0:=boxCell B0.out;have hrg:=aL B1.out;go_wp2_with (first|refine bS (by kernel_rfl) 30 _ rfl (X+1) 0 rfl _ _ hrg M3 rfl hs1 ?_|fail);refine(CK.out _ HX.out).mono ?_;rintro e w1⟨rfl,hx1⟩;replace B0:=qh (B0.out.ext hx1);replace B1:=qh (B1.out.ext hx1);replace B2:=qh (B2.out.ext hx1);replace B3:=qh (B3.out.ext hx1);replace HX:=HX.qt hx1;clear hx1 CK q0 hrg;have q2:=boxCell B2.out;go_wp2_with fail;refine(CN.out _).mono ?_;rintro e w2⟨⟨nm,rfl⟩,hx1⟩;replace B0:=qh (B0.out.ext hx1);replace B1:=qh (B1.out.ext hx1);replace B2:=qh (B2.out.ext hx1);replace B3:=qh (B3.out.ext hx1);replace HX:=HX.qt hx1;clear hx1 CN q2;have q2:=boxCell B2.out;by_cases hn:n=6
 focus
  have g6:((n:Int) == 6)=true:=by rw[Np];omega
  have q0:=boxCell B0.out;have q5:=(aj B1.out (iD _)).2.2.2.2.2.1;go_wp2_with fail;refine(CP.out _ HX.out).mono ?_;rintro e w3⟨A1,c1,rfl,hr,hx1⟩;have hne:=HX.out.size;replace B0:=qh (B0.out.ext hx1);replace B1:=qh (B1.out.ext hx1);replace B2:=qh (B2.out.ext hx1);replace B3:=qh (B3.out.ext hx1);replace HX:=HX.qt hx1;have HRP:=qh hr;clear hx1 hr q0 q2 q5 CP;have q0:=boxCell B0.out;have f0:=B0.out.frozen 0;go_upto_region 9 with fail
  have HS:Hid (SelAt w (bE ls f.ins n) f (ae pa ps.length pc) (ae oa os.length oq) n X A1 c1 (w3.setCell ⟨X,0,none⟩ (.slice A1 ls.length c1))):=qh ⟨by omega,HX.out.setCell (p:=⟨X,0,none⟩) (by dsimp only;omega) _,by rw[i8];exact B0.out.set_ 0 _,B1.out.far (p:=⟨X,0,none⟩) (by dsimp only;omega) _,B2.out.far (p:=⟨X,0,none⟩) (by dsimp only;omega) _,by
   unfold bE;rw[Mq hn];exact jF HRP.out B0.out ⟨_,_,_,rfl⟩ (km _)⟩
  replace B3:=qh (B3.out.far (p:=⟨X,0,none⟩) (by dsimp only;omega) (.slice A1 ls.length c1));replace B0:=qh HS.out.b0;rw[i8]at B0;replace B1:=qh HS.out.b1;replace B2:=qh HS.out.b2;clear HRP q0 f0 hne;generalize w3.setCell ⟨X,0,none⟩ (.slice A1 ls.length c1)=w4 at *;have q0:=boxCell B0.out;have q2:=boxCell B2.out;have hrg:=aL B1.out;have HDD:=qh (HD.out X A1 c1 w4 HS.out)
 rotate_left
 focus
  have g6:((n:Int) == 6)=false:=by rw[Mt];omega
  have HS:Hid (SelAt w (bE ls f.ins n) f (ae pa ps.length pc) (ae oa os.length oq) n X A c w2):=qh ⟨by omega,HX.out,by rw[i8];exact B0.out,B1.out,B2.out,by
   unfold bE;rw[Mj hn];exact HA.out.ext HX.out⟩
  go_upto_region 9 with fail;clear q2;have q0:=boxCell B0.out;have q2:=boxCell B2.out;have hrg:=aL B1.out;have HDD:=qh (HD.out X A c w2 HS.out)
 all_goals
  clear HS HD;go_wp2_with (first|refine bS (by kernel_rfl) 30 _ rfl (X+1) 0 rfl _ _ hrg M3 rfl hs1 ?_|fail);refine HDD.out.mono ?_;rintro e w5⟨⟨Aa,na,ca,Ab,nb,cb,Ac,nc,cc,z,rfl,hr⟩,hx1⟩;replace B3:=qh (B3.out.ext hx1);have HRE:=qh hr;clear hr hx1 HDD hrg q0 q2;obtain⟨r0,r1,r2,r3⟩:=iq B3.out (iD _);have f0:=B3.out.frozen 0;have f1:=B3.out.frozen 1;have f2:=B3.out.frozen 2;have f3:=B3.out.frozen 3;go_wp2_with fail;have hB4:=lI (a := .slice Aa na ca) (b := .slice Ab nb cb) (c := .slice Ac nc cc) (d := .slice none 0 0) B3.out;refine MI (du rfl _ _ (X+1+1+1) _ _ _ _ _ rfl rfl hB4) rfl ?_;exact⟨Aa,na,ca,Ab,nb,cb,Ac,nc,cc,z,rfl,HRR.out _ _ _ _ _ (X+3) _ (by omega) HRE.out B3.out⟩
def cC(ls:List LotV)(f:FactV)(n:Nat)(ps:List Fr):List Fr:=(choose (bE ls f.ins n) f.ins f.qty n ps).out
def jr(f:FactV):Bs:=ofI (valI f.amt-valI f.fee)
def ij(ls:List LotV)(f:FactV)(n:Nat)(ps:List Fr):List LotV:=(aI (bE ls f.ins n) (cC ls f n ps)).1
def aO(ls:List LotV)(f:FactV)(n:Nat)(ps:List Fr):List LotV:=(aI (bE ls f.ins n) (cC ls f n ps)).2
def cM(ls:List LotV)(f:FactV)(n:Nat)(ps:List Fr):List GainV:=cG f.key f.ins f.day (aO ls f n ps) (dz (jr f) (aO ls f n ps))
def kw(ls:List LotV)(f:FactV)(n:Nat)(ps:List Fr):List StepV:=cQ f.key (aO ls f n ps)
theorem SelIn.sale{ls:List LotV}(h:SelIn ls f ps os):SaleOK f ps:=Fj h.fe h.kd
theorem SelIn.chs{ls:List LotV}(h:SelIn ls f ps os){n:Nat}(h1:1<=n)(h6:n<=6):ChsS (bE ls f.ins n) f.qty n ps:=by
 have s:=h.sale;have l:=h.ls n;exact⟨h1,h6,l.sm,l.all,s.cq,s.q0,by have:=s.ql;omega,fun _=>s.bad,by have:=s.pl;omega,fun p hp=>by have:=(s.pk p hp).2.2;omega⟩
theorem SelIn.pick{ls:List LotV}(h:SelIn ls f ps os)(n:Nat)(hq:valI f.qty<=totQ ls f.ins):PickIn (bE ls f.ins n) f.ins (cC ls f n ps)∧jS (cC ls f n ps)=valI f.qty:=by
 have s:=h.sale;have l:=h.ls n;exact Ix l.all l.sm s.cq s.q0 (by have:=s.ql;omega) (by rw[l.q];exact hq)
theorem SelIn.pos{ls:List LotV}(h:SelIn ls f ps os)(n:Nat)(hq:valI f.qty<=totQ ls f.ins):0<(cC ls f n ps).length:=by
 have h1:=(h.pick n hq).2;have h2:=h.sale.q0;rcases MB (cC ls f n ps).length with h0|h0
 ·rw[My.1 h0]at h1;simp[jS]at h1;omega
 ·exact h0
theorem SelIn.net{ls:List LotV}(h:SelIn ls f ps os):(jr f).length<=43∧checkI (jr f)=0:=by
 have s:=h.sale;exact⟨jg s.al s.fl,eS _⟩
def se(rest:List LotV)(gs:List GainV)(ss:List StepV)(w:World)(a b c:Value)(z:Int)(w':World):Prop:=z=0∧(∃A k,a = .slice A rest.length k∧aK w' A rest)∧(∃B d,b = .slice B gs.length d∧dM w' B gs)∧(∃C k,c = .slice C ss.length k∧oS w' C ss)∧Ext w w'
theorem se.set{gs:List GainV}{ss:List StepV}{a b c d:Value}{z:Int}(hX:w.heap.size<=X)(h:se rest gs ss w a b c z W)(hb:Blk W X rT #[.slice none 0 0,.slice none 0 0,.slice none 0 0,.slice none 0 0]):se rest gs ss w a b c z (nz W X a b c d):=by
 obtain⟨h0,⟨A,k,h1,h2⟩,⟨B,d',h3,h4⟩,⟨C,k',h5,h6⟩,h7⟩:=h;exact⟨h0,⟨A,k,h1,kJ h2 hb ⟨_,_,_,rfl⟩ ⟨_,_,_,rfl⟩ ⟨_,_,_,rfl⟩ ⟨_,_,_,rfl⟩ (km _)⟩,⟨B,d',h3,kJ h4 hb ⟨_,_,_,rfl⟩ ⟨_,_,_,rfl⟩ ⟨_,_,_,rfl⟩ ⟨_,_,_,rfl⟩ (zj _)⟩,⟨C,k',h5,kJ h6 hb ⟨_,_,_,rfl⟩ ⟨_,_,_,rfl⟩ ⟨_,_,_,rfl⟩ ⟨_,_,_,rfl⟩ (zk _)⟩,mH h7 hX⟩
theorem uT(ls:List LotV)(A:Option Addr)(c:Nat)(f:FactV)(ps:List Fr)(os:List OptV)(pa oa:Option Addr)(pc oq n:Nat)(w:World)(hE:Env w)(hA:aK w A ls)(hF:FactAt w f ps os pa oa pc)(hi:SelIn ls f ps os)(h1:1<=n)(h6:n<=6)(hq:valI f.qty<=totQ ls f.ins) :
  Calls prog 13 #[.slice A ls.length c,aC f (ae pa ps.length pc) (ae oa os.length oq),.int .i64 n] w (gu (ij ls f n ps) (cM ls f n ps) (kw ls f n ps) w):=by
 have l:=hi.ls n;obtain⟨hp,hsum⟩:=hi.pick n hq;have h0:=hi.pos n hq;obtain⟨hn1,hn2⟩:=hi.net;have hs:=hi.sale;refine(xe ls A c f ps os pa oa pc oq n w hE hA hF hi h1 h6 (se (ij ls f n ps) (cM ls f n ps) (kw ls f n ps) w) (fun a b c d z X W hX hr hb=>hr.set hX hb) ?_).mono ?_
 ·intro X A' c' W h;have hlen:(bE ls f.ins n).length=ls.length:=i8 ls f.ins n;have hd:=uR (bE ls f.ins n) (cC ls f n ps) f (ae pa ps.length pc) (ae oa os.length oq) (jr f) 57 59 #[.pointer (some ⟨X,0,none⟩),.pointer (some ⟨X+1,0,none⟩),.pointer (some ⟨X+2,0,none⟩)] #[.pointer (some ⟨X+1,0,none⟩)] (fun _ _=>by rfl) (fun _ _=>by rfl) A' c' W (hE.ext h.ext) h.rd l.sm l.all hp h0 (by omega) hn2 ?_ ?_
  ·rw[hlen]at hd;refine hd.mono ?_;rintro e w'⟨A1,c1,B1,d1,C1,k1,rfl,r1,r2,r3,hx⟩;exact⟨⟨A1,_,c1,B1,_,d1,C1,_,k1,0,rfl,rfl,⟨A1,c1,rfl,r1⟩,⟨B1,d1,rfl,r2⟩,⟨C1,k1,rfl,r3⟩,h.ext.trans hx⟩,hx⟩
  ·intro W' hx;have h':=h.on hx;have hc:=(sV (bE ls f.ins n) f.ins f.qty n ps (hi.chs h1 h6) A' pa c' pc W' (hE.ext h'.ext) h'.rd (hF.rp.ext h'.ext)).1 (by rw[l.q];exact hq);refine(Ez A' (bE ls f.ins n).length c' f (ae pa ps.length pc) (ae oa os.length oq) n ⟨_,_,_,rfl⟩ 0 (fun v w'=>eG w' W'.heap.size v (cC ls f n ps)∧Ext W' w') X W' h'.b0 h'.b1 h'.b2 hc).mono ?_;rintro e w'⟨v,rfl,ho,hx1⟩;obtain⟨A2,c2,rfl⟩:=aF ho;exact⟨A2,c2,rfl,ho.rd,(own_cap ho).1,hx1⟩
  ·intro W' A2 c2 hx _;have h':=h.on hx;exact KV A2 _ c2 f _ _ (X+1) W' h'.b1 (by have:=hs.al;omega) (by have:=hs.fl;omega) (hE.ext h'.ext)
 ·rintro e w'⟨A1,n1,c1,B1,m1,d1,C1,k1,l1,z,rfl,rfl,⟨A2,c2,e1,r1⟩,⟨B2,d2,e2,r2⟩,⟨C2,k2,e3,r3⟩,hx⟩;rw[e1,e2,e3];exact⟨A2,c2,B2,d2,C2,k2,rfl,r1,r2,r3,hx⟩
end
end Go.Proofs.YtaegjkllenlfpaaGreatDoor
