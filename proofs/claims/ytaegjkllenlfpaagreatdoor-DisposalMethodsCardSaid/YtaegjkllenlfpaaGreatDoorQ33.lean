/- The seat's texts, part Q33. -/
import Derived.Test.YtaegjkllenlfpaaGreatDoorQ9
import Derived.Test.YtaegjkllenlfpaaGreatDoorQ12
import Derived.Test.YtaegjkllenlfpaaGreatDoorQ16
import Derived.Test.YtaegjkllenlfpaaGreatDoorQ21
import Derived.Test.YtaegjkllenlfpaaGreatDoorQ32
set_option maxRecDepth 100000
set_option maxHeartbeats 8000000
namespace Go.Proofs.YtaegjkllenlfpaaGreatDoor
variable {ms rest:List LotV}{ps:List Fr}{os:List OptV}{w W W':World}{n X:Nat}
section
open Go.RowKit Go.Shelf
attribute [local go_sem] size_bs toList_bs
def mZ(ls:List LotV)(ins:Bs)(w:World)(e:Ending)(w':World):Prop:=∃A c,e = .returned (.slice A ls.length c)∧aG w' A (bS ls ins)∧Ext w w'
theorem Dh(ls:List LotV)(A:Option Addr)(c:Nat)(ins:Bs)(W:World)(hE:Env W)(hA:aG W A ls)(hs:∀x ∈ ls,SmallL x)(hn:ls.length<=1000)(h0:0<(ofL ls ins).length)(hWt:WtOK (dN ls ins)) :
  Calls Tryz.prog 56 #[.slice A ls.length c,.string (bs ins)] W (mZ ls ins W):=by
 have HS:=qh hs;have HE:=qh hE;have HA:=qh hA;have HWT:=qh hWt;have hol:(ofL ls ins).length<=ls.length:=List.length_filter_le _ _;have htl:=nM (ls:=ls) ins ls.length hs (by omega);rw[List.take_length]at htl;have HTL:=qh htl;have C1:=qh (fun W hE hA=>eu ls A c ins W hE hA hs (by omega));have C2:=qh (fun W hA=>jT ls A c ins W hA (by omega));have C3:=qh (fun W hA=>kM ls A c W hA (by omega));obtain⟨i0,hI,hz0,hz1,hz2⟩:=info_parts strInfo;have HI:=qh hI;clear hs hE hA hI hWt htl;generalize ofI (totQ ls ins)=tq at *;go_enter Tryz.func56,Tryz.ntmps56;go_wp2_with fail;refine(C1.out _ HE.out HA.out).mono ?_;rintro e w1⟨rfl,hx1⟩;have HX:=qh hx1;clear hx1;go_wp2_with fail;refine(C2.out _ (HA.out.ext HX.out)).mono ?_;rintro e w2⟨A2,c2,rfl,ho2,hc2,hx1⟩;replace HX:=HX.qt hx1;have HR2:Hid (aG w2 A2 (ofL ls ins)):=qh (Reads.own ho2);clear hx1 ho2 hc2 C1 C2;go_wp2_with fail;go_loopw [25,7] (fun i v7 wr=>∃k A7 c7,k<=(ofL ls ins).length∧i = .int .i64 (k:Nat)∧v7 = .slice A7 k c7∧wr.ownsRow w2.heap.size 24 1 v7 k (scells ((dN ls ins).take k))∧Ext w2 wr) (fun i _ _=>(ofL ls ins).length-(intOf i).toNat)
 case atStart=>exact⟨0,none,0,by omega,rfl,rfl,by simpa[scells] using World.ownsRow_nil _ _ _ _,Ext.refl _⟩
 case round =>
  obtain⟨k,A7,c7,hk,rfl,rfl,how,hx⟩:=hrel;have HO:=qh how;have HX2:=qh hx;clear how hx;by_cases hlt:k<(ofL ls ins).length
  ·obtain⟨b,o,hA2,hbl,d0,d1,d2,d3,d4,d5,d6⟩:=(HR2.out.ext HX2.out).at_ hlt;subst hA2;have hki:(k:Int)<((ofL ls ins).length:Int):=by omega
   have hk0:(0:Int)<=(k:Int):=by omega
   have hqx:(dN ls ins)[k]? = some ((ofL ls ins)[k]'hlt).q:=by unfold dN;rw[List.getElem?_map,List.getElem?_eq_getElem hlt];rfl
   have HSN:=qh (kC _ hqx);generalize (ofL ls ins)[k]'hlt=x at *;obtain⟨xi,xn,xa,xo,xq,xc,xu⟩:=x;simp only at d0 d1 d2 d3 d4 d5 d6 HSN;clear hqx;go_upto_region 6 with fail;have BX:=qh (Blk.new wr 62 (lc ⟨xi,xn,xa,xo,xq,xc,xu⟩));have HX3:=qh (HX2.out.trans (Ext.new wr (.cells (lc ⟨xi,xn,xa,xo,xq,xc,xu⟩) 62)));have HO3:=qh (own_ext2 HO.out (Ext.new wr (.cells (lc ⟨xi,xn,xa,xo,xq,xc,xu⟩) 62)));obtain⟨x0,x1,x2,x3,x4,x5,x6⟩:=aj BX.out (Ext.refl _);simp only at *;generalize wr.alloc (.cells #[.string (bs xi),.string (bs xn),.int .i64 xa,.int .i64 xo,.string (bs xq),.string (bs xc),.string (bs xu)] 62)=w5 at *;generalize wr.heap.size=X8 at *;have HO4:=qh (own_ext2 HO3.out (Ext.new w5 (.cells #[.string (bs xq)] 24)));have HX4:=qh (HX3.out.trans (Ext.new w5 (.cells #[.string (bs xq)] 24)));have hsz:=HX4.out.size;have hlow:=kX HO4.out;clear BX HO HO3 HX2 HX3;go_wp2_with (at_builtin;go_must (refine wpList_append_own _ rfl (.tmp 29) (.tmp 32) 117 rfl w2.heap.size 24 i0 _ 1 16 Tryz.underlying117 HI.out hz0 hz1 hz2 rfl (by decide) _ k (scells ((dN ls ins).take k)) rfl HO4.out ⟨w5.heap.size,0,none⟩ 1 1 [.string (bs xq)] rfl rfl (World.news_of_block (heap_alloc_new w5 _)) (by simp[Value.oneCell']) (by simp only[maxLen];omega) (by omega) hsz ?_);intro v2 w' hown' hgrow hnil;(obtain⟨A3,c3,rfl⟩:=aM hown');clear hnil;(have HO5:=qh hown');(have HX5:=qh (HX4.out.grown hgrow hlow)));rw[HSN.out]at HO5;go_roundw
   case rel=>exact⟨k+1,A3,c3,by omega,by go_num,rfl,HO5.out,HX5.out⟩
   case measure=>simp[intOf];omega
  ·have hke:k=(ofL ls ins).length:=by omega
   subst hke;have hki:¬ (((ofL ls ins).length:Int)<((ofL ls ins).length:Int)):=by omega
   have hrd:RdS wr A7 (dN ls ins):=by
    have h:=Reads.own HO.out;rw[List.take_of_length_le (by rw[ft];exact Nat.le_refl _)]at h;unfold RdS;rw[ft];exact h
   have C4:=nO (ofI (totC ls ins)) (dN ls ins) A7 c7 wr (HE.out.ext (HX.out.trans HX2.out)) hrd (by have:=HTL.out;omega) (jx _) HWT.out;rw[valI_ofI,ft]at C4;have HXS:Hid (Ext W wr):=qh (HX.out.trans HX2.out);have HSH:Hid ((bU (totC ls ins) ((dN ls ins).map valI)).map ofI=cG ls ins):=qh rfl;rw[HSH.out]at C4;have C4:=qh C4;generalize ofI (totC ls ins)=tc at *;clear HX HX2 HO hrd HR2 HI;go_wp2_with fail;refine C4.out.mono ?_;rintro e w6⟨P,rfl,hP,hrow,hx1⟩;replace HXS:=HXS.qt hx1;have HRS:=qh hrow;clear hP hrow hx1 C4;go_wp2_with fail;refine(C3.out _ (HA.out.ext HXS.out)).mono ?_;rintro e w7⟨A8,C,rfl,hx1,hr8⟩;obtain⟨g,rfl,hg,hrow⟩:=hr8 (by omega);have HR8:=qh hrow;have hgw:W.heap.size<=g:=Nat.le_trans HXS.out.size hg;have HX7:=HXS.qt hx1;obtain⟨cur,hrs⟩:=HRS.out;have hPg:P≠g:=by have:=hrs.blk.lt;omega
   have HRS7:Hid (RowS w7 P (ofL ls ins).length (cG ls ins)):=qh ⟨cur,hrs.ext hx1⟩;have HSL:=qh (mP ls ins);have HPV:Hid (bS ls ins=eZ (fun n x=>{ x with c:=(cG ls ins).getD n [] }) ins 0 ls):=qh (by unfold bS;rw[if_neg (by omega)]);clear hr8 hg hrow hx1 hrs HRS C3 HXS HS;go_wp2_with fail;go_loopw [45,13,14] (fun i v _ wr=>∃m,m<=ls.length∧i = .int .i64 (m:Nat)∧v = .int .i64 ((ofL (ls.take m) ins).length:Nat)∧aD wr g C (eI (fun n x=>{ x with c:=(cG ls ins).getD n [] }) ins ls m)∧Only g w7 wr) (fun i _ _ _=>ls.length-(intOf i).toNat)
   case atStart=>exact⟨0,by omega,rfl,rfl,by rw[qD];exact HR8.out,Only.refl _ _⟩
   case round =>
    clear HR8;obtain⟨m,hm,rfl,rfl,hr,ho⟩:=hrel;have HR:=qh hr;have HO:=qh ho;clear hr ho;by_cases hlt:m<ls.length
    ·have hmi:(m:Int)<(ls.length:Int):=by omega
     have hm0:(0:Int)<=(m:Int):=by omega
     have hcl:(eI (fun n x=>{ x with c:=(cG ls ins).getD n [] }) ins ls m).length=ls.length:=r7;obtain⟨b,o,hg7,_,d0,d1,d2,d3,d4,d5,d6⟩:=HR.out.reads.at_ (k:=m) (by rw[hcl];exact hlt);injection hg7 with hg7
     injection hg7 with hg7 hg8
     subst hg7 hg8;simp only[Nat.zero_add,mL hlt]at d0 d1 d2 d3 d4 d5 d6;by_cases hi:(ls[m]'hlt).ins=ins
     ·have hat:=wS hlt hi;obtain⟨hq,_⟩:=List.getElem?_eq_some_iff.1 hat;have hhl:=nz hlt hi;have hsl:(ofL (ls.take m) ins).length<(cG ls ins).length:=by rw[HSL.out];exact hq
      obtain⟨cur2,hrs2⟩:=HRS7.out;have hrs3:RdS wr (some ⟨P,0,none⟩) (cG ls ins):=({ hrs2 with blk:=(World.grownBy.block HO.out P hrs2.blk.lt (fun e=>hPg (by injection e))).trans hrs2.blk }:Row wr P _ 1 _ _ _ cur2).reads;obtain⟨b3,o3,e3,hb3,s0⟩:=hrs3.at_ hsl;injection e3 with e3
      injection e3 with e3 e4
      subst e3 e4;simp only[Nat.zero_add]at s0;have hgd:(cG ls ins).getD (ofL (ls.take m) ins).length []=(cG ls ins)[(ofL (ls.take m) ins).length]'hsl:=by simp[hsl]
      have HSET:=qh (HR.out.setc (k:=m) (x:=ls[m]'hlt) (by rw[List.getElem?_eq_getElem (by rw[hcl];exact hlt),mL hlt]) ((cG ls ins)[(ofL (ls.take m) ins).length]'hsl));have hch:=r8 (ch:=fun n x=>{ x with c:=(cG ls ins).getD n [] }) hlt hi;simp only[hgd]at hch;rw[hch]at HSET;have HON:=qh (HO.out.setCell (m*7+5) (.string (bs ((cG ls ins)[(ofL (ls.take m) ins).length]'hsl))));have hfr:=fun k=>HR.out.frozen k
      have hkl:((ofL (ls.take m) ins).length:Int)<((ofL ls ins).length:Int):=by omega
      have hk0:(0:Int)<=((ofL (ls.take m) ins).length:Int):=by omega
      have HHL:=qh hhl;clear hat hch hgd hrs2 hrs3 HR HO hhl;generalize (cG ls ins)[(ofL (ls.take m) ins).length]'hsl=y at *;generalize (ofL (ls.take m) ins).length=q at *;generalize ls[m]'hlt=x at *;obtain⟨xi,xn,xa,xo,xq,xc,xu⟩:=x;simp only at d0 d1 d2 d3 d4 d5 d6 hi;subst hi;go_wp2_with fail;go_roundw
      case rel=>exact⟨m+1,by omega,by go_num,by rw[HHL.out];go_num,HSET.out,HON.out⟩
      case measure=>simp[intOf];omega
     ·have HSK:=qh (HR.out);rw[qF hlt hi]at HSK;have HLL:=qh (mh hlt hi);clear HR;generalize (ofL (ls.take m) ins).length=q at *;generalize ls[m]'hlt=x at *;obtain⟨xi,xn,xa,xo,xq,xc,xu⟩:=x;simp only at d0 d1 d2 d3 d4 d5 d6 hi;have hbe:(xn == ins)=false:=by rw[beq_eq_false_iff_ne];exact hi
      go_wp2_with fail;go_roundw
      case rel=>exact⟨m+1,by omega,by go_num,by rw[HLL.out],HSK.out,HO.out⟩
      case measure=>simp[intOf];omega
    ·have hke:m=ls.length:=by omega
     subst hke;have hki:¬ ((ls.length:Int)<(ls.length:Int)):=by omega
     have HF:=qh HR.out.reads;rw[qE (Nat.le_refl _),←HPV.out]at HF;go_wp2_with fail;go_ret;exact⟨some ⟨g,0,none⟩,C,rfl,HF.out,Ext.only HX7.out HO.out hgw⟩
theorem xX(t:Bs)(A:Option Addr)(c:Nat)(w:World):Calls Tryz.prog 148 #[.string (bs t),.slice A 0 c] w fun e w'=>e = .returned (.int .i64 11)∧Ext w w':=by
 go_enter Tryz.func148,Tryz.ntmps148;go_wp2_with fail;go_ret;exact⟨rfl,Ext.refl _⟩
theorem qZ(t:Bs)(A:Option Addr)(c:Nat)(w:World):Calls Tryz.prog 70 #[.string (bs t),.slice A 0 c] w fun e w'=>e = .returned (.tuple #[.slice none 0 0,.int .i64 11])∧Ext w w':=by
 have HC:=qh (xX t A c w);go_enter Tryz.func70,Tryz.ntmps70;go_wp2_with fail;refine HC.out.mono ?_;rintro e w1⟨rfl,hx1⟩;have HX:=qh hx1;clear hx1 HC;go_wp2_with fail;go_ret2;exact⟨rfl,HX.out⟩
theorem Di(ls:List LotV)(A:Option Addr)(c:Nat)(ins:Bs)(W:World)(hE:Env W)(hA:aG W A ls)(hs:∀x ∈ ls,SmallL x)(hn:ls.length<=1000)(h0:(ofL ls ins).length=0) :
  Calls Tryz.prog 56 #[.slice A ls.length c,.string (bs ins)] W (mZ ls ins W):=by
 have HE:=qh hE;have HA:=qh hA;have C1:=qh (fun W hE hA=>eu ls A c ins W hE hA hs (by omega));have C2:=qh (fun W hA=>jT ls A c ins W hA (by omega));have C3:=qh (fun W hA=>kM ls A c W hA (by omega));have HPV:Hid (bS ls ins=ls):=qh (by unfold bS;rw[if_pos h0])
 have HNI:Hid (∀x ∈ ls,x.ins≠ins):=qh (fun x hx e=>by
  have h1:ofL ls ins=[]:=List.length_eq_zero_iff.1 h0;have h2:x ∈ ofL ls ins:=List.mem_filter.2 ⟨hx,by simpa using e⟩;rw[h1]at h2
  cases h2)
 clear hE hA;generalize ofI (totQ ls ins)=tq at *;generalize ofI (totC ls ins)=tc at *;unfold oK at C2;rw[h0]at C2;clear h0;go_enter Tryz.func56,Tryz.ntmps56;go_wp2_with fail;refine(C1.out _ HE.out HA.out).mono ?_;rintro e w1⟨rfl,hx1⟩;have HX:=qh hx1;clear hx1;go_wp2_with fail;refine(C2.out _ (HA.out.ext HX.out)).mono ?_;rintro e w2⟨A2,c2,rfl,_,_,hx1⟩;replace HX:=HX.qt hx1;clear hx1 C1 C2;go_wp2_with fail;refine wp_loop_rounds 1 ?_;rw[rounds_succ];go_wp2_with fail;refine(qZ tc none 0 w2).mono ?_;rintro e w6⟨rfl,hx1⟩;replace HX:=HX.qt hx1;clear hx1;go_wp2_with fail;refine(C3.out _ (HA.out.ext HX.out)).mono ?_;rintro e w7⟨A8,C,rfl,hx1,hr8⟩;have HX7:=HX.qt hx1
 have HR8:Hid (aG w7 A8 ls):=qh (by
  rcases Nat.eq_zero_or_pos ls.length with g0|g0
  ·have:ls=[]:=List.length_eq_zero_iff.1 g0;subst this
   exact Reads.nil
  ·obtain⟨g,rfl,hg,hrow⟩:=hr8 g0;exact hrow.reads)
 clear hr8 hx1 C3;go_wp2_with fail;go_loopw [45,13,14] (fun i v _ wr=>∃m,m<=ls.length∧i = .int .i64 (m:Nat)∧v = .int .i64 0∧Ext w7 wr) (fun i _ _ _=>ls.length-(intOf i).toNat)
 case atStart=>exact⟨0,by omega,rfl,rfl,Ext.refl _⟩
 case round =>
  obtain⟨m,hm,rfl,rfl,hxx⟩:=hrel;have HXX:=qh hxx;clear hxx;by_cases hlt:m<ls.length
  ·have hmi:(m:Int)<(ls.length:Int):=by omega
   have hm0:(0:Int)<=(m:Int):=by omega
   obtain⟨b,o,hg7,_,d0,d1,d2,d3,d4,d5,d6⟩:=(HR8.out.ext HXX.out).at_ hlt;subst hg7;have hne:=HNI.out _ (List.getElem_mem hlt);generalize ls[m]'hlt=x at *;obtain⟨xi,xn,xa,xo,xq,xc,xu⟩:=x;simp only at d0 d1 d2 d3 d4 d5 d6 hne;have hbe:(xn == ins)=false:=by rw[beq_eq_false_iff_ne];exact hne
   clear hne;go_wp2_with fail;go_roundw
   case rel=>exact⟨m+1,by omega,by go_num,rfl,HXX.out⟩
   case measure=>simp[intOf];omega
  ·have hke:m=ls.length:=by omega
   subst hke;have hki:¬ ((ls.length:Int)<(ls.length:Int)):=by omega
   go_wp2_with fail;go_ret;exact⟨A8,C,rfl,by rw[HPV.out];exact HR8.out.ext HXX.out,HX7.out.trans HXX.out⟩
def aC(ls:List LotV)(ins:Bs)(n:Nat):List LotV:=if n=6 then bS ls ins else ls
theorem fV(ls:List LotV)(ins:Bs)(n:Nat):(aC ls ins n).length=ls.length:=by
 unfold aC;split
 ·exact mv ls ins
 ·rfl
structure SelIn (ls:List LotV) (f:FactV) (ps:List Fr) (os:List OptV):Prop where
 great:bG ls=false
 all:checkAllL ls=0
 fe:aU f ps os=0
 kd:f.kind=4
structure SelLs (ls:List LotV) (ins:Bs) (ms:List LotV):Prop where
 sm:∀x ∈ ms,SmallL x
 all:checkAllL ms=0
 q:totQ ms ins=totQ ls ins
 c:totC ms ins=totC ls ins
theorem SelIn.ls{ls:List LotV}{f:FactV}(h:SelIn ls f ps os)(n:Nat):SelLs ls f.ins (aC ls f.ins n):=by
 unfold aC;split
 ·refine⟨vX (L:=13) h.all (fun x hx=>?_) (by omega) (ap h.all).1,rj h.all,xH,xI h.all⟩;obtain⟨a,b,c,d,e⟩:=fI ((cI h.great).2 x hx);exact⟨b,by omega,by omega,by omega,by omega⟩
 ·exact⟨bM h.great,h.all,rfl,rfl⟩
structure SelAt (w:World) (ms:List LotV) (f:FactV) (P O:Value) (n:Nat) (X:Nat) (A:Option Addr) (c:Nat) (W:World):Prop where
 x:w.heap.size<=X
 ext:Ext w W
 b0:Blk W X 22 #[.slice A ms.length c]
 b1:Blk W (X+1) 30 (af f P O)
 b2:Blk W (X+2) 3 #[.int .i64 n]
 rd:aG W A ms
theorem SelAt.on{f:FactV}{P O:Value}{A:Option Addr}{c:Nat}(h:SelAt w ms f P O n X A c W)(hx:Ext W W'):SelAt w ms f P O n X A c W':=⟨h.x,h.ext.trans hx,h.b0.ext hx,h.b1.ext hx,h.b2.ext hx,h.rd.ext hx⟩
def m5(R:Value->Value->Value->Int->World->Prop)(e:Ending)(w':World):Prop:=∃A n c B m d C k l z,e = .returned (.tuple #[.agg #[.slice A n c,.slice B m d,.slice C k l,.slice none 0 0],.int .i64 z])∧R (.slice A n c) (.slice B m d) (.slice C k l) z w'
theorem uU(ls:List LotV)(A:Option Addr)(c:Nat)(f:FactV)(ps:List Fr)(os:List OptV)(pa oa:Option Addr)(pc oq n:Nat)(w:World)(hE:Env w)(hA:aG w A ls)(hF:FactAt w f ps os pa oa pc)(hi:SelIn ls f ps os)(h1:1<=n)(h6:n<=6)
  (R:Value->Value->Value->Int->World->Prop) (hR:∀a b c d z X W,w.heap.size<=X->R a b c z W->Blk W X rT #[.slice none 0 0,.slice none 0 0,.slice none 0 0,.slice none 0 0]->R a b c z (mq W X a b c d))
  (hD:∀X A' c' W,SelAt w (aC ls f.ins n) f (ae pa ps.length pc) (ae oa os.length oq) n X A' c' W->Calls Tryz.prog 58 #[.slice A' ls.length c',az f (ae pa ps.length pc) (ae oa os.length oq),.func (.func 57) #[] #[.pointer (some ⟨X,0,none⟩),.pointer (some ⟨X+1,0,none⟩),.pointer (some ⟨X+2,0,none⟩)],.func (.func 59) #[] #[.pointer (some ⟨X+1,0,none⟩)]] W (fun e w'=>m5 R e w'∧Ext W w')) :
  Calls Tryz.prog 13 #[.slice A ls.length c,az f (ae pa ps.length pc) (ae oa os.length oq),.int .i64 n] w (m5 R):=by
 have hs:=bM hi.great;have hwf:(Lit.int .i64 f.kind).wf=true:=by rw[hi.kd];decide
 have ck:=fun W (hx:Ext w W)=>tv ls A c f ps os pa oa pc oq W (hE.ext hx) (hA.ext hx) (hF.ext hx) hwf hs hi.all hi.fe
 rw[hi.kd]at ck;have CK:=qh ck;have CN:=qh (fun W=>AH n h1 h6 W)
 have cp:∀W,Ext w W->Calls Tryz.prog 56 #[.slice A ls.length c,.string (bs f.ins)] W (mZ ls f.ins W):=fun W hx=>by
  rcases Nat.eq_zero_or_pos (ofL ls f.ins).length with h0|h0
  ·exact Di ls A c f.ins W (hE.ext hx) (hA.ext hx) hs (ap hi.all).1 h0
  ·exact Dh ls A c f.ins W (hE.ext hx) (hA.ext hx) hs (ap hi.all).1 h0 (Bx f.ins hs hi.all h0)
 have CP:=qh cp;have HA:=qh hA;have HD:=qh hD;have HRR:=qh hR;have HLN:=qh (mv ls f.ins);have hs1:(Tryz.prog.info? 30).map (·.size)=some (af f (ae pa ps.length pc) (ae oa os.length oq)).toList.length:=by kernel_rfl
 have B0:=qh ((((Blk.new w 22 #[.slice A ls.length c]).alloc (.cells (af f (ae pa ps.length pc) (ae oa os.length oq)) 30)).alloc (.cells #[.int .i64 n] 3)).alloc (.cells #[.slice none 0 0,.slice none 0 0,.slice none 0 0,.slice none 0 0] rT));have B1:=qh (((Blk.newAt (w.alloc (.cells #[.slice A ls.length c] 22)) 30 (af f (ae pa ps.length pc) (ae oa os.length oq)) (w.heap.size+1) (by simp)).alloc (.cells #[.int .i64 n] 3)).alloc (.cells #[.slice none 0 0,.slice none 0 0,.slice none 0 0,.slice none 0 0] rT));have B2:=qh ((Blk.newAt ((w.alloc (.cells #[.slice A ls.length c] 22)).alloc (.cells (af f (ae pa ps.length pc) (ae oa os.length oq)) 30)) 3 #[.int .i64 n] (w.heap.size+2) (by simp)).alloc (.cells #[.slice none 0 0,.slice none 0 0,.slice none 0 0,.slice none 0 0] rT));have B3:=qh (Blk.newAt (((w.alloc (.cells #[.slice A ls.length c] 22)).alloc (.cells (af f (ae pa ps.length pc) (ae oa os.length oq)) 30)).alloc (.cells #[.int .i64 n] 3)) rT #[.slice none 0 0,.slice none 0 0,.slice none 0 0,.slice none 0 0] (w.heap.size+3) (by simp));have HX:Hid (Ext w ((((w.alloc (.cells #[.slice A ls.length c] 22)).alloc (.cells (af f (ae pa ps.length pc) (ae oa os.length oq)) 30)).alloc (.cells #[.int .i64 n] 3)).alloc (.cells #[.slice none 0 0,.slice none 0 0,.slice none 0 0,.slice none 0 0] rT))):=qh ((((Ext.new _ _).alloc _).alloc _).alloc _);clear hE hA hF hi hD hR ck cp hs hwf;go_enter Tryz.func13,Tryz.ntmps13;go_upto_region 1 with fail;generalize ((((w.alloc (.cells #[.slice A ls.length c] 22)).alloc (.cells (af f (ae pa ps.length pc) (ae oa os.length oq)) 30)).alloc (.cells #[.int .i64 n] 3)).alloc (.cells #[.slice none 0 0,.slice none 0 0,.slice none 0 0,.slice none 0 0] rT))=w0 at *;obtain⟨X,hX⟩:∃X,w.heap.size=X:=⟨_,rfl⟩;rw[hX]at B0 B1 B2 B3 ⊢;have q0:=boxCell B0.out;have hrg:=aE B1.out;go_wp2_with (first|refine bX (by kernel_rfl) 30 _ rfl (X+1) 0 rfl _ _ hrg Tryz.underlying30 rfl hs1 ?_|fail);refine(CK.out _ HX.out).mono ?_;rintro e w1⟨rfl,hx1⟩;replace B0:=qh (B0.out.ext hx1);replace B1:=qh (B1.out.ext hx1);replace B2:=qh (B2.out.ext hx1);replace B3:=qh (B3.out.ext hx1);replace HX:=HX.qt hx1;clear hx1 CK q0 hrg;have q2:=boxCell B2.out;go_wp2_with fail;refine(CN.out _).mono ?_;rintro e w2⟨⟨nm,rfl⟩,hx1⟩;replace B0:=qh (B0.out.ext hx1);replace B1:=qh (B1.out.ext hx1);replace B2:=qh (B2.out.ext hx1);replace B3:=qh (B3.out.ext hx1);replace HX:=HX.qt hx1;clear hx1 CN q2;have q2:=boxCell B2.out;by_cases hn:n=6
 focus
  have g6:((n:Int) == 6)=true:=by rw[beq_iff_eq];omega
  have q0:=boxCell B0.out;have q5:=(ah B1.out (Ext.refl _)).2.2.2.2.2.1;go_wp2_with fail;refine(CP.out _ HX.out).mono ?_;rintro e w3⟨A1,c1,rfl,hr,hx1⟩;have hne:=HX.out.size;replace B0:=qh (B0.out.ext hx1);replace B1:=qh (B1.out.ext hx1);replace B2:=qh (B2.out.ext hx1);replace B3:=qh (B3.out.ext hx1);replace HX:=HX.qt hx1;have HRP:=qh hr;clear hx1 hr q0 q2 q5 CP;have q0:=boxCell B0.out;have f0:=B0.out.frozen 0;go_upto_region 9 with fail
  have HS:Hid (SelAt w (aC ls f.ins n) f (ae pa ps.length pc) (ae oa os.length oq) n X A1 c1 (w3.setCell ⟨X,0,none⟩ (.slice A1 ls.length c1))):=qh ⟨by omega,HX.out.setCell (p:=⟨X,0,none⟩) (by dsimp only;omega) _,by rw[fV];exact B0.out.set_ 0 _,B1.out.far (p:=⟨X,0,none⟩) (by dsimp only;omega) _,B2.out.far (p:=⟨X,0,none⟩) (by dsimp only;omega) _,by
   unfold aC;rw[if_pos hn];exact je HRP.out B0.out ⟨_,_,_,rfl⟩ (jJ _)⟩
  replace B3:=qh (B3.out.far (p:=⟨X,0,none⟩) (by dsimp only;omega) (.slice A1 ls.length c1));replace B0:=qh HS.out.b0;rw[fV]at B0;replace B1:=qh HS.out.b1;replace B2:=qh HS.out.b2;clear HRP q0 f0 hne;generalize w3.setCell ⟨X,0,none⟩ (.slice A1 ls.length c1)=w4 at *;have q0:=boxCell B0.out;have q2:=boxCell B2.out;have hrg:=aE B1.out;have HDD:=qh (HD.out X A1 c1 w4 HS.out)
 rotate_left
 focus
  have g6:((n:Int) == 6)=false:=by rw[beq_eq_false_iff_ne];omega
  have HS:Hid (SelAt w (aC ls f.ins n) f (ae pa ps.length pc) (ae oa os.length oq) n X A c w2):=qh ⟨by omega,HX.out,by rw[fV];exact B0.out,B1.out,B2.out,by
   unfold aC;rw[if_neg hn];exact HA.out.ext HX.out⟩
  go_upto_region 9 with fail;clear q2;have q0:=boxCell B0.out;have q2:=boxCell B2.out;have hrg:=aE B1.out;have HDD:=qh (HD.out X A c w2 HS.out)
 all_goals
  clear HS HD;go_wp2_with (first|refine bX (by kernel_rfl) 30 _ rfl (X+1) 0 rfl _ _ hrg Tryz.underlying30 rfl hs1 ?_|fail);refine HDD.out.mono ?_;rintro e w5⟨⟨Aa,na,ca,Ab,nb,cb,Ac,nc,cc,z,rfl,hr⟩,hx1⟩;replace B3:=qh (B3.out.ext hx1);have HRE:=qh hr;clear hr hx1 HDD hrg q0 q2;obtain⟨r0,r1,r2,r3⟩:=jr B3.out (Ext.refl _);have f0:=B3.out.frozen 0;have f1:=B3.out.frozen 1;have f2:=B3.out.frozen 2;have f3:=B3.out.frozen 3;go_wp2_with fail;have hB4:=mr (a := .slice Aa na ca) (b := .slice Ab nb cb) (c := .slice Ac nc cc) (d := .slice none 0 0) B3.out;refine bodyPost_ret (d8 rfl _ _ (X+1+1+1) _ _ _ _ _ rfl rfl hB4) rfl ?_;exact⟨Aa,na,ca,Ab,nb,cb,Ac,nc,cc,z,rfl,HRR.out _ _ _ _ _ (X+3) _ (by omega) HRE.out B3.out⟩
abbrev zR:Value := .agg #[.slice none 0 0,.slice none 0 0,.slice none 0 0,.slice none 0 0]
theorem AJ(A:Option Addr)(n c:Nat)(f:FactV)(P O:Value)(z:Int)(hz:z≠0)(kc kp:Nat)(cb pb:Array Value)(ec:∀args w,(callFunc kc args).run Tryz.prog w = .ok (.enter kc args) w)
  (w:World) (hC:∀W,Ext w W->Calls Tryz.prog kc cb W fun e w'=>(∃v,e = .returned (.tuple #[v,.int .i64 z]))∧Ext W w') :
  Calls Tryz.prog 58 #[.slice A n c,az f P O,.func (.func kc) #[] cb,.func (.func kp) #[] pb] w fun e w'=>e = .returned (.tuple #[zR,.int .i64 z])∧Ext w w':=by
 have HC:=qh hC;have hz2:(z != 0)=true:=by rw[bne_iff_ne];exact hz
 clear hC;have HR0:Hid (Blk ((w.alloc (.cells (af f P O) 30)).alloc (.cells #[.slice none 0 0,.slice none 0 0,.slice none 0 0,.slice none 0 0] 39)) (w.heap.size+1) rT #[.slice none 0 0,.slice none 0 0,.slice none 0 0,.slice none 0 0]):=qh (Blk.newAt _ _ _ _ (by simp));have HX0:Hid (Ext w ((w.alloc (.cells (af f P O) 30)).alloc (.cells #[.slice none 0 0,.slice none 0 0,.slice none 0 0,.slice none 0 0] 39))):=qh ((Ext.new _ _).alloc _);obtain⟨fk,fst,fca,fda,fki,fin,fot,fcu,ftg,fq,fam,ffe,⟨fpn,fpd⟩,⟨frn,frd⟩,⟨fsn,fsd⟩,fch⟩:=f;go_enter Tryz.func58,Tryz.ntmps58;go_wp2_with fail;generalize (w.alloc (.cells #[.string (bs fk),.int .i64 fst,.bool fca,.int .i64 fda,.int .i64 fki,.string (bs fin),.string (bs fot),.string (bs fcu),.string (bs ftg),.string (bs fq),.string (bs fam),.string (bs ffe),.string (bs fpn),.string (bs fpd),.string (bs frn),.string (bs frd),.string (bs fsn),.string (bs fsd),P,O,.int .i64 fch] 30)).alloc (.cells #[.slice none 0 0,.slice none 0 0,.slice none 0 0,.slice none 0 0] 39)=w0 at *;refine(HC.out _ HX0.out).mono ?_;rintro e w1⟨⟨v,rfl⟩,hx1⟩;replace HX0:=HX0.qt hx1;replace HR0:=qh (HR0.out.ext hx1);clear hx1 HC;obtain⟨r0,r1,r2,r3⟩:=jr HR0.out (Ext.refl _);have f0:=HR0.out.frozen 0;have f1:=HR0.out.frozen 1;have f2:=HR0.out.frozen 2;have f3:=HR0.out.frozen 3;go_wp2_with fail;have hB4:=mr (a := .slice none 0 0) (b := .slice none 0 0) (c := .slice none 0 0) (d := .slice none 0 0) HR0.out;refine bodyPost_ret (d8 rfl _ _ (w.heap.size+1) _ _ _ _ _ rfl rfl hB4) rfl ?_;exact⟨rfl,nR HX0.out (by omega)⟩
def bJ(ls:List LotV)(f:FactV)(n:Nat)(ps:List Fr):List Fr:=(choose (aC ls f.ins n) f.ins f.qty n ps).out
def fy(f:FactV):Bs:=ofI (valI f.amt-valI f.fee)
def bP(ls:List LotV)(f:FactV)(n:Nat)(ps:List Fr):List LotV:=(ax (aC ls f.ins n) (bJ ls f n ps)).1
def av(ls:List LotV)(f:FactV)(n:Nat)(ps:List Fr):List LotV:=(ax (aC ls f.ins n) (bJ ls f n ps)).2
def aP(ls:List LotV)(f:FactV)(n:Nat)(ps:List Fr):List GainV:=cA f.key f.ins f.day (av ls f n ps) (dh (fy f) (av ls f n ps))
def iZ(ls:List LotV)(f:FactV)(n:Nat)(ps:List Fr):List StepV:=dw f.key (av ls f n ps)
theorem SelIn.sale{ls:List LotV}{f:FactV}(h:SelIn ls f ps os):SaleOK f ps:=CR h.fe h.kd
theorem SelIn.chs{ls:List LotV}{f:FactV}(h:SelIn ls f ps os)(h1:1<=n)(h6:n<=6):ChsS (aC ls f.ins n) f.qty n ps:=by
 have s:=h.sale;have l:=h.ls n;exact⟨h1,h6,l.sm,l.all,s.cq,s.q0,by have:=s.ql;omega,fun _=>s.bad,by have:=s.pl;omega,fun p hp=>by have:=(s.pk p hp).2.2;omega⟩
theorem SelIn.pick{ls:List LotV}{f:FactV}(h:SelIn ls f ps os)(n:Nat)(hq:valI f.qty<=totQ ls f.ins):PickIn (aC ls f.ins n) f.ins (bJ ls f n ps)∧iT (bJ ls f n ps)=valI f.qty:=by
 have s:=h.sale;have l:=h.ls n;exact E8 l.all l.sm s.cq s.q0 (by have:=s.ql;omega) (by rw[l.q];exact hq)
theorem SelIn.pos{ls:List LotV}{f:FactV}(h:SelIn ls f ps os)(n:Nat)(hq:valI f.qty<=totQ ls f.ins):0<(bJ ls f n ps).length:=by
 have h1:=(h.pick n hq).2;have h2:=h.sale.q0;rcases Nat.eq_zero_or_pos (bJ ls f n ps).length with h0|h0
 ·rw[List.length_eq_zero_iff.1 h0]at h1;simp[iT]at h1;omega
 ·exact h0
theorem SelIn.net{ls:List LotV}{f:FactV}(h:SelIn ls f ps os):(fy f).length<=43∧checkI (fy f)=0:=by
 have s:=h.sale;exact⟨Cb s.al s.fl,eM _⟩
def qo(rest:List LotV)(gs:List GainV)(ss:List StepV)(w:World)(a b c:Value)(z:Int)(w':World):Prop:=z=0∧(∃A k,a = .slice A rest.length k∧aG w' A rest)∧(∃B d,b = .slice B gs.length d∧jQ w' B gs)∧(∃C k,c = .slice C ss.length k∧Iv w' C ss)∧Ext w w'
theorem qo.set{gs:List GainV}{ss:List StepV}{a b c d:Value}{z:Int}(hX:w.heap.size<=X)(h:qo rest gs ss w a b c z W)(hb:Blk W X rT #[.slice none 0 0,.slice none 0 0,.slice none 0 0,.slice none 0 0]):qo rest gs ss w a b c z (mq W X a b c d):=by
 obtain⟨h0,⟨A,k,h1,h2⟩,⟨B,d',h3,h4⟩,⟨C,k',h5,h6⟩,h7⟩:=h;exact⟨h0,⟨A,k,h1,mt h2 hb ⟨_,_,_,rfl⟩ ⟨_,_,_,rfl⟩ ⟨_,_,_,rfl⟩ ⟨_,_,_,rfl⟩ (jJ _)⟩,⟨B,d',h3,mt h4 hb ⟨_,_,_,rfl⟩ ⟨_,_,_,rfl⟩ ⟨_,_,_,rfl⟩ ⟨_,_,_,rfl⟩ (Ed _)⟩,⟨C,k',h5,mt h6 hb ⟨_,_,_,rfl⟩ ⟨_,_,_,rfl⟩ ⟨_,_,_,rfl⟩ ⟨_,_,_,rfl⟩ (Ee _)⟩,nR h7 hX⟩
theorem tw(ls:List LotV)(A:Option Addr)(c:Nat)(f:FactV)(ps:List Fr)(os:List OptV)(pa oa:Option Addr)(pc oq n:Nat)(w:World)(hE:Env w)(hA:aG w A ls)(hF:FactAt w f ps os pa oa pc)(hi:SelIn ls f ps os)(h1:1<=n)(h6:n<=6)(hq:valI f.qty<=totQ ls f.ins) :
  Calls Tryz.prog 13 #[.slice A ls.length c,az f (ae pa ps.length pc) (ae oa os.length oq),.int .i64 n] w (fw (bP ls f n ps) (aP ls f n ps) (iZ ls f n ps) w):=by
 have l:=hi.ls n;obtain⟨hp,hsum⟩:=hi.pick n hq;have h0:=hi.pos n hq;obtain⟨hn1,hn2⟩:=hi.net;have hs:=hi.sale;refine(uU ls A c f ps os pa oa pc oq n w hE hA hF hi h1 h6 (qo (bP ls f n ps) (aP ls f n ps) (iZ ls f n ps) w) (fun a b c d z X W hX hr hb=>hr.set hX hb) ?_).mono ?_
 ·intro X A' c' W h;have hlen:(aC ls f.ins n).length=ls.length:=fV ls f.ins n;have hd:=tu (aC ls f.ins n) (bJ ls f n ps) f (ae pa ps.length pc) (ae oa os.length oq) (fy f) 57 59 #[.pointer (some ⟨X,0,none⟩),.pointer (some ⟨X+1,0,none⟩),.pointer (some ⟨X+2,0,none⟩)] #[.pointer (some ⟨X+1,0,none⟩)] (fun _ _=>by rfl) (fun _ _=>by rfl) A' c' W (hE.ext h.ext) h.rd l.sm l.all hp h0 (by omega) hn2 ?_ ?_
  ·rw[hlen]at hd;refine hd.mono ?_;rintro e w'⟨A1,c1,B1,d1,C1,k1,rfl,r1,r2,r3,hx⟩;exact⟨⟨A1,_,c1,B1,_,d1,C1,_,k1,0,rfl,rfl,⟨A1,c1,rfl,r1⟩,⟨B1,d1,rfl,r2⟩,⟨C1,k1,rfl,r3⟩,h.ext.trans hx⟩,hx⟩
  ·intro W' hx;have h':=h.on hx;have hc:=(my (aC ls f.ins n) f.ins f.qty n ps (hi.chs h1 h6) A' pa c' pc W' (hE.ext h'.ext) h'.rd (hF.rp.ext h'.ext)).1 (by rw[l.q];exact hq);refine(BH A' (aC ls f.ins n).length c' f (ae pa ps.length pc) (ae oa os.length oq) n ⟨_,_,_,rfl⟩ 0 (fun v w'=>eB w' W'.heap.size v (bJ ls f n ps)∧Ext W' w') X W' h'.b0 h'.b1 h'.b2 hc).mono ?_;rintro e w'⟨v,rfl,ho,hx1⟩;obtain⟨A2,c2,rfl⟩:=aM ho;exact⟨A2,c2,rfl,ho.rd,(own_cap ho).1,hx1⟩
  ·intro W' A2 c2 hx _;have h':=h.on hx;exact Ie A2 _ c2 f _ _ (X+1) W' h'.b1 (by have:=hs.al;omega) (by have:=hs.fl;omega) (hE.ext h'.ext)
 ·rintro e w'⟨A1,n1,c1,B1,m1,d1,C1,k1,l1,z,rfl,rfl,⟨A2,c2,e1,r1⟩,⟨B2,d2,e2,r2⟩,⟨C2,k2,e3,r3⟩,hx⟩;rw[e1,e2,e3];exact⟨A2,c2,B2,d2,C2,k2,rfl,r1,r2,r3,hx⟩
theorem xY(ls:List LotV)(A:Option Addr)(c:Nat)(f:FactV)(ps:List Fr)(os:List OptV)(pa oa:Option Addr)(pc oq n:Nat)(w:World)(hE:Env w)(hA:aG w A ls)(hF:FactAt w f ps os pa oa pc)(hi:SelIn ls f ps os)(h1:1<=n)(h6:n<=6)(hq:totQ ls f.ins<valI f.qty) :
  Calls Tryz.prog 13 #[.slice A ls.length c,az f (ae pa ps.length pc) (ae oa os.length oq),.int .i64 n] w fun e w'=>e = .returned (.tuple #[zR,.int .i64 15])∧Ext w w':=by
 have l:=hi.ls n;refine(uU ls A c f ps os pa oa pc oq n w hE hA hF hi h1 h6 (fun a b c z w'=>a = .slice none 0 0∧b = .slice none 0 0∧c = .slice none 0 0∧z=15∧Ext w w') (fun a b c d z X W hX hr hb=>⟨hr.1,hr.2.1,hr.2.2.1,hr.2.2.2.1,nR hr.2.2.2.2 hX⟩) ?_).mono ?_
 ·intro X A' c' W h;have hlen:(aC ls f.ins n).length=ls.length:=fV ls f.ins n;refine(AJ A' ls.length c' f (ae pa ps.length pc) (ae oa os.length oq) 15 (by decide) 57 59 #[.pointer (some ⟨X,0,none⟩),.pointer (some ⟨X+1,0,none⟩),.pointer (some ⟨X+2,0,none⟩)] #[.pointer (some ⟨X+1,0,none⟩)] (fun _ _=>by rfl) W ?_).mono ?_
  ·intro W' hx;have h':=h.on hx;have hc:=(my (aC ls f.ins n) f.ins f.qty n ps (hi.chs h1 h6) A' pa c' pc W' (hE.ext h'.ext) h'.rd (hF.rp.ext h'.ext)).2 (by rw[l.q];exact hq)
   have hc2:=BH A' (aC ls f.ins n).length c' f (ae pa ps.length pc) (ae oa os.length oq) n ⟨_,_,_,rfl⟩ 15 (fun v w'=>Ext W' w') X W' h'.b0 h'.b1 h'.b2 (hc.mono (by
    rintro e w'⟨rfl,hx1⟩;exact⟨_,rfl,hx1⟩))
   refine hc2.mono ?_;rintro e w'⟨v,rfl,hx1⟩;exact⟨⟨v,rfl⟩,hx1⟩
  ·rintro e w'⟨rfl,hx⟩;exact⟨⟨none,0,0,none,0,0,none,0,0,15,rfl,rfl,rfl,rfl,rfl,h.ext.trans hx⟩,hx⟩
 ·rintro e w'⟨A1,n1,c1,B1,m1,d1,C1,k1,l1,z,rfl,e1,e2,e3,rfl,hx⟩;rw[e1,e2,e3];exact⟨rfl,hx⟩
def gg(ls:List LotV)(f:FactV)(ps:List Fr)(os:List OptV)(k:Int):Int:=if checkAllL ls≠0∨aU f ps os≠0 then 1 else if f.kind≠k then 7 else 0
theorem xZ(ls:List LotV)(A:Option Addr)(c:Nat)(f:FactV)(ps:List Fr)(os:List OptV)(pa oa:Option Addr)(pc oq:Nat)(k:Int)(w:World)(hE:Env w)(hA:aG w A ls)(hF:FactAt w f ps os pa oa pc)(hwf:(Lit.int .i64 f.kind).wf=true)(hsm:∀x ∈ ls,SmallL x)(hn:ls.length<=100000) :
  Calls Tryz.prog 54 #[.slice A ls.length c,az f (ae pa ps.length pc) (ae oa os.length oq),.int .i64 k] w fun e w'=>e = .returned (.int .i64 (gg ls f ps os k))∧Ext w w':=by
 have CA:=qh (fun W (hx:Ext w W)=>cT ls A c W (hE.ext hx) (hA.ext hx) hsm hn);have CF:=qh (fun W (hx:Ext w W)=>kY f ps os pa oa pc oq W (hF.ext hx) hwf (hE.ext hx));have HV:Hid (gg ls f ps os k=if checkAllL ls≠0∨aU f ps os≠0 then 1 else if f.kind≠k then 7 else 0):=qh rfl;have HF:=qh (Blk.new w 30 (af f (ae pa ps.length pc) (ae oa os.length oq)));have HX:Hid (Ext w (w.alloc (.cells (af f (ae pa ps.length pc) (ae oa os.length oq)) 30))):=qh (Ext.new _ _);have hs1:(Tryz.prog.info? 30).map (·.size)=some (af f (ae pa ps.length pc) (ae oa os.length oq)).toList.length:=by kernel_rfl
 clear hA hF hE hsm;generalize gg ls f ps os k=r at *;generalize checkAllL ls=e1 at *;generalize aU f ps os=e2 at *;go_enter Tryz.func54,Tryz.ntmps54;go_wp2_with fail;refine(CA.out _ HX.out).mono ?_;rintro e w1⟨rfl,hx1⟩;replace HX:=HX.qt hx1;replace HF:=qh (HF.out.ext hx1);clear hx1 CA;by_cases h1:e1=0;rotate_left
 ·have hv:=HV.out;rw[if_pos (.inl h1)]at hv;have g1:(e1 != 0)=true:=by rw[bne_iff_ne];exact h1
  subst hv;clear HV h1 CF;go_wp2_with fail;go_ret;exact⟨rfl,HX.out⟩
 subst h1;have hrg:=aE HF.out;go_wp2_with (first|refine bX (by kernel_rfl) 30 _ rfl w.heap.size 0 rfl _ _ hrg Tryz.underlying30 rfl hs1 ?_|fail);refine(CF.out _ HX.out).mono ?_;rintro e w2⟨rfl,hx1⟩;replace HX:=HX.qt hx1;replace HF:=qh (HF.out.ext hx1);clear hx1 hrg CF;by_cases h2:e2=0;rotate_left
 ·have hv:=HV.out;rw[if_pos (.inr h2)]at hv;have g1:(e2 != 0)=true:=by rw[bne_iff_ne];exact h2
  subst hv;clear HV h2;go_wp2_with fail;go_ret;exact⟨rfl,HX.out⟩
 subst h2;have x4:=HF.out.cell 4;simp only[List.getElem?_toArray,List.getElem?_cons_zero,List.getElem?_cons_succ]at x4;have hv:=HV.out;rw[if_neg (by simp)]at hv;clear HV;by_cases h3:f.kind=k
 focus rw[if_neg (by simpa using h3)]at hv;have g1:(f.kind != k)=false:=by rw[bne_eq_false_iff_eq];exact h3
 rotate_left
 focus rw[if_pos h3]at hv;have g1:(f.kind != k)=true:=by rw[bne_iff_ne];exact h3
 all_goals
  subst hv;clear h3;go_wp2_with fail;go_ret;exact⟨rfl,HX.out⟩
def cN(ls:List LotV)(f:FactV)(ps:List Fr)(os:List OptV)(m:Int):Int:=if gg ls f ps os 4≠0 then gg ls f ps os 4 else if m<1∨7<=m then 7 else if totQ ls f.ins<valI f.qty then 15 else 0
theorem uV(ls:List LotV)(A:Option Addr)(c:Nat)(f:FactV)(ps:List Fr)(os:List OptV)(pa oa:Option Addr)(pc oq:Nat)(m:Int)(w:World)(hE:Env w)(hA:aG w A ls)(hF:FactAt w f ps os pa oa pc)(hwf:(Lit.int .i64 f.kind).wf=true)(hs:∀x ∈ ls,SmallL x)(hn:ls.length<=100000)(z:Int)(hz:gg ls f ps os 4≠0∧z=gg ls f ps os 4∨(gg ls f ps os 4=0∧(m<1∨7<=m)∧z=7)) :
  Calls Tryz.prog 13 #[.slice A ls.length c,az f (ae pa ps.length pc) (ae oa os.length oq),.int .i64 m] w fun e w'=>e = .returned (.tuple #[zR,.int .i64 z])∧Ext w w':=by
 have CK:=qh (fun W (hx:Ext w W)=>xZ ls A c f ps os pa oa pc oq 4 W (hE.ext hx) (hA.ext hx) (hF.ext hx) hwf hs hn);have HZ:=qh hz;have hs1:(Tryz.prog.info? 30).map (·.size)=some (af f (ae pa ps.length pc) (ae oa os.length oq)).toList.length:=by kernel_rfl
 have B0:=qh ((((Blk.new w 22 #[.slice A ls.length c]).alloc (.cells (af f (ae pa ps.length pc) (ae oa os.length oq)) 30)).alloc (.cells #[.int .i64 m] 3)).alloc (.cells #[.slice none 0 0,.slice none 0 0,.slice none 0 0,.slice none 0 0] rT));have B1:=qh (((Blk.newAt (w.alloc (.cells #[.slice A ls.length c] 22)) 30 (af f (ae pa ps.length pc) (ae oa os.length oq)) (w.heap.size+1) (by simp)).alloc (.cells #[.int .i64 m] 3)).alloc (.cells #[.slice none 0 0,.slice none 0 0,.slice none 0 0,.slice none 0 0] rT));have B2:=qh ((Blk.newAt ((w.alloc (.cells #[.slice A ls.length c] 22)).alloc (.cells (af f (ae pa ps.length pc) (ae oa os.length oq)) 30)) 3 #[.int .i64 m] (w.heap.size+2) (by simp)).alloc (.cells #[.slice none 0 0,.slice none 0 0,.slice none 0 0,.slice none 0 0] rT));have B3:=qh (Blk.newAt (((w.alloc (.cells #[.slice A ls.length c] 22)).alloc (.cells (af f (ae pa ps.length pc) (ae oa os.length oq)) 30)).alloc (.cells #[.int .i64 m] 3)) rT #[.slice none 0 0,.slice none 0 0,.slice none 0 0,.slice none 0 0] (w.heap.size+3) (by simp));have HX:Hid (Ext w ((((w.alloc (.cells #[.slice A ls.length c] 22)).alloc (.cells (af f (ae pa ps.length pc) (ae oa os.length oq)) 30)).alloc (.cells #[.int .i64 m] 3)).alloc (.cells #[.slice none 0 0,.slice none 0 0,.slice none 0 0,.slice none 0 0] rT))):=qh ((((Ext.new _ _).alloc _).alloc _).alloc _);clear hE hA hF hs hwf hz;generalize gg ls f ps os 4=r at *;go_enter Tryz.func13,Tryz.ntmps13;go_upto_region 1 with fail;generalize ((((w.alloc (.cells #[.slice A ls.length c] 22)).alloc (.cells (af f (ae pa ps.length pc) (ae oa os.length oq)) 30)).alloc (.cells #[.int .i64 m] 3)).alloc (.cells #[.slice none 0 0,.slice none 0 0,.slice none 0 0,.slice none 0 0] rT))=w0 at *;obtain⟨X,hX⟩:∃X,w.heap.size=X:=⟨_,rfl⟩;rw[hX]at B0 B1 B2 B3 ⊢;have q0:=boxCell B0.out;have hrg:=aE B1.out;go_wp2_with (first|refine bX (by kernel_rfl) 30 _ rfl (X+1) 0 rfl _ _ hrg Tryz.underlying30 rfl hs1 ?_|fail);refine(CK.out _ HX.out).mono ?_;rintro e w1⟨rfl,hx1⟩;replace B0:=qh (B0.out.ext hx1);replace B1:=qh (B1.out.ext hx1);replace B2:=qh (B2.out.ext hx1);replace B3:=qh (B3.out.ext hx1);replace HX:=HX.qt hx1;clear hx1 CK q0 hrg;by_cases h1:r=0;rotate_left
 focus
  have hz:z=r:=by
   rcases HZ.out with h|h
   ·exact h.2
   ·exact absurd h.1 h1
  subst hz;have g1:(z != 0)=true:=by rw[bne_iff_ne];exact h1
  clear HZ h1
 rotate_left
 focus
  have hz:(m<1∨7<=m)∧z=7:=by
   rcases HZ.out with h|h
   ·exact absurd h1 h.1
   ·exact h.2
  obtain⟨hm,rfl⟩:=hz;have CN:=qh (fun W=>AI m hm W);subst h1;clear HZ hm;have q2:=boxCell B2.out;go_wp2_with fail;refine(CN.out _).mono ?_;rintro e w2⟨rfl,hx1⟩;replace B0:=qh (B0.out.ext hx1);replace B1:=qh (B1.out.ext hx1);replace B2:=qh (B2.out.ext hx1);replace B3:=qh (B3.out.ext hx1);replace HX:=HX.qt hx1;clear hx1 CN q2
 all_goals
  obtain⟨r0,r1,r2,r3⟩:=jr B3.out (Ext.refl _);have f0:=B3.out.frozen 0;have f1:=B3.out.frozen 1;have f2:=B3.out.frozen 2;have f3:=B3.out.frozen 3;go_wp2_with fail;have hB4:=mr (a := .slice none 0 0) (b := .slice none 0 0) (c := .slice none 0 0) (d := .slice none 0 0) B3.out;refine bodyPost_ret (d8 rfl _ _ (X+1+1+1) _ _ _ _ _ rfl rfl hB4) rfl ?_;exact⟨rfl,nR HX.out (by omega)⟩
def bT(f:Fr):Bool:=decide (13<f.num.length) || decide (13<f.den.length)
theorem i6{f:Fr}(h:bT f=false):f.num.length<=13∧f.den.length<=13:=by
 unfold bT at h;simp at h;omega
theorem Dj{f:Fr}(h:13<f.num.length):bT f=true:=by unfold bT;simp[h]
theorem Dk{f:Fr}(h:13<f.den.length):bT f=true:=by unfold bT;simp[h]
def cC(a:Bs):Bool:=decide (13<(a.length:Int))
theorem cj(a:Bs):Fv 110 #[.string (bs a)] (.bool (cC a)):=by
 intro w;go_enter Tryz.func110,Tryz.ntmps110;go_wp2_with fail;go_ret;exact⟨rfl,Ext.refl _⟩
end
end Go.Proofs.YtaegjkllenlfpaaGreatDoor
