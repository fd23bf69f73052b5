/- The seat's texts, part QM. -/
import Derived.Test.YtaegjkllenlfpaaGreatDoorQ21
import Derived.Test.YtaegjkllenlfpaaGreatDoorQ31
import Derived.Test.YtaegjkllenlfpaaGreatDoorQ33
import Derived.Test.YtaegjkllenlfpaaGreatDoorQ34
import Derived.Test.YtaegjkllenlfpaaGreatDoorQX
import Derived.Test.YtaegjkllenlfpaaGreatDoorQK
import Derived.Deep.RegionHeld3
set_option maxRecDepth 100000
set_option maxHeartbeats 8000000
namespace Go.Proofs.YtaegjkllenlfpaaGreatDoor
variable {xs:List LotV}{k F:Nat}
section
open Go.RowKit Go.Shelf
attribute [local go_sem] size_bs toList_bs
def fX(xs:List LotV):Int:=(xs.map (fun x=>valI x.c)).sum
theorem wi(h:k<xs.length):fX (xs.take (k+1))=fX (xs.take k)+valI (xs[k]'h).c:=by
 unfold fX;rw[List.take_succ_eq_append_getElem h,List.map_append,List.sum_append];simp
theorem yz(hs:∀x ∈ xs,SmallL x)(hn:xs.length<=100000)(k:Nat):(ofI (fX (xs.take k))).length<=2000 :=
 py (·.c) _ (fun x hx=>(hs x (List.mem_of_mem_take hx)).2.2.2.1) (by rw[List.length_take];omega)
theorem wj(ls:List LotV)(ps:List Fr)(hp:PicksOK ls ps)(hs:∀x ∈ ls,SmallL x)(hv:checkAllL ls=0)(hpl:ps.length<=100000)(hpd:∀p ∈ ps,p.den.length<=5000)(hts:∀x ∈ (ax ls ps).2,SmallL x)(htl:(ax ls ps).2.length<=100000)(A PA:Option Addr)(c pc:Nat)(hpc:ps.length<=pc)(w:World)(hE:Env w)(hA:aG w A ls)(hP:dS w PA ps) :
  Calls Tryz.prog 24 #[.slice A ls.length c,.slice PA ps.length pc] w fun e w'=>e = .returned (.tuple #[.string (bs (ofI (fX (ax ls ps).2))),.int .i64 0])∧Ext w w':=by
 have HE:=qh hE;have HT:=qh (qm ls ps hp hs hv hpl hpd A PA c pc hpc w hE hA hP);have HLN:=qh (yz hts htl);have HS:=qh hts;clear hE hA hP hp hs hv hpd hts;generalize hxs:(ax ls ps).2=xs at *;go_enter Tryz.func24,Tryz.ntmps24;go_wp2_with fail;refine HT.out.mono ?_;rintro e w1⟨A1,c1,B,d,rfl,_,hr,hx1⟩;rw[hxs]at hr ⊢;have HX:=qh hx1;have HR:=qh hr;clear hx1 hr HT hxs;go_wp2_with fail;go_loopw [21,9] (fun i v wr=>∃k:Nat,k<=xs.length∧i = .int .i64 k∧v = .string (bs (ofI (fX (xs.take k))))∧Ext w1 wr) (fun i _ _=>xs.length-(intOf i).toNat)
 case atStart=>exact⟨0,by omega,rfl,by simp[fX,cP.2 rfl];rfl,Ext.refl _⟩
 case round =>
  obtain⟨k,hk,rfl,rfl,hx⟩:=hrel;have HXX:=qh hx;clear hx;by_cases hlt:k<xs.length
  ·obtain⟨b,o,rfl,hb,d0,d1,d2,d3,d4,d5,d6⟩:=(HR.out.ext HXX.out).at_ hlt;have hki:(k:Int)<(xs.length:Int):=by omega
   have hk0:(0:Int)<=(k:Int):=by omega
   have hsm:=HS.out _ (List.getElem_mem hlt);have l1:=HLN.out k;have a1:=ii (ofI (fX (xs.take k))) (xs[k]'hlt).c (by omega) (by have:=hsm.2.2.2.1;omega);rw[valI_ofI,←wi hlt]at a1;have A1:=qh a1;clear hsm l1 a1;generalize hq1:ofI (fX (xs.take (k+1)))=q1 at *;have HQ1:=qh hq1;clear hq1;generalize ofI (fX (xs.take k))=z1 at *;generalize (xs[k]'hlt)=x at *;obtain⟨xi,xn,xa,xo,xq,xc,xu⟩:=x;simp only at d0 d1 d2 d3 d4 d5 d6 A1;have BX:=qh (Blk.new wr 62 (lc ⟨xi,xn,xa,xo,xq,xc,xu⟩));replace HXX:=qh (HXX.out.trans (Ext.new wr (.cells (lc ⟨xi,xn,xa,xo,xq,xc,xu⟩) 62)));go_upto_region 6 with fail;obtain⟨x0,x1,x2,x3,x4,x5,x6⟩:=aj BX.out (Ext.refl _);simp only at *;generalize wr.alloc (.cells #[.string (bs xi),.string (bs xn),.int .i64 xa,.int .i64 xo,.string (bs xq),.string (bs xc),.string (bs xu)] 62)=w5 at *;generalize wr.heap.size=X8 at *;clear d0 d1 d2 d3 d4 d5 d6;go_wp2_with fail;refine(A1.out _ (HE.out.ext (HX.out.trans HXX.out))).mono ?_;rintro e w6⟨rfl,hx1⟩;replace HXX:=HXX.qt hx1;clear hx1 A1;go_wp2_with fail;go_roundw
   case rel=>exact⟨k+1,by omega,by go_num,by rw[HQ1.out],HXX.out⟩
   case measure=>simp[intOf];omega
  ·have hke:k=xs.length:=by omega
   subst hke;have hki:¬ ((xs.length:Int)<(xs.length:Int)):=by omega
   rw[List.take_length];go_wp2_with fail;go_ret2;exact⟨rfl,HX.out.trans HXX.out⟩
theorem yA(ls:List LotV)(A:Option Addr)(c:Nat)(ins:Bs)(W:World)(hE:Env W)(hA:aG W A ls)(hs:∀x ∈ ls,SmallL x)(hn:ls.length<=1000)(h0:0<(ofL ls ins).length)(hWt:WtOK (dN ls ins)) :
  Calls Tryz.prog 22 #[.slice A ls.length c,.string (bs ins)] W (mZ ls ins W):=by
 have HS:=qh hs;have HE:=qh hE;have HA:=qh hA;have HWT:=qh hWt;have hol:(ofL ls ins).length<=ls.length:=List.length_filter_le _ _;have htl:=nM (ls:=ls) ins ls.length hs (by omega);rw[List.take_length]at htl;have HTL:=qh htl;have C1:=qh (fun W hE hA=>eu ls A c ins W hE hA hs (by omega));have C2:=qh (fun W hA=>jT ls A c ins W hA (by omega));have C3:=qh (fun W hA=>kM ls A c W hA (by omega));obtain⟨i0,hI,hz0,hz1,hz2⟩:=info_parts strInfo;have HI:=qh hI;clear hs hE hA hI hWt htl;generalize ofI (totQ ls ins)=tq at *;go_enter Tryz.func22,Tryz.ntmps22;go_wp2_with fail;refine(C2.out _ HA.out).mono ?_;rintro e w2⟨A2,c2,rfl,ho2,hc2,hx1⟩;have HX:=qh hx1;have HR2:Hid (aG w2 A2 (ofL ls ins)):=qh (Reads.own ho2);clear hx1 ho2 hc2 C2;go_wp2_with fail;go_loopw [19,5] (fun i v7 wr=>∃k A7 c7,k<=(ofL ls ins).length∧i = .int .i64 (k:Nat)∧v7 = .slice A7 k c7∧wr.ownsRow w2.heap.size 24 1 v7 k (scells ((dN ls ins).take k))∧Ext w2 wr) (fun i _ _=>(ofL ls ins).length-(intOf i).toNat)
 case atStart=>exact⟨0,none,0,by omega,rfl,rfl,by simpa[scells] using World.ownsRow_nil _ _ _ _,Ext.refl _⟩
 case round =>
  obtain⟨k,A7,c7,hk,rfl,rfl,how,hx⟩:=hrel;have HO:=qh how;have HX2:=qh hx;clear how hx;by_cases hlt:k<(ofL ls ins).length
  ·obtain⟨b,o,hA2,hbl,d0,d1,d2,d3,d4,d5,d6⟩:=(HR2.out.ext HX2.out).at_ hlt;subst hA2;have hki:(k:Int)<((ofL ls ins).length:Int):=by omega
   have hk0:(0:Int)<=(k:Int):=by omega
   have hqx:(dN ls ins)[k]? = some ((ofL ls ins)[k]'hlt).q:=by unfold dN;rw[List.getElem?_map,List.getElem?_eq_getElem hlt];rfl
   have HSN:=qh (kC _ hqx);generalize (ofL ls ins)[k]'hlt=x at *;obtain⟨xi,xn,xa,xo,xq,xc,xu⟩:=x;simp only at d0 d1 d2 d3 d4 d5 d6 HSN;clear hqx;go_upto_region 5 with fail;have BX:=qh (Blk.new wr 62 (lc ⟨xi,xn,xa,xo,xq,xc,xu⟩));have HX3:=qh (HX2.out.trans (Ext.new wr (.cells (lc ⟨xi,xn,xa,xo,xq,xc,xu⟩) 62)));have HO3:=qh (own_ext2 HO.out (Ext.new wr (.cells (lc ⟨xi,xn,xa,xo,xq,xc,xu⟩) 62)));obtain⟨x0,x1,x2,x3,x4,x5,x6⟩:=aj BX.out (Ext.refl _);simp only at *;generalize wr.alloc (.cells #[.string (bs xi),.string (bs xn),.int .i64 xa,.int .i64 xo,.string (bs xq),.string (bs xc),.string (bs xu)] 62)=w5 at *;generalize wr.heap.size=X8 at *;have HO4:=qh (own_ext2 HO3.out (Ext.new w5 (.cells #[.string (bs xq)] 24)));have HX4:=qh (HX3.out.trans (Ext.new w5 (.cells #[.string (bs xq)] 24)));have hsz:=HX4.out.size;have hlow:=kX HO4.out;clear BX HO HO3 HX2 HX3;go_wp2_with (at_builtin;go_must (refine wpList_append_own _ rfl (.tmp 23) (.tmp 26) 117 rfl w2.heap.size 24 i0 _ 1 16 Tryz.underlying117 HI.out hz0 hz1 hz2 rfl (by decide) _ k (scells ((dN ls ins).take k)) rfl HO4.out ⟨w5.heap.size,0,none⟩ 1 1 [.string (bs xq)] rfl rfl (World.news_of_block (heap_alloc_new w5 _)) (by simp[Value.oneCell']) (by simp only[maxLen];omega) (by omega) hsz ?_);intro v2 w' hown' hgrow hnil;(obtain⟨A3,c3,rfl⟩:=aM hown');clear hnil;(have HO5:=qh hown');(have HX5:=qh (HX4.out.grown hgrow hlow)));rw[HSN.out]at HO5;go_roundw
   case rel=>exact⟨k+1,A3,c3,by omega,by go_num,rfl,HO5.out,HX5.out⟩
   case measure=>simp[intOf];omega
  ·have hke:k=(ofL ls ins).length:=by omega
   subst hke;have hki:¬ (((ofL ls ins).length:Int)<((ofL ls ins).length:Int)):=by omega
   have hrd:RdS wr A7 (dN ls ins):=by
    have h:=Reads.own HO.out;rw[List.take_of_length_le (by rw[ft];exact Nat.le_refl _)]at h;unfold RdS;rw[ft];exact h
   have HRW:=qh hrd;replace HX:=qh (HX.out.trans HX2.out);clear HO hrd HR2 HI HX2;go_wp2_with fail;refine(C1.out _ (HE.out.ext HX.out) (HA.out.ext HX.out)).mono ?_;rintro e w3⟨rfl,hx1⟩;have C4:=nO (ofI (totC ls ins)) (dN ls ins) A7 c7 w3 (HE.out.ext (HX.out.trans hx1)) (HRW.out.ext hx1) (by have:=HTL.out;omega) (jx _) HWT.out;replace HX:=HX.qt hx1;rw[valI_ofI,ft]at C4;have HSH:Hid ((bU (totC ls ins) ((dN ls ins).map valI)).map ofI=cG ls ins):=qh rfl;rw[HSH.out]at C4;have C4:=qh C4;generalize ofI (totC ls ins)=tc at *;clear hx1 HRW C1;go_wp2_with fail;refine C4.out.mono ?_;rintro e w6⟨P,rfl,hP,hrow,hx1⟩;replace HX:=HX.qt hx1;have HRS:=qh hrow;clear hP hrow hx1 C4;go_wp2_with fail;refine(C3.out _ (HA.out.ext HX.out)).mono ?_;rintro e w7⟨A8,C,rfl,hx1,hr8⟩;obtain⟨g,rfl,hg,hrow⟩:=hr8 (by omega);have HR8:=qh hrow;have hgw:W.heap.size<=g:=Nat.le_trans HX.out.size hg;have HX7:=HX.qt hx1;obtain⟨cur,hrs⟩:=HRS.out;have hPg:P≠g:=by have:=hrs.blk.lt;omega
   have HRS7:Hid (RowS w7 P (ofL ls ins).length (cG ls ins)):=qh ⟨cur,hrs.ext hx1⟩;have HSL:=qh (mP ls ins);have HPV:Hid (bS ls ins=eZ (fun n x=>{ x with c:=(cG ls ins).getD n [] }) ins 0 ls):=qh (by unfold bS;rw[if_neg (by omega)]);clear hr8 hg hrow hx1 hrs HRS C3 HX HS;go_wp2_with fail;go_loopw [55,13,14] (fun i v _ wr=>∃m,m<=ls.length∧i = .int .i64 (m:Nat)∧v = .int .i64 ((ofL (ls.take m) ins).length:Nat)∧aD wr g C (eI (fun n x=>{ x with c:=(cG ls ins).getD n [] }) ins ls m)∧Only g w7 wr) (fun i _ _ _=>ls.length-(intOf i).toNat)
   case atStart=>exact⟨0,by omega,rfl,rfl,by rw[qD];exact HR8.out,Only.refl _ _⟩
   case round =>
    clear HR8;obtain⟨m,hm,rfl,rfl,hr,ho⟩:=hrel;have HR:=qh hr;have HO:=qh ho;clear hr ho;by_cases hlt:m<ls.length
    ·have hmi:(m:Int)<(ls.length:Int):=by omega
     have hm0:(0:Int)<=(m:Int):=by omega
     have hcl:(eI (fun n x=>{ x with c:=(cG ls ins).getD n [] }) ins ls m).length=ls.length:=r7;obtain⟨b,o,hg7,_,d0,d1,d2,d3,d4,d5,d6⟩:=HR.out.reads.at_ (k:=m) (by rw[hcl];exact hlt);injection hg7 with hg7
     injection hg7 with hg7 hg8
     subst hg7 hg8;simp only[Nat.zero_add,mL hlt]at d0 d1 d2 d3 d4 d5 d6;by_cases hi:(ls[m]'hlt).ins=ins
     ·have hat:=wS hlt hi;obtain⟨hq,_⟩:=List.getElem?_eq_some_iff.1 hat;have hhl:=nz hlt hi;have hsl:(ofL (ls.take m) ins).length<(cG ls ins).length:=by rw[HSL.out];exact hq
      obtain⟨cur2,hrs2⟩:=HRS7.out;have hrs3:RdS wr (some ⟨P,0,none⟩) (cG ls ins):=({ hrs2 with blk:=(World.grownBy.block HO.out P hrs2.blk.lt (fun e=>hPg (by injection e))).trans hrs2.blk }:Row wr P _ 1 _ _ _ cur2).reads;obtain⟨b3,o3,e3,hb3,s0⟩:=hrs3.at_ hsl;injection e3 with e3
      injection e3 with e3 e4
      subst e3 e4;simp only[Nat.zero_add]at s0;have hgd:(cG ls ins).getD (ofL (ls.take m) ins).length []=(cG ls ins)[(ofL (ls.take m) ins).length]'hsl:=by simp[hsl]
      have HSET:=qh (HR.out.setc (k:=m) (x:=ls[m]'hlt) (by rw[List.getElem?_eq_getElem (by rw[hcl];exact hlt),mL hlt]) ((cG ls ins)[(ofL (ls.take m) ins).length]'hsl));have hch:=r8 (ch:=fun n x=>{ x with c:=(cG ls ins).getD n [] }) hlt hi;simp only[hgd]at hch;rw[hch]at HSET;have HON:=qh (HO.out.setCell (m*7+5) (.string (bs ((cG ls ins)[(ofL (ls.take m) ins).length]'hsl))));have hfr:=fun k=>HR.out.frozen k
      have hkl:((ofL (ls.take m) ins).length:Int)<((ofL ls ins).length:Int):=by omega
      have hk0:(0:Int)<=((ofL (ls.take m) ins).length:Int):=by omega
      have HHL:=qh hhl;clear hat hch hgd hrs2 hrs3 HR HO hhl;generalize (cG ls ins)[(ofL (ls.take m) ins).length]'hsl=y at *;generalize (ofL (ls.take m) ins).length=q at *;generalize ls[m]'hlt=x at *;obtain⟨xi,xn,xa,xo,xq,xc,xu⟩:=x;simp only at d0 d1 d2 d3 d4 d5 d6 hi;subst hi;go_wp2_with fail;go_roundw
      case rel=>exact⟨m+1,by omega,by go_num,by rw[HHL.out];go_num,HSET.out,HON.out⟩
      case measure=>simp[intOf];omega
     ·have HSK:=qh (HR.out);rw[qF hlt hi]at HSK;have HLL:=qh (mh hlt hi);clear HR;generalize (ofL (ls.take m) ins).length=q at *;generalize ls[m]'hlt=x at *;obtain⟨xi,xn,xa,xo,xq,xc,xu⟩:=x;simp only at d0 d1 d2 d3 d4 d5 d6 hi;have hbe:(xn == ins)=false:=by rw[beq_eq_false_iff_ne];exact hi
      go_wp2_with fail;go_roundw
      case rel=>exact⟨m+1,by omega,by go_num,by rw[HLL.out],HSK.out,HO.out⟩
      case measure=>simp[intOf];omega
    ·have hke:m=ls.length:=by omega
     subst hke;have hki:¬ ((ls.length:Int)<(ls.length:Int)):=by omega
     have HF:=qh HR.out.reads;rw[qE (Nat.le_refl _),←HPV.out]at HF;go_wp2_with fail;go_ret;exact⟨some ⟨g,0,none⟩,C,rfl,HF.out,Ext.only HX7.out HO.out hgw⟩
end
section
open Go.RowKit
theorem AY{n:Bs}(hc:checkI n=0)(hd:bO n<=40)(h0:0<valI n):bR ⟨n,[]⟩ true false=0:=by
 have c1:bV ⟨n,[]⟩=0:=by
  unfold bV;rw[gX,pu];simp[di.1 hc]
 have c2:bO ([]:Bs)=0:=rfl
 have c3:¬ cR (ay ⟨n,[]⟩) 0<0:=fun g=>by
  have:=rH.1 g;rw[gX]at this
  have h2:valI n<0:=by exact_mod_cast this
  omega
 have c4:¬ cR (ay ⟨n,[]⟩) 0=0:=fun g=>by
  have:=qy.1 g;rw[gX]at this
  have h2:valI n=0:=by exact_mod_cast this
  omega
 unfold bR;rw[if_neg (by simp[c1]),if_neg (by show ¬ (40<bO n∨40<bO []);rw[c2];omega),if_neg (by simp[c3,c4])]
def dl(f:FactV)(q:Bs):FactV:={ f with qty:=q }
theorem AZ{f:FactV}{ps:List Fr}{os:List OptV}(h:aU f ps os=0)(hk:f.kind=4){q:Bs}(hc:checkI q=0)(h0:0<valI q)(hd:bO q<=40):aU (dl f q) [] os=0:=by
 obtain⟨sp,e1,e2,e3⟩:∃sp,dg 4=some sp∧sp.bits=[true,false,false,false,true,true,true,false,false,false,true,false,false]∧sp.nums.getD []=iR:=⟨_,rfl,rfl,rfl⟩;obtain⟨h1,h2,h3,h4,h5,h6⟩:=sO h (by omega) (hk ▸ e1);have e4:dg (dl f q).kind=some sp:=by show dg f.kind=some sp;rw[hk];exact e1
 unfold aU;rw[if_neg (by show ¬ isName f.key=false;simp[h1]),if_neg (by show ¬ f.stamp<0;omega),if_neg (by show ¬ f.canc=true;simp[h5]),if_neg (by show ¬ (f.day < -25567∨84005<f.day);omega),e4];refine ez fun j hj=>?_
 have hf:=h6 j hj;match j,hj with
 |0,_=>exact hf
 |1,_=>exact hf
 |2,_=>exact hf
 |3,_=>exact hf
 |4,_ =>
  unfold dM;rw[if_pos (by rw[e2];rfl)];have hl:(sp.nums.getD []).lookup 4=some (true,false):=by rw[e3];rfl
  show(match (sp.nums.getD []).lookup 4 with|some pq=>bR (fZ (dl f q) 4) pq.1 pq.2|none=>0)=0;rw[hl];exact AY hc hd h0
 |5,_=>exact hf
 |6,_=>exact hf
 |7,_=>exact hf
 |8,_=>exact hf
 |9,_=>exact hf
 |10,_ =>
  unfold dM;rw[if_pos (by rw[e2];rfl)];show eJ [] q=0;unfold eJ
  have c:¬ 0<cmpI (fY [] ([]:List Fr).length) (valI q):=by
   show ¬ 0<cmpI 0 (valI q);rw[dq];omega
  rw[if_neg (by simp),if_neg (by simp[cX]),if_neg c]
 |11,_=>exact hf
 |12,_=>exact hf
 |n+13,hj=>exact absurd hj (by omega)
theorem Fo{l:Bs}:bO l<=l.length:=by
 rcases qJ l with ⟨t,rfl,e⟩ | ⟨e,_⟩ | ⟨rfl,e⟩
 ·rw[e];simp
 ·rw[e];exact Nat.le_refl _
 ·rw[e];exact Nat.zero_le _
theorem Fp{ls:List LotV}{f:FactV}{ps:List Fr}{os:List OptV}(hG:bG ls=false)(hall:checkAllL ls=0)(h:aU f ps os=0)(hk:f.kind=4)(h0:0<totQ ls f.ins){n:Nat}(h1:1<=n)(h6:n<=6) :
  SellGo ls (dl f (ofI (totQ ls f.ins))) [] os n∧valI (dl f (ofI (totQ ls f.ins))).qty=totQ ls (dl f (ofI (totQ ls f.ins))).ins:=by
 have e:valI (dl f (ofI (totQ ls f.ins))).qty=totQ ls (dl f (ofI (totQ ls f.ins))).ins:=valI_ofI _
 have hl:(ofI (totQ ls f.ins)).length<=20:=by
  have e2:totQ ls f.ins=aW ((ofL ls f.ins).map (·.q)):=by unfold totQ aW;rw[List.map_map];rfl
  rw[e2];refine gM 13 _ (fun b hb=>?_) ?_
  ·obtain⟨z,hz,rfl⟩:=List.mem_map.1 hb;exact(fI ((cI hG).2 z (bH hz).1)).1
  ·rw[List.length_map];have h1:(ofL ls f.ins).length<=ls.length:=List.length_filter_le _ _;have:=(cI hG).1;omega
 have hd:bO (ofI (totQ ls f.ins))<=40:=Nat.le_trans Fo (by omega);exact⟨⟨⟨hG,hall,AZ h hk (eM _) (by rw[valI_ofI];exact h0) hd,hk⟩,by simpa using h1,by simpa using h6,by simp,Int.le_of_eq e⟩,e⟩
section
variable {ls:List LotV} {f:FactV} {ps:List Fr} {os:List OptV}
theorem SelIn.allCost(h:SelIn ls f ps os)(n:Nat)(hq:valI f.qty=totQ ls f.ins):totC (av ls f n ps) f.ins=totC ls f.ins:=by
 have k:=(h.kept n (by omega)).2;rw[h.bare n hq]at k
 have:totC (aX ls f.ins) f.ins=0:=by
  have e:ofL (aX ls f.ins) f.ins=[]:=by
   unfold ofL aX;rw[List.filter_filter,List.filter_eq_nil_iff];intro x _;simp
  unfold totC;rw[e];rfl
 omega
theorem SelIn.takCost(h:SelIn ls f ps os)(n:Nat)(hq:valI f.qty<=totQ ls f.ins):fX (av ls f n ps)=totC (av ls f n ps) f.ins:=(h.takTot n hq).2.symm
theorem SelIn.pkLen(h:SelIn ls f ps os)(n:Nat)(hq:valI f.qty<=totQ ls f.ins):(aP ls f n ps).length=(bJ ls f n ps).length:=by
 have e:(av ls f n ps).length=(bJ ls f n ps).length:=fK (h.ls n).all (h.pick n hq).1;have e2:(aP ls f n ps).length=(av ls f n ps).length:=m6 (eC (fy f) (av ls f n ps));omega
end
end
section
open Go.RowKit Go.Shelf
attribute [local go_sem] size_bs toList_bs
theorem tE{W W':World}{f:FactV}{P O:Value}(hf:Blk W F 30 (af f P O))(hx:Ext W W') :
  W'.cell? ⟨F,5,none⟩=some (.string (bs f.ins))∧W'.cell? ⟨F,9,none⟩=some (.string (bs f.qty))∧W'.cell? ⟨F,10,none⟩=some (.string (bs f.amt))∧W'.cell? ⟨F,11,none⟩=some (.string (bs f.fee))∧W'.cell? ⟨F,18,none⟩=some P:=by
 have k:=hf.ext hx;exact⟨k.cell 5,k.cell 9,k.cell 10,k.cell 11,k.cell 18⟩
def Fq(gs:List GainV)(z:Int)(w:World)(e:Ending)(w':World):Prop:=∃A1 n1 c1 A2 n2 c2 A3 n3 c3,e = .returned (.tuple #[.agg #[.slice A1 n1 c1,.slice A2 n2 c2,.slice A3 n3 c3,.slice none 0 0],.int .i64 z])∧(z=0->n2=gs.length∧jQ w' A2 gs)∧Ext w w'
def Dy(rs:List LotV)(tq nb tc:Bs)(_w0 w:World)(e:Ending)(w':World):Prop:=∃Ra ra Rb m rb Rc n rc,e = .returned (.tuple #[.agg #[.slice Ra rs.length ra,.slice Rb m rb,.slice Rc n rc,.slice none 0 0],.int .i64 0])∧aG w' Ra rs∧(∀W',Ext w' W'->Calls Tryz.prog 17 #[.slice Rb m rb] W' fun e w''=>e = .returned (.tuple #[.string (bs tq),.string (bs nb),.string (bs tc)])∧Ext W' w'')∧Ext w w'
theorem Iu(ls:List LotV)(A:Option Addr)(c:Nat)(f:FactV)(ps:List Fr)(os:List OptV)(oa:Option Addr)(oq:Nat)(w0:World)(hE:Env w0)(hA:aG w0 A ls)(hO:l8 w0 oa os)(hn:GreatNo f ps os)(hG:bG ls=false)(hall:checkAllL ls=0)(hfe:aU f ps os=0)(hk:f.kind=4)(h0:0<totQ ls f.ins)(k:Nat)(h1:1<=k)(h6:k<=6)(W:World)(hx:Ext w0 W) :
  Calls Tryz.prog 13 #[.slice A ls.length c,az (dl f (ofI (totQ ls f.ins))) (ae none 0 0) (ae oa os.length oq),.int .i64 k] W (Dy (aX ls f.ins) (ofI (totQ ls f.ins)) (fy f) (ofI (totC ls f.ins)) w0 W):=by
 obtain⟨hgo,hq⟩:=Fp hG hall hfe hk h0 h1 h6;have hi:=hgo.inn;have hqg:=hgo.q;have e0:((k:Nat):Int).toNat=k:=by simp
 have hsl:=hi.sale;have hqw:(dl f (ofI (totQ ls f.ins))).qty.length<=41:=hsl.ql
 have hfa:FactAt W (dl f (ofI (totQ ls f.ins))) [] os none oa 0:=by
  obtain⟨n0,n1,n2,n3,n4,n5,n6,n7,n8,n9,n10,n11,n12,n13,n14⟩:=hn;refine⟨⟨by show f.key.length<=9000;omega,by show f.ins.length<=9000;omega,by show f.other.length<=9000;omega,by show f.cur.length<=9000;omega,by show f.tgt.length<=9000;omega,by omega,by show f.amt.length<=9000;omega,by show f.fee.length<=9000;omega,by show f.price.num.length<=9000;omega,by show f.price.den.length<=9000;omega,by show f.ratio.num.length<=9000;omega,by show f.ratio.den.length<=9000;omega,by show f.share.num.length<=9000;omega,by show f.share.den.length<=9000;omega⟩,Reads.nil,by simp,by simp,by simp,hO.ext hx,fun o ho=>?_,by omega⟩;obtain⟨s0,s1,s2,s3,s4,s5,s6⟩:=n14 o ho;exact⟨by omega,by omega,by omega,by omega,by omega,by omega,by omega⟩
 have hs:=qp ls A c (dl f (ofI (totQ ls f.ins))) [] os none oa 0 oq k W (hE.ext hx) (hA.ext hx) hfa hgo;refine hs.mono ?_;rintro e w'⟨Ra,ra,Rb,rb,Rc,rc,rfl,h2,h3,_,hx1⟩;rw[e0]at h2 h3 ⊢;have hb:bP ls (dl f (ofI (totQ ls f.ins))) k []=aX ls f.ins:=hi.bare k hq;obtain⟨gl1,gl2⟩:=hi.gnsLen k hqg;obtain⟨su1,su2,su3⟩:=hi.sums k hqg;have hac:=hi.allCost k hq;rw[hb]at h2 ⊢;refine⟨Ra,ra,Rb,_,rb,Rc,_,rc,rfl,h2,fun W' hx'=>?_,hx1⟩;have:=tx (aP ls (dl f (ofI (totQ ls f.ins))) k []) Rb rb W' (hE.ext (hx.trans (hx1.trans hx'))) (h3.ext hx') (fun g hg=>by have:=gl2 g hg;omega) (by omega);rw[su1,su2,su3,hac,hq]at this
 exact this
def Jg(ls:List LotV)(f:FactV)(m:Int)(w0:World)(v:Value)(wx:World):Prop:=∃A c,v = .slice A ls.length c∧aG wx A (aC ls f.ins m.toNat)∧Ext w0 wx
theorem ul(ls:List LotV)(A:Option Addr)(c:Nat)(f:FactV)(ps:List Fr)(os:List OptV)(pa oa:Option Addr)(pc oq:Nat)(n:Int)(w:World)(hE:Env w)(hL:LawIn w ls A f ps os pa oa pc) :
  Calls Tryz.prog 4 #[.slice A ls.length c,az f (ae pa ps.length pc) (ae oa os.length oq),.int .i64 n] w fun e w'=>e = .returned (.bool true)∧Ext w w':=by
 have HE:=qh hE;have HL:=qh hL;have HB:=qh (Blk.new w 30 (af f (ae pa ps.length pc) (ae oa os.length oq)));have HX:Hid (Ext w (w.alloc (.cells (af f (ae pa ps.length pc) (ae oa os.length oq)) 30))):=qh (Ext.new _ _);have hs1:(Tryz.prog.info? 30).map (·.size)=some (af f (ae pa ps.length pc) (ae oa os.length oq)).toList.length:=by kernel_rfl
 have GR:=qh (fun W (hx:Ext w W)=>uW ls A c f ps os pa oa pc oq W (hL.la.ext hx) (hL.rp.ext hx) (hL.ro.ext hx) hL.np hL.no hL.nl);clear hE hL;go_enter Tryz.func4,Tryz.ntmps4;go_upto_region 1 with fail;generalize w.alloc (.cells (af f (ae pa ps.length pc) (ae oa os.length oq)) 30)=w0 at *;generalize hF0:w.heap.size=F at *;obtain⟨FV,hfv⟩:∃FV,az f (ae pa ps.length pc) (ae oa os.length oq)=FV:=⟨_,rfl⟩;rw[hfv]at GR ⊢;have HFV:Hid (Value.agg (af f (ae pa ps.length pc) (ae oa os.length oq)).toList.toArray=FV):=qh hfv;have HF2:=qh hfv;clear hfv;have hrg:=aE HB.out;go_wp2_with (first|refine cJ (by kernel_rfl) 30 _ rfl F 0 rfl _ _ hrg Tryz.underlying30 rfl hs1 _ HFV.out ?_|fail);refine(GR.out _ HX.out).mono ?_;rintro e w1⟨⟨b,rfl,hb⟩,hx1⟩;replace HX:=HX.qt hx1;replace HB:=qh (HB.out.ext hx1);clear hx1 GR hrg
 cases b;rotate_left
 ·clear hb;go_wp2_with fail;refine(dp _ (HE.out.ext HX.out)).mono ?_;rintro e v9⟨rfl,hx1⟩;replace HX:=HX.qt hx1;clear hx1;go_wp2_with fail;go_ret;exact⟨rfl,HX.out⟩
 obtain⟨hg,hn⟩:=hb rfl;have HG:=qh hg;have HN:=qh hn;have HFA:=qh (HL.out.fact hn);have hsm:=bM hg;have hln:ls.length<=100000:=by have:=(cI hg).1;omega
 have CA:=qh (fun W (hx:Ext w W)=>cT ls A c W (HE.out.ext hx) (HL.out.la.ext hx) hsm hln);have CT:=qh (fun W (hx:Ext w W)=>eu ls A c f.ins W (HE.out.ext hx) (HL.out.la.ext hx) hsm hln);have FC:=qh (fun W (hx:Ext w W)=>kY f ps os pa oa pc oq W (HFA.out.ext hx) HL.out.wf (HE.out.ext hx));rw[HF2.out]at FC;clear hb hg hn hsm;have x4:=HB.out.cell 4;simp only[List.getElem?_toArray,List.getElem?_cons_zero,List.getElem?_cons_succ]at x4;by_cases hkd:f.kind=4;rotate_left
 ·have g1:(f.kind != 4)=true:=by rw[bne_iff_ne];exact hkd
  clear hkd;go_wp2_with fail;refine(dp _ (HE.out.ext HX.out)).mono ?_;rintro e v9⟨rfl,hx1⟩;replace HX:=HX.qt hx1;clear hx1;go_wp2_with fail;go_ret;exact⟨rfl,HX.out⟩
 have g1:(f.kind != 4)=false:=by rw[bne_eq_false_iff_eq];exact hkd
 have HKD:=qh hkd;clear hkd;have hrg:=aE HB.out;go_wp2_with (first|refine cJ (by kernel_rfl) 30 _ rfl F 0 rfl _ _ hrg Tryz.underlying30 rfl hs1 _ HFV.out ?_|fail);refine(FC.out _ HX.out).mono ?_;rintro e w3⟨rfl,hx1⟩;replace HX:=HX.qt hx1;replace HB:=qh (HB.out.ext hx1);clear hx1 hrg FC x4 g1;by_cases hfe:aU f ps os=0;rotate_left
 ·have g1:(aU f ps os != 0)=true:=by rw[bne_iff_ne];exact hfe
  generalize aU f ps os=z at *;clear hfe;go_wp2_with fail;refine(dp _ (HE.out.ext HX.out)).mono ?_;rintro e v9⟨rfl,hx1⟩;replace HX:=HX.qt hx1;clear hx1;go_wp2_with fail;go_ret;exact⟨rfl,HX.out⟩
 rw[hfe];have HFE:=qh hfe;clear hfe;go_wp2_with fail;refine(CA.out _ HX.out).mono ?_;rintro e w2⟨rfl,hx1⟩;replace HX:=HX.qt hx1;replace HB:=qh (HB.out.ext hx1);clear hx1 CA;by_cases hall:checkAllL ls=0;rotate_left
 ·have g1:(checkAllL ls != 0)=true:=by rw[bne_iff_ne];exact hall
  generalize checkAllL ls=z at *;clear hall;go_wp2_with fail;refine(dp _ (HE.out.ext HX.out)).mono ?_;rintro e v9⟨rfl,hx1⟩;replace HX:=HX.qt hx1;clear hx1;go_wp2_with fail;go_ret;exact⟨rfl,HX.out⟩
 rw[hall];have HAL:=qh hall;clear hall
 have SX:Hid (∀W,Ext w W->Calls Tryz.prog 13 #[.slice A ls.length c,az f (ae pa ps.length pc) (ae oa os.length oq),.int .i64 n] W (Fq (aP ls f n.toNat ps) (cN ls f ps os n) W)):=qh (fun W hx=>by
  by_cases hz:cN ls f ps os n=0
  ·refine(qp ls A c f ps os pa oa pc oq n W (HE.out.ext hx) (HL.out.la.ext hx) (HFA.out.ext hx) (j5 HG.out hz)).mono ?_;rintro e w'⟨Ra,ra,Rb,rb,Rc,rc,rfl,_,h3,_,hx1⟩;exact⟨_,_,_,_,_,_,_,_,_,by rw[hz],fun _=>⟨rfl,h3⟩,hx1⟩
  ·refine(yh ls A c f ps os pa oa pc oq n W (HE.out.ext hx) (HL.out.la.ext hx) (HFA.out.ext hx) HL.out.wf HG.out hz).mono ?_;rintro e w'⟨rfl,hx1⟩;exact⟨_,_,_,_,_,_,_,_,_,rfl,fun h=>absurd h hz,hx1⟩)
 rw[HF2.out]at SX;have HGO:=qh (fun h:cN ls f ps os n=0=>j5 HG.out h);have hrg:=aE HB.out;generalize hze:cN ls f ps os n=z at *;clear hze;go_wp2_with (first|refine cJ (by kernel_rfl) 30 _ rfl F 0 rfl _ _ hrg Tryz.underlying30 rfl hs1 _ HFV.out ?_|fail);refine(SX.out _ HX.out).mono ?_;rintro e w4⟨A1,n1,c1,A2,n2,c2,A3,n3,c3,rfl,hgs,hx1⟩;have hxn:=Ext.new w4 (.cells #[.slice A1 n1 c1,.slice A2 n2 c2,.slice A3 n3 c3,.slice none 0 0] 39);have hx2:=hx1.trans hxn;have HR:=qh (Blk.new w4 39 #[.slice A1 n1 c1,.slice A2 n2 c2,.slice A3 n3 c3,.slice none 0 0]);have HGS:=qh (fun h=>(hgs h));have HXN:=qh hxn;replace HX:=HX.qt hx2;replace HB:=qh (HB.out.ext hx2);clear hx1 hx2 hxn hrg SX hgs;go_upto_region 4 with fail;generalize w4.alloc (.cells #[.slice A1 n1 c1,.slice A2 n2 c2,.slice A3 n3 c3,.slice none 0 0] 39)=W4 at *;generalize w4.heap.size=R at *;go_upto_if 53 with fail
 go_cut [] (fun wx=>Ext W4 wx)
 case first =>
  by_cases hz:z=0;rotate_left
  ·have gz:(z == 0)=false:=by rw[beq_eq_false_iff_ne];exact hz
   go_wp2_with fail;go_meet
   exact Ext.refl _
  have gz:(z == 0)=true:=by rw[beq_iff_eq];exact hz
  have hgo:=HGO.out hz;obtain⟨hnl,hrd⟩:=HGS.out hz;subst hnl;replace hrd:=hrd.ext HXN.out;have HRG:=qh hrd;have HI:=qh hgo.inn;have HQ:=qh hgo.q;have hnn:=hgo.m_;have hn1:=hgo.n1;have hn6:=hgo.n6;clear hz HGO HGS hgo hrd HXN;have l:=HI.out.ls n.toNat;have hlen:(aC ls f.ins n.toNat).length=ls.length:=fV ls f.ins n.toNat
  have h0:0<(ofL ls f.ins).length:=by
   have hp:=HI.out.pos n.toNat HQ.out;have h1:=(HI.out.pick n.toNat HQ.out).1.len;rcases Nat.eq_zero_or_pos (ofL ls f.ins).length with h|h
   ·have h2:=HI.out.sale.q0;have h3:totQ ls f.ins=0:=by unfold totQ;rw[List.length_eq_zero_iff.1 h];rfl
    have:=HQ.out;omega
   ·exact h
  have CP:=qh (fun W (hx:Ext w W)=>yA ls A c f.ins W (HE.out.ext hx) (HL.out.la.ext hx) (bM HG.out) (ap HAL.out).1 h0 (Bx f.ins (bM HG.out) HAL.out h0));have CH:=qh (fun W A' c' (hx:Ext w W) (hr:aG W A' (aC ls f.ins n.toNat))=>(my (aC ls f.ins n.toNat) f.ins f.qty n.toNat ps (HI.out.chs hn1 hn6) A' pa c' pc W (HE.out.ext hx) hr (HFA.out.rp.ext hx)).1 (by rw[l.q];exact HQ.out));rw[hlen,hnn]at CH;have hpk:=(HI.out.pick n.toNat HQ.out).1;have htf:=HI.out.takFine n.toNat HQ.out
  have htl:(av ls f n.toNat ps).length<=1000:=by
   have e:(av ls f n.toNat ps).length=(bJ ls f n.toNat ps).length:=fK l.all hpk;have h1:(ofL (aC ls f.ins n.toNat) f.ins).length<=(aC ls f.ins n.toNat).length:=List.length_filter_le _ _;have:=hpk.len;have:=(ap l.all).1;omega
  have cc:∀A' c' PA pc' W,(bJ ls f n.toNat ps).length<=pc'->Ext w W->aG W A' (aC ls f.ins n.toNat)->dS W PA (bJ ls f n.toNat ps)->Calls Tryz.prog 24 #[.slice A' ls.length c',.slice PA (bJ ls f n.toNat ps).length pc'] W fun e w'=>e = .returned (.tuple #[.string (bs (ofI (totC (av ls f n.toNat ps) f.ins))),.int .i64 0])∧Ext W w':=fun A' c' PA pc' W hpc hx hr hp=>by
   have:=wj (aC ls f.ins n.toNat) (bJ ls f n.toNat ps) hpk.ok l.sm l.all (by have:=hpk.len;have h1:(ofL (aC ls f.ins n.toNat) f.ins).length<=(aC ls f.ins n.toNat).length:=List.length_filter_le _ _;have:=(ap l.all).1;omega) (fun p hp=>by have:=hpk.short p hp;omega) (fun x hx=>(htf x hx).small (by decide)) (by have:=htl;show(av ls f n.toNat ps).length<=100000;omega) A' PA c' pc' hpc W (HE.out.ext hx) hr hp;rw[hlen,show fX (ax (aC ls f.ins n.toNat) (bJ ls f n.toNat ps)).2=fX (av ls f n.toNat ps) from rfl,HI.out.takCost n.toNat HQ.out]at this
   exact this
  have CC:=qh cc;obtain⟨gl1,gl2⟩:=HI.out.gnsLen n.toNat HQ.out;have su3:=(HI.out.sums n.toNat HQ.out).2.2;have hpl:=HI.out.pkLen n.toNat HQ.out
  have SU:Hid (∀W,Ext w W->jQ W A2 (aP ls f n.toNat ps)->Calls Tryz.prog 17 #[.slice A2 (aP ls f n.toNat ps).length c2] W fun e w'=>(∃s1 s2,e = .returned (.tuple #[.string s1,.string s2,.string (bs (ofI (totC (av ls f n.toNat ps) f.ins)))]))∧Ext W w'):=qh (fun W hx h=>(tx (aP ls f n.toNat ps) A2 c2 W (HE.out.ext hx) h (fun g hg=>by have:=gl2 g hg;omega) (by omega)).mono (by
   rintro e w'⟨rfl,hx1⟩;exact⟨⟨_,_,by rw[su3]⟩,hx1⟩))
  have hcs:n≠6->aC ls f.ins n.toNat=ls:=fun h=>by unfold aC;rw[if_neg (by omega)]
  have hcp:n=6->aC ls f.ins n.toNat=bS ls f.ins:=fun h=>by unfold aC;rw[if_pos (by omega)]
  have HCS:=qh hcs;have HCP:=qh hcp;have HPL:=qh hpl;have hpkk:bJ ls f n.toNat ps=(choose (aC ls f.ins n.toNat) f.ins f.qty ((n.toNat:Nat):Int) ps).out:=rfl;rw[hnn]at hpkk;have HPK:=qh hpkk;clear l hlen h0 hpk hpkk htf htl cc gl1 gl2 su3 hpl hcs hcp hnn hn1 hn6 HI HQ HG HN HAL HKD HFE CT;generalize av ls f n.toNat ps=tk at *;generalize bJ ls f n.toNat ps=pk at *;generalize aP ls f n.toNat ps=gs at *;generalize ofI (totC tk f.ins)=tc at *;go_upto_if 56 with fail
  go_cut [9] (fun v9 wx=>Jg ls f n W4 v9 wx)
  case first =>
   obtain⟨p5,p9,p10,p11,p18⟩:=tE HB.out (Ext.refl _);by_cases h6:n=6
   ·have g6:(n == 6)=true:=by rw[beq_iff_eq];exact h6
    have HCP2:=qh (HCP.out h6);clear h6 HCS HCP;go_wp2_with fail;refine(CP.out _ HX.out).mono ?_;rintro e w5⟨A9,c9,rfl,hr9,hx1⟩;rw[←HCP2.out]at hr9;have HR9:=qh hr9;have HX9:=qh hx1;clear hx1 hr9 CP p5 p9 p10 p11 p18;go_wp2_with fail;go_meet
    exact⟨A9,c9,rfl,HR9.out,HX9.out⟩
   ·have g6:(n == 6)=false:=by rw[beq_eq_false_iff_ne];exact h6
    have HCS2:=qh (HCS.out h6);clear h6 HCS HCP;go_wp2_with fail;go_meet
    exact⟨A,c,rfl,by rw[HCS2.out];exact HL.out.la.ext HX.out,Ext.refl _⟩
  case rest =>
   obtain⟨A9,c9,rfl,hr9,hx1⟩:=hcut;have HR9:=qh hr9;have HXX:=qh hx1;replace HX:=HX.qt hx1;replace HB:=qh (HB.out.ext hx1);replace HR:=qh (HR.out.ext hx1);replace HRG:=qh (HRG.out.ext hx1);clear hr9 hx1 HCS HCP CP;obtain⟨p5,p9,p10,p11,p18⟩:=tE HB.out (Ext.refl _);go_wp2_with fail;refine(CH.out _ _ _ HX.out HR9.out).mono ?_;rintro e w6⟨v,rfl,ho,hx1⟩;rw[←HPK.out]at ho;obtain⟨A5,c5,rfl⟩:=aM ho;have HRP:=qh ho.rd;have hcap:=(own_cap ho).1;replace HX:=HX.qt hx1;replace HB:=qh (HB.out.ext hx1);replace HXX:=HXX.qt hx1;replace HR:=qh (HR.out.ext hx1);replace HRG:=qh (HRG.out.ext hx1);replace HR9:=qh (HR9.out.ext hx1);clear hx1 ho CH p5 p9 p10 p11 p18;go_wp2_with fail;refine(CC.out _ _ _ _ _ hcap HX.out HR9.out HRP.out).mono ?_;rintro e w7⟨rfl,hx1⟩;replace HX:=HX.qt hx1;replace HB:=qh (HB.out.ext hx1);replace HXX:=HXX.qt hx1;replace HR:=qh (HR.out.ext hx1);replace HRG:=qh (HRG.out.ext hx1);clear hx1 CC HR9 HRP;have r1:=HR.out.cell 1;simp only[List.getElem?_toArray,List.getElem?_cons_zero,List.getElem?_cons_succ]at r1;go_wp2_with fail;refine(SU.out _ HX.out HRG.out).mono ?_;rintro e w8⟨⟨s1,s2,rfl⟩,hx1⟩;replace HX:=HX.qt hx1;replace HB:=qh (HB.out.ext hx1);replace HXX:=HXX.qt hx1;replace HR:=qh (HR.out.ext hx1);clear hx1 SU r1 HRG;have r1:=HR.out.cell 1;simp only[List.getElem?_toArray,List.getElem?_cons_zero,List.getElem?_cons_succ]at r1;rw[HPL.out]at r1;clear HPL;generalize pk.length=m at *;go_wp2_with fail;go_meet
   exact HXX.out
 case rest =>
  have hx1:=hcut;replace HX:=HX.qt hx1;replace HB:=qh (HB.out.ext hx1);clear hx1 hcut HR HGO HGS HXN;have hgr:=cI HG.out;have hsm:=bM HG.out;have hlq:=iL f.ins ls.length hsm (by omega);have hol:(aX ls f.ins).length<=100000:=Nat.le_trans (List.length_filter_le _ _) (by omega);have SB:=qh (fun W (hx:Ext w W)=>ln f.amt f.fee (by have:=HN.out.amt;omega) (by have:=HN.out.fee;omega) W (HE.out.ext hx));rw[show ofI (valI f.amt-valI f.fee)=fy f from rfl]at SB;have OA:=qh (fun W (hx:Ext w W)=>tz ls A c f.ins W (HL.out.la.ext hx) (by omega))
  have SM:Hid (∀W B C b d,aG W B (aX ls f.ins)->aG W C (aX ls f.ins)->Calls Tryz.prog 20 #[.slice B (aX ls f.ins).length b,.slice C (aX ls f.ins).length d] W fun e w'=>e = .returned (.bool true)∧Ext W w'):=qh (fun W B C b d h1 h2=>(pU _ _ B C b d W h1 h2 (by omega) (by omega)).mono (by
   rintro e w'⟨rfl,hx⟩;exact⟨by simp,hx⟩))
  have SA:=qh (fun h0 k h1 h6 W hx=>Iu ls A c f ps os oa oq w HE.out HL.out.la HL.out.ro HN.out HG.out HAL.out HFE.out HKD.out h0 k h1 h6 W hx)
  have HQ0:Hid (0<=totQ ls f.ins):=qh (by
   unfold totQ;refine dY _ fun z hz=>?_
   obtain⟨y,hy,rfl⟩:=List.mem_map.1 hz;exact Int.le_of_lt (bh ((ap HAL.out).2 y (bH hy).1)).2.2.1)
  have HQZ:Hid ((ofI (totQ ls f.ins)).isEmpty=decide (totQ ls f.ins=0)):=qh (BJ _);have hsc:∀P,af (dl f (ofI (totQ ls f.ins))) P (ae oa os.length oq)=#[.string (bs f.key),.int .i64 f.stamp,.bool f.canc,.int .i64 f.day,.int .i64 f.kind,.string (bs f.ins),.string (bs f.other),.string (bs f.cur),.string (bs f.tgt),.string (bs (ofI (totQ ls f.ins))),.string (bs f.amt),.string (bs f.fee),.string (bs f.price.num),.string (bs f.price.den),.string (bs f.ratio.num),.string (bs f.ratio.den),.string (bs f.share.num),.string (bs f.share.den),P,ae oa os.length oq,.int .i64 f.choice]:=fun _=>rfl
  have HSC:=qh hsc;have hs3:(Tryz.prog.info? 30).map (·.size)=some (af (dl f (ofI (totQ ls f.ins))) (ae none 0 0) (ae oa os.length oq)).toList.length:=by kernel_rfl
  clear hgr hsm hlq hol hsc HG HN HAL HFE HKD HFA;generalize hZ:totQ ls f.ins=zq at *;generalize hqs:ofI zq=tq at *;generalize ofI (totC ls f.ins)=tc at *;generalize fy f=nb at *;generalize aX ls f.ins=rs at *;generalize hwf:dl f tq=wf at *;clear hZ hqs hwf;obtain⟨p5,p9,p10,p11,p18⟩:=tE HB.out (Ext.refl _);go_wp2_with fail;refine(CT.out _ HX.out).mono ?_;rintro e w5⟨rfl,hx1⟩;replace HX:=HX.qt hx1;replace HB:=qh (HB.out.ext hx1);clear hx1 CT p5 p9 p10 p11 p18;by_cases hz:zq=0
  ·have q1:tq.isEmpty=true:=by rw[HQZ.out];simpa using hz
   clear hz SA HQZ HQ0 hs3 HSC SB OA SM;go_wp2_with fail;refine(dp _ (HE.out.ext HX.out)).mono ?_;rintro e v9⟨rfl,hx1⟩;replace HX:=HX.qt hx1;clear hx1;go_wp2_with fail;go_ret;exact⟨rfl,HX.out⟩
  have q1:tq.isEmpty=false:=by rw[HQZ.out];simpa using hz
  have SA2:=qh (SA.out (by have:=HQ0.out;omega));clear hz SA HQZ HQ0;have hrg:=aE HB.out;have HZ:=qh (Blk.new w5 30 xz);have hth:World.there _ w5.heap.size 0 (af f (ae pa ps.length pc) (ae oa os.length oq)).size:=(jE HZ.out:World.there _ w5.heap.size 0 (xz:Array Value).size);have hs2:(Tryz.prog.info? 30).map (·.size)=some (af f (ae pa ps.length pc) (ae oa os.length oq)).size:=by kernel_rfl
  have hoc:(af f (ae pa ps.length pc) (ae oa os.length oq)).all (·.oneCell')=true:=by simp[Value.oneCell']
  have HC:=qh (kw (w:=_) (xs:=xz.toList) (ys:=(af f (ae pa ps.length pc) (ae oa os.length oq)).toList) (show Blk _ _ _ xz.toList.toArray from HZ.out) rfl);have HXF:=qh (ext_sets (af f (ae pa ps.length pc) (ae oa os.length oq)).toList 0 _ () (Ext.new w5 (.cells xz 30)) (Nat.le_refl w5.heap.size));go_upto_region 17 with (first|(refine bX (by kernel_rfl) 30 _ rfl F 0 rfl _ _ hrg Tryz.underlying30 rfl hs1 ?_)|(refine wpList_store_mid rfl 30 _ _ rfl w5.heap.size 0 (af f (ae pa ps.length pc) (ae oa os.length oq)) rfl rfl hth hs2 hoc ?_)|fail)
  clear HZ hth hs2 hoc hrg;generalize World.setCells (w5.alloc (.cells xz 30)) w5.heap.size 0 (af f (ae pa ps.length pc) (ae oa os.length oq)).toList=W6 at *;obtain⟨S,hS⟩:∃S,w5.heap.size=S:=⟨_,rfl⟩;have hSw:w.heap.size<=S:=by rw[←hS];exact HX.out.size
  have hFS:F≠S:=by have:=HB.out.lt;omega
  rw[hS]at HC ⊢;replace HC:Hid (Blk W6 S 30 (af f (ae pa ps.length pc) (ae oa os.length oq))):=HC;have hx1:=HXF.out;replace HX:=HX.qt hx1;replace HB:=qh (HB.out.ext hx1);clear hx1 HXF hS;have c9:=HC.out.cell 9;have f9:=HC.out.frozen 9;have H9:Hid (Blk (W6.setCell ⟨S,9,none⟩ (.string (bs tq))) S 30 #[.string (bs f.key),.int .i64 f.stamp,.bool f.canc,.int .i64 f.day,.int .i64 f.kind,.string (bs f.ins),.string (bs f.other),.string (bs f.cur),.string (bs f.tgt),.string (bs tq),.string (bs f.amt),.string (bs f.fee),.string (bs f.price.num),.string (bs f.price.den),.string (bs f.ratio.num),.string (bs f.ratio.den),.string (bs f.share.num),.string (bs f.share.den),ae pa ps.length pc,ae oa os.length oq,.int .i64 f.choice]):=qh (HC.out.set_ 9 (.string (bs tq)));have c18:=H9.out.cell 18;have f18:=H9.out.frozen 18;have HW:Hid (Blk ((W6.setCell ⟨S,9,none⟩ (.string (bs tq))).setCell ⟨S,18,none⟩ (.slice none 0 0)) S 30 (af wf (ae none 0 0) (ae oa os.length oq))):=qh (by rw[HSC.out];exact H9.out.set_ 18 (.slice none 0 0));have hx2:Ext w ((W6.setCell ⟨S,9,none⟩ (.string (bs tq))).setCell ⟨S,18,none⟩ (.slice none 0 0)):=(HX.out.setCell hSw _).setCell hSw _;have HFB:Hid (Blk ((W6.setCell ⟨S,9,none⟩ (.string (bs tq))).setCell ⟨S,18,none⟩ (.slice none 0 0)) F 30 (af f (ae pa ps.length pc) (ae oa os.length oq))):=qh ((HB.out.far hFS _).far hFS _);simp only[List.getElem?_toArray,List.getElem?_cons_zero,List.getElem?_cons_succ]at c9 c18;go_upto_region 18 with fail;clear c9 f9 H9 c18 f18 HC HB HX;generalize ((W6.setCell ⟨S,9,none⟩ (.string (bs tq))).setCell ⟨S,18,none⟩ (.slice none 0 0))=W9 at *;have HX:=qh hx2;clear hx2 hSw hFS;obtain⟨AV,hav⟩:∃AV,az wf (ae none 0 0) (ae oa os.length oq)=AV:=⟨_,rfl⟩;rw[hav]at SA2;have HAV:Hid (Value.agg (af wf (ae none 0 0) (ae oa os.length oq)).toList.toArray=AV):=qh hav;clear hav;go_wp2_with fail;go_loopw [20,22,23,24,25] (fun i _ _ _ _ wr=>∃k:Nat,1<=k∧k<=7∧i = .int .i64 k∧Ext W9 wr) (fun i _ _ _ _ _=>7-(intOf i).toNat)
  case atStart=>exact⟨1,by omega,by omega,rfl,Ext.refl _⟩
  case round =>
   obtain⟨k,hk1,hk7,rfl,hx⟩:=hrel;have HXX:=qh hx;clear hx;by_cases hlt:k<=6;rotate_left
   ·have hke:k=7:=by omega
    subst hke;replace HX:=qh (HX.out.trans HXX.out);clear HXX;go_wp2_with fail;refine(dp _ (HE.out.ext HX.out)).mono ?_;rintro e v9⟨rfl,hx1⟩;replace HX:=HX.qt hx1;clear hx1;go_wp2_with fail;go_ret;exact⟨rfl,HX.out⟩
   have hki:(k:Int)<=6:=by omega
   have hk0:(0:Int)<=(k:Int):=by omega
   have S5:=qh (SA2.out k hk1 hlt);have HWk:=qh (HW.out.ext HXX.out);have hrg:=aE HWk.out;go_wp2_with (first|refine cJ (by kernel_rfl) 30 _ rfl S 0 rfl _ _ hrg Tryz.underlying30 rfl hs3 _ HAV.out ?_|fail);refine(S5.out _ (HX.out.trans HXX.out)).mono ?_;rintro e w10⟨Ra,ra,Rb,m,rb,Rc,n4,rc,rfl,hr1,hsu,hx1⟩;have hxn:=Ext.new w10 (.cells #[.slice Ra rs.length ra,.slice Rb m rb,.slice Rc n4 rc,.slice none 0 0] 39);have HR:=qh (Blk.new w10 39 #[.slice Ra rs.length ra,.slice Rb m rb,.slice Rc n4 rc,.slice none 0 0]);have HR1:=qh (hr1.ext hxn);have HSU:=qh (hsu _ hxn);replace HXX:=qh (HXX.out.trans (hx1.trans hxn));clear hx1 hxn hr1 hsu hrg S5 HWk;go_upto_region 22 with fail;generalize w10.alloc (.cells #[.slice Ra rs.length ra,.slice Rb m rb,.slice Rc n4 rc,.slice none 0 0] 39)=W10 at *;generalize w10.heap.size=R2 at *;have r1:=HR.out.cell 1;simp only[List.getElem?_toArray,List.getElem?_cons_zero,List.getElem?_cons_succ]at r1;go_wp2_with fail;refine HSU.out.mono ?_;rintro e w11⟨rfl,hx1⟩;replace HXX:=HXX.qt hx1;replace HR:=qh (HR.out.ext hx1);replace HR1:=qh (HR1.out.ext hx1);clear hx1 HSU r1;obtain⟨p5,p9,p10,p11,p18⟩:=tE HFB.out HXX.out;have r0:=HR.out.cell 0;simp only[List.getElem?_toArray,List.getElem?_cons_zero]at r0;go_upto_region 23 with fail;have HD:Hid (Ext w11 w11.drew):=qh (Ext.refl w11).drew
   go_region_held3 (fun w'=>w'.cell? ⟨F,5,none⟩=some (.string (bs f.ins))∧w'.cell? ⟨F,10,none⟩=some (.string (bs f.amt))∧w'.cell? ⟨F,11,none⟩=some (.string (bs f.fee))∧w'.cell? ⟨R2,0,none⟩=some (.slice Ra rs.length ra))
    (go_keep)
    (first
     |(go_at_call 18;((with_reducible refine(SB.out _ (HX.out.trans (HXX.out.trans HD.out))).mono ?_);rintro e w12⟨rfl,hx⟩);(replace HD:=HD.qt hx);(obtain⟨p5,p9,p10,p11,p18⟩:=tE HFB.out (HXX.out.trans HD.out));(have r0:=(HR.out.ext HD.out).cell 0);clear hx)
     |(go_at_call 21;((with_reducible refine(OA.out _ (HX.out.trans (HXX.out.trans HD.out))).mono ?_);rintro e w13⟨⟨A7,c7,rfl,hq7⟩,hx⟩);(replace HD:=HD.qt hx);(have HQ7:=qh hq7);(obtain⟨p5,p9,p10,p11,p18⟩:=tE HFB.out (HXX.out.trans HD.out));(have r0:=(HR.out.ext HD.out).cell 0);clear hx hq7)
     |(go_at_call 20;((with_reducible refine(SM.out _ _ _ _ _ (HR1.out.ext HD.out) HQ7.out).mono ?_);rintro e w14⟨rfl,hx⟩);(replace HD:=HD.qt hx);(obtain⟨p5,p9,p10,p11,p18⟩:=tE HFB.out (HXX.out.trans HD.out));(have r0:=(HR.out.ext HD.out).cell 0);clear hx HQ7)
     |fail)
   all_goals
    go_wp2_with fail;go_roundw
    case rel=>exact⟨k+1,by omega,by omega,by go_num,HXX.out.trans HD.out⟩
    case measure=>simp[intOf];omega
end
section
open Go.RowKit Go.Shelf
theorem dlMethods(ls:List LotV)(A:Option Addr)(c:Nat)(f:FactV)(ps:List Fr)(os:List OptV)(pa oa:Option Addr)(pc oq:Nat)(n:Int)(W:World)(hR:aG W A ls)(_:ls.length<=c)(hn:ls.length<=4611686018427387904)(hF:FactIn W f ps os pa oa pc oq)(hE:Env W) :
  Calls Tryz.prog 4 #[.slice A ls.length c,az f (ae pa ps.length pc) (ae oa os.length oq),.int .i64 n] W fun e w'=>e = .returned (.bool true)∧Ext W w' :=
 ul ls A c f ps os pa oa pc oq n W hE ⟨hR,hF.rp,hF.cp,hF.ro,hF.wf,hn,hF.np,hF.no⟩
end
end Go.Proofs.YtaegjkllenlfpaaGreatDoor
