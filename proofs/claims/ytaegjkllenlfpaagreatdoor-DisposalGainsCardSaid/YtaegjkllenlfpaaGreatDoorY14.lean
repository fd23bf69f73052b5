/- The seat's texts, part Y14. -/
import Derived.Test.YtaegjkllenlfpaaGreatDoorY13
set_option maxRecDepth 100000
set_option maxHeartbeats 8000000
namespace Go.Proofs.YtaegjkllenlfpaaGreatDoor
open Tryz
variable {l base k j:Nat}{t e:TypeId}{cs cb:Array Value}{w' W'':World}{v O:Value}{A:Option Addr}
section
open Go.RowKit Go.Shelf
attribute [local go_sem] size_bs toList_bs Oper.semAt_some
def eK(W W':World):Prop:=∀(g:Nat) (cs:Array Value),Blk W g 24 cs->Blk W' g 24 cs
def wK(J:Nat->World->Prop)(k:Nat)(W:World)(e:Ending)(W':World):Prop:=e = .returned (.bool true)∧J (k+1) W'∧eK W W'
theorem G7(n l B:Nat)(w:World)(xs:List LotV)(A:Option Addr)(c:Nat)(t:Bs)(hE:Env w)(hA:aK w A xs)(hn:xs.length<=1000)(h0:0<xs.length)(ht:t.length<=3000)(htc:checkI t=0)(hWt:WtOK (xs.map (·.q)))(J:Nat->World->Prop)
  (hJ:∀k W,J k W->Ext w W∧Blk W B 22 #[.slice A xs.length c]∧Blk W (B+1) 24 #[.string (bs t)]) (hX:∀k W W',J k W->Ext W W'->J k W')
  (hY:∀k (hk:k<xs.length) (y:Bs) W,((bZ (valI t) ((xs.map (·.q)).map valI)).map ofI)[k]? = some y->J k W->YieldAt Fence.wide (n-1) prog l #[lv (xs[k]'hk),.string (bs y)] W (wK J k W)) (W:World) (hW0:J 0 W) :
  CallsIn Fence.wide n prog 198 #[.func (.yield l) #[] #[],.pointer (some ⟨B,0,none⟩),.pointer (some ⟨B+1,0,none⟩)] W fun e W'=>(∃v,e = .returned v)∧J xs.length W':=by
 have hfn:∀k,Fence.wide.fn k:=fun _=>trivial
 have hdp:Fence.wide.depth.isSome=false:=rfl;have HE:=qh hE;have HA:=qh hA;have HJ:=qh hJ;have HX:=qh hX;have HY:=qh hY;have H0:=qh hW0;have HWT:=qh hWt;obtain⟨i0,hI,hz0,hz1,hz2⟩:=Ny strInfo;have HI:=qh hI;clear hE hA hJ hX hY hW0 hWt hI;obtain⟨e0,b0,b1⟩:=HJ.out 0 W H0.out;have q0:=b0.cell 0;simp only[Mk,Mm]at q0;clear e0 b0 b1;refine Sd func198 rfl trivial ?_ rfl;simp only[ntmps198,Nh,MG,Ns,Nat.reduceAdd,Nat.reduceSub,Ov,Ow,OU,OA,ML,MZ];gi_wp2
 gi_loopw [13,4] (fun i v4 wr=>∃k A7 c7,k<=xs.length∧i = .int .i64 (k:Nat)∧v4 = .slice A7 k c7∧wr.ownsRow W.heap.size 24 1 v4 k (scells ((xs.map (·.q)).take k))∧Ext W wr) (fun i _ _=>xs.length-(intOf i).toNat)
 case atStart=>exact⟨0,none,0,by omega,rfl,rfl,by simpa[scells] using NF _ _ _ _,iD _⟩
 case round =>
  clear q0;obtain⟨k,A7,c7,hk,rfl,rfl,how,hx⟩:=hrel;have HO:=qh how;have HJ0:=qh (HX.out 0 W wr H0.out hx);have HX2:=qh hx;clear how hx;have HXW:=qh (HJ.out 0 wr HJ0.out).1;by_cases hlt:k<xs.length
  ·obtain⟨b,o,hA2,hbl,d0,d1,d2,d3,d4,d5,d6⟩:=(HA.out.ext HXW.out).at_ hlt;subst hA2;have hki:(k:Int)<(xs.length:Int):=by omega
   have hk0:(0:Int)<=(k:Int):=by omega
   have hqx:(xs.map (·.q))[k]? = some (xs[k]'hlt).q:=by rw[Oo,Mr hlt];rfl
   have HSN:=qh (lH _ hqx);have BX:=qh (ID wr 62 (lc (xs[k]'hlt)));have HX3:=qh (Id wr (.cells (lc (xs[k]'hlt)) 62));generalize xs[k]'hlt=x at *;obtain⟨xi,xn,xa,xo,xq,xc,xu⟩:=x;simp only at d0 d1 d2 d3 d4 d5 d6 HSN;have HX4:=qh (HX3.out.alloc (.cells #[.string (bs xq)] 24));have HO4:=qh (own_ext2 HO.out HX4.out);have HJ4:=qh (HX.out _ _ _ HJ0.out HX4.out);have HX5:=qh (HX2.out.trans HX4.out);obtain⟨x0,x1,x2,x3,x4,x5,x6⟩:=ap BX.out (iD _);have hsz:=HX5.out.size;have hlow:=own_base HO4.out;clear hqx BX HO HJ0 HX2 HX3;simp only at *;generalize hw5:wr.alloc (.cells #[.string (bs xi),.string (bs xn),.int .i64 xa,.int .i64 xo,.string (bs xq),.string (bs xc),.string (bs xu)] 62)=w5 at *;gi_wp2_with (gi_at_builtin;refine QT _ rfl (.tmp 17) (.tmp 20) 117 rfl W.heap.size 24 i0 _ 1 16 underlying117 HI.out hz0 hz1 hz2 rfl (by decide) (.slice A7 k c7) k (scells ((xs.map (·.q)).take k)) rfl HO4.out ⟨w5.heap.size,0,none⟩ 1 1 [.string (bs xq)] rfl rfl (M7 (M4 w5 _)) (by simp[Value.oneCell']) (by simp only[maxLen];omega) (by omega) hsz ?_;intro v2 w' hown' hgrow hnil;(obtain⟨A3,c3,rfl⟩:=aF hown');clear hnil;(have HO5:=qh hown');(have HG5:=qh hgrow));rw[HSN.out]at HO5;go_roundw
   case rel=>exact⟨k+1,A3,c3,by omega,by go_num,rfl,HO5.out,HX5.out.grown HG5.out hlow⟩
   case measure=>simp[intOf];omega
  ·have hke:k=xs.length:=by omega
   subst hke;have hki:¬ ((xs.length:Int)<(xs.length:Int)):=by omega
   have hql:(xs.map (·.q)).length=xs.length:=by simp
   have hrd:RdS wr A7 (xs.map (·.q)):=by
    have h:=Reads.own HO.out;rw[Mv (by rw[hql];exact Mn _)]at h;unfold RdS;rw[hql];exact h
   have C4:=tX t (xs.map (·.q)) A7 c7 wr (HE.out.ext HXW.out) hrd ht htc HWT.out;rw[hql]at C4;have C4:=qh C4;obtain⟨_,b0,b1⟩:=HJ.out 0 wr HJ0.out;have q1:=b1.cell 0;simp only[Mk,Mm]at q1;clear b0 b1 hrd HO;have hsp:((bZ (valI t) ((xs.map (·.q)).map valI)).map ofI).length=xs.length:=by simp[mv]
   obtain⟨pr,hpr⟩:∃pr,(bZ (valI t) ((xs.map (·.q)).map valI)).map ofI=pr:=⟨_,rfl⟩;rw[hpr]at C4 HY hsp;clear hpr hql hki;gi_wp2
   refine(Nu.2 C4.out).mono ?_;rintro e w6⟨P,rfl,hP,⟨cur,hrow⟩,hx6⟩;have HJ6:=qh (HX.out 0 wr w6 HJ0.out hx6);have HRW:=qh hrow;clear hP hrow hx6 C4 HJ0 HX2 HXW q1 hk;obtain⟨_,b0,b1⟩:=HJ.out 0 w6 HJ6.out;have q1:=b0.cell 0;simp only[Mk,Mm]at q1;clear b0 b1;have hlt1:0<xs.length:=h0;gi_wp2
   gi_loopw [31,9,10] (fun i _ _ wr=>∃k:Nat,k<=xs.length∧i = .int .i64 k∧J k wr∧Blk wr P 24 cur.toArray) (fun i _ _ _=>xs.length-(intOf i).toNat)
   case atStart=>exact⟨0,by omega,rfl,HJ6.out,HRW.out.blk⟩
   case round =>
    clear HJ6 q1;obtain⟨k,hk,rfl,hjk,hbk⟩:=hrel;by_cases hlt:k<xs.length
    ·have hy:pr[k]? = some (pr[k]'(by omega)):=Mr (by omega);have HN:=qh (HX.out k wr (wr.alloc (.cells (lc (xs[k]'hlt)) 62)).drew hjk (Id _ _).drew);have HBK:=qh ((hbk.alloc (.cells (lc (xs[k]'hlt)) 62)).drew);have HY1:=qh (HY.out k hlt _ _ hy HN.out);have HB:=qh ((ID wr 62 (lc (xs[k]'hlt))).drew);have hrs3:RdS (wr.alloc (.cells (lc (xs[k]'hlt)) 62)).drew (some ⟨P,0,none⟩) pr:=Row.reads (cur:=cur) { HRW.out with blk:=HBK.out };obtain⟨b3,o3,e3,hb3,s0⟩:=hrs3.at_ (k:=k) (by omega);injection e3 with e3
     injection e3 with e3 e4
     subst e3 e4;simp only[MV]at s0;obtain⟨b,o,hA2,hb,c0,c1,c2,c3,c4,c5,c6⟩:=(HA.out.ext (HJ.out k wr hjk).1).at_ hlt;subst hA2;have hki:(k:Int)<(xs.length:Int):=by omega
     have hk0:(0:Int)<=(k:Int):=by omega
     clear hjk hbk hy hrs3;generalize pr[k]'_=y1 at *;generalize xs[k]'hlt=x at *;obtain⟨xi,xn,xa,xo,xq,xc,xu⟩:=x;gi_wp2
     refine wpIn_region_any (by kernel_rfl) ?_;change wpAnyIn _ _ _ _ _ _ _ _ _ (World.drew (wr.alloc (.cells #[.string (bs xi),.string (bs xn),.int .i64 xa,.int .i64 xo,.string (bs xq),.string (bs xc),.string (bs xu)] 62)));generalize World.drew (wr.alloc (.cells #[.string (bs xi),.string (bs xn),.int .i64 xa,.int .i64 xo,.string (bs xq),.string (bs xc),.string (bs xu)] 62))=Wd at *;obtain⟨y0',y1',y2,y3,y4,y5,y6⟩:=ap HB.out (iD Wd);generalize hX7:wr.heap.size=X7 at *;have r1:(Instr.loadAt 62 (.pointer (some ⟨X7,0,none⟩))).run prog Wd = .ok (.agg #[.string (bs xi),.string (bs xn),.int .i64 xa,.int .i64 xo,.string (bs xq),.string (bs xc),.string (bs xu)]) Wd:=by go_simp
     have i1:(Instr.indexAt 117 (.slice (some ⟨P,0,none⟩) xs.length xs.length) (.int .i64 k)).run prog Wd = .ok (.pointer (some ⟨P,k,none⟩)) Wd:=by go_simp
     have t1:(Instr.loadAt 24 (.pointer (some ⟨P,k,none⟩))).run prog Wd = .ok (.string (bs y1)) Wd:=by go_simp
     refine oX (Inv:=ChInv _ _ (fun s=>(#[Value.func (.yield l) #[] #[],Value.agg #[.string (bs xi),.string (bs xn),.int .i64 xa,.int .i64 xo,.string (bs xq),.string (bs xc),.string (bs xu)],Value.slice (some ⟨P,0,none⟩) xs.length xs.length,Value.int .i64 k,Value.pointer (some ⟨P,k,none⟩),Value.string (bs y1),Value.bool true,Value.bool false]:Array Value).getD (s-36) undef) 36 6 Wd (fun W=>J (k+1) W∧Blk W P 24 cur.toArray)) ?hend ?hz ?hstep _ _ _ _ (ChInv.start _)
     case hz=>exact fun listed a w' h=>eu (by have:=h.cnt;omega) h.size
     case hend =>
      intro f listed a w' h hr;obtain⟨ha,hj⟩:=h.fin (by decide) hr (by kernel_rfl);have ha2:a=({ tmps:=#[Value.func (.yield l) #[] #[],Value.pointer (some ⟨B,0,none⟩),Value.pointer (some ⟨B+1,0,none⟩),undef,Value.slice A7 xs.length c7,undef,u6,Value.slice (some ⟨P,0,none⟩) xs.length xs.length,Value.int .i64 0,Value.int .i64 k,Value.pointer (some ⟨X7,0,none⟩),Value.slice (some ⟨b,o,none⟩) xs.length c,Value.int .i64 xs.length,Value.int .i64 xs.length,Value.bool false,u15,u16,u17,u18,u19,u20,u21,u22,Value.tuple #[Value.slice (some ⟨P,0,none⟩) xs.length xs.length,Value.int .i64 0],Value.string (bs t),Value.slice A7 xs.length c7,Value.tuple #[Value.slice (some ⟨P,0,none⟩) xs.length xs.length,Value.int .i64 0],Value.slice (some ⟨P,0,none⟩) xs.length xs.length,Value.int .i64 0,Value.slice (some ⟨b,o,none⟩) xs.length c,Value.int .i64 xs.length,Value.int .i64 k,Value.bool true,Value.int .i64 k,Value.pointer (some ⟨b,o+k*7,none⟩),Value.agg #[.string (bs xi),.string (bs xn),.int .i64 xa,.int .i64 xo,.string (bs xq),.string (bs xc),.string (bs xu)],Value.func (.yield l) #[] #[],Value.agg #[.string (bs xi),.string (bs xn),.int .i64 xa,.int .i64 xo,.string (bs xq),.string (bs xc),.string (bs xu)],Value.slice (some ⟨P,0,none⟩) xs.length xs.length,Value.int .i64 k,Value.pointer (some ⟨P,k,none⟩),Value.string (bs y1),Value.bool true,Value.bool false,u44],defers:=[] }:Act):=ha.trans (by kernel_rfl);clear ha;subst ha2;have HJ3:=qh hj;clear h hr hj;gi_wp2
      go_roundw
      case rel=>exact⟨k+1,by omega,by go_num,HJ3.out.1,HJ3.out.2⟩
      case measure=>simp[intOf];omega
     case hstep =>
      intro f listed a w' i h hi
      have hW:i<6->w'=Wd:=fun hi15=>h.before hi hi15 (by decide) (by
       intro L hcl h15;have a0:L 0:=hcl 6 _ ⟨0,.data⟩ rfl h15 (by simp) rfl;have a1:L 1:=hcl 6 _ ⟨1,.data⟩ rfl h15 (by simp) rfl;have a5:L 5:=hcl 6 _ ⟨5,.data⟩ rfl h15 (by simp) rfl;have a4:L 4:=hcl 5 _ ⟨4,.data⟩ rfl a5 (by simp) rfl;have a2:L 2:=hcl 4 _ ⟨2,.data⟩ rfl a4 (by simp) rfl;have a3:L 3:=hcl 4 _ ⟨3,.data⟩ rfl a4 (by simp) rfl;intro i hi;obtain rfl|rfl|rfl|rfl|rfl|rfl:i=0∨i=1∨i=2∨i=3∨i=4∨i=5:=by omega
       ·exact a0
       ·exact a1
       ·exact a2
       ·exact a3
       ·exact a4
       ·exact a5
       )
      have hlt:i<8:=bP hi;have hbz:∀s,s<36->a.tmps.getD s undef=_:=fun s hs=>h.base' (s:=s) (by show s<45;omega) (.inl hs)
      obtain rfl|rfl|rfl|rfl|rfl|rfl|rfl|rfl:i=0∨i=1∨i=2∨i=3∨i=4∨i=5∨i=6∨i=7:=by omega
      ·skip;obtain rfl:=hW (by omega);have e0:a.tmps.getD 0 undef=Value.func (.yield l) #[] #[]:=hbz 0 (by omega);refine eD hfn rfl rfl rfl _ ?_ (h.step hi rfl rfl _ (.inl ⟨by decide,rfl⟩));simp[execOp,af,e0]
      ·skip;obtain rfl:=hW (by omega);have e10:a.tmps.getD 10 undef=Value.pointer (some ⟨X7,0,none⟩):=hbz 10 (by omega);refine eD hfn rfl rfl rfl _ ?_ (h.step hi rfl rfl _ (.inl ⟨by decide,rfl⟩));simp[execOp,af,e10,r1]
      ·skip;obtain rfl:=hW (by omega);have e7:a.tmps.getD 7 undef=Value.slice (some ⟨P,0,none⟩) xs.length xs.length:=hbz 7 (by omega);refine eD hfn rfl rfl rfl _ ?_ (h.step hi rfl rfl _ (.inl ⟨by decide,rfl⟩));simp[execOp,af,e7]
      ·skip;obtain rfl:=hW (by omega);have e9:a.tmps.getD 9 undef=Value.int .i64 k:=hbz 9 (by omega);refine eD hfn rfl rfl rfl _ ?_ (h.step hi rfl rfl _ (.inl ⟨by decide,rfl⟩));simp[execOp,af,e9]
      ·skip;obtain rfl:=hW (by omega);have e38:a.tmps.getD 38 undef=Value.slice (some ⟨P,0,none⟩) xs.length xs.length:=h.need (by show 36+8<=45;decide) hi rfl 2 (by show 2<8;decide) rfl;have e39:a.tmps.getD 39 undef=Value.int .i64 k:=h.need (by show 36+8<=45;decide) hi rfl 3 (by show 3<8;decide) rfl;refine eD hfn rfl rfl rfl _ ?_ (h.step hi rfl rfl _ (.inl ⟨by decide,rfl⟩));simp[execOp,af,e38,e39,i1]
      ·skip;obtain rfl:=hW (by omega);have e40:a.tmps.getD 40 undef=Value.pointer (some ⟨P,k,none⟩):=h.need (by show 36+8<=45;decide) hi rfl 4 (by show 4<8;decide) rfl;refine eD hfn rfl rfl rfl _ ?_ (h.step hi rfl rfl _ (.inl ⟨by decide,rfl⟩));simp[execOp,af,e40,t1]
      ·obtain rfl:=h.at_call hi;have e36:a.tmps.getD 36 undef=Value.func (.yield l) #[] #[]:=h.need (by show 36+8<=45;decide) hi rfl 0 (by show 0<8;decide) rfl;have e37:a.tmps.getD 37 undef=Value.agg #[.string (bs xi),.string (bs xn),.int .i64 xa,.int .i64 xo,.string (bs xq),.string (bs xc),.string (bs xu)]:=h.need (by show 36+8<=45;decide) hi rfl 1 (by show 1<8;decide) rfl;have e41:a.tmps.getD 41 undef=Value.string (bs y1):=h.need (by show 36+8<=45;decide) hi rfl 5 (by show 5<8;decide) rfl;obtain⟨fn,tmps,assign,body,hy,hR⟩:=HY1.out;refine ug hfn hdp rfl rfl rfl l fn tmps assign body ?_ hR ?_
       ·simp[execOp,af,e36,e37,e41,resolve,invoke,Deferred.ofValue,hy]
       ·rintro e W3⟨rfl,hJ3,hK3⟩;exact⟨_,rfl,h.step hi rfl rfl _ (.inr ⟨rfl,hJ3,hK3 _ _ HBK.out⟩)⟩
      ·skip;have e42:a.tmps.getD 42 undef = .bool true:=h.need (by show 36+8<=45;decide) hi rfl 6 (by show 6<8;decide) rfl;refine eD hfn rfl rfl rfl _ ?_ (h.step hi rfl rfl _ (.inl ⟨by decide,rfl⟩));simp[execOp,af,e42];go_simp
    ·obtain rfl:k=xs.length:=by omega
     have HH:=qh hjk;clear hjk hbk;gi_wp2
     go_end0
     exact⟨⟨_,rfl⟩,HH.out⟩
end
section
open Go.RowKit Go.Shelf
abbrev gT:TypeId:=60
abbrev sT:TypeId:=70
abbrev rT:TypeId:=39
theorem Only.put{g:Nat}{a w:World}(h:Only g a w)(hl:a.heap.size<=l)(o:Obj):Only g a (w.putObj l o):=by
 refine⟨h.os,h.tape,h.output,by simpa[World.putObj] using h.size,fun i hi hne=>?_⟩;rw[OL (by omega)];exact h.block i hi hne
theorem Only.blk{g b:Nat}{a w:World}(h:Only g a w)(hb:Blk a b t cs)(hne:b≠g):Blk w b t cs:=hb.only' h hne
theorem qx{g:Nat}{a w:World}{b:Option Nat}(h:Only g a w)(hg:w.grownBy w' b)(hb:∀k,b=some k->a.heap.size<=k):Only g a w' :=
 ⟨hg.os.trans h.os,hg.tape.trans h.tape,hg.output.trans h.output,Mx h.size hg.size,fun i hi hne=>(No hg i (M5 hi h.size) (fun e=>by have:=hb i e.symm;omega)).trans (No h i hi hne)⟩
theorem uh{W W':World}{size n:Nat}{u:Value}{xs:List Value}(ho:W.ownsRow base e size v n xs)(hg:W.grownBy W' u.ownBlock)(hne:v.ownBlock=none∨v.ownBlock≠u.ownBlock):W'.ownsRow base e size v n xs:=by
 refine⟨ho.1,?_⟩;rcases ho.2 with hn | ⟨g,cap,cur,rfl,hb,hh,hrest⟩
 ·exact .inl hn
 ·refine .inr ⟨g,cap,cur,rfl,hb,(hg.block g (MD.1 hh).1 ?_).trans hh,hrest⟩;intro e;rcases hne with hne|hne
  ·simp[Value.ownBlock]at hne
  ·exact hne (by rw[←e];rfl)
theorem im{W:World}{size n g:Nat}{u:Value}{xs:List Value}(ho:W.ownsRow base e size v n xs)(hb:Blk W g t cs)(hne:e≠t):(W.setCell ⟨g,k,none⟩ u).ownsRow base e size v n xs :=
 fW ho (gC ho hb hne) u
theorem gX{W W':World}{u:Value}{g:Nat}{size n:Nat}{xs:List Value}(hb:Blk W g t cs)(ho:W.ownsRow base e size u n xs)(hg:W.grownBy W' u.ownBlock)(hne:e≠t):Blk W' g t cs :=
 (hg.block g hb.lt (fun e2=>gC ho hb hne e2.symm)).trans hb
theorem iq{w:World}{g:Nat}{x y z u:Value}(h:Blk w g rT #[x,y,z,u])(hx:Ext w w') :
  w'.cell? ⟨g,0,none⟩=some x∧w'.cell? ⟨g,1,none⟩=some y∧w'.cell? ⟨g,2,none⟩=some z∧w'.cell? ⟨g,3,none⟩=some u:=by
 have k:=h.ext hx;exact⟨k.cell 0,k.cell 1,k.cell 2,k.cell 3⟩
theorem du{fn:Func}{a b:Tmp}(h:fn.results=#[.cell a 39,.tmp b])(tmps:Array Value)(w:World)(g:Nat)(x y z u v:Value)(ha:tmps.getD a undef = .pointer (some ⟨g,0,none⟩))(hv:tmps.getD b undef=v)(hb:Blk w g 39 #[x,y,z,u]) :
  (results fn tmps).run prog w = .ok (.tuple #[.agg #[x,y,z,u],v]) w:=by
 have q0:w.cell? ⟨g,0,none⟩=some x:=hb.cell 0;have q1:w.cell? ⟨g,1,none⟩=some y:=hb.cell 1;have q2:w.cell? ⟨g,2,none⟩=some z:=hb.cell 2;have q3:w.cell? ⟨g,3,none⟩=some u:=hb.cell 3;unfold results;rw[h];simp only[Ob,OG,OO,ha,hv];go_simp
theorem jF{W:World}{size n:Nat}{xs:List Value}{g:Nat}{u:Value}(h:Reads W size A n xs)(hg:Blk W g t cs)(hs:∃A' n' c',cs[k]? = some (.slice A' n' c'))(hx:∀A' n' c',Value.slice A' n' c' ∉ xs):Reads (W.setCell ⟨g,k,none⟩ u) size A n xs:=by
 refine⟨h.1,fun hn=>?_⟩;obtain⟨b,o,e,hb,hc⟩:=h.2 hn;refine⟨b,o,e,by simpa[World.setCell] using hb,fun j u2 hu=>?_⟩;have h1:=hc j u2 hu;by_cases e1:b=g
 ·subst e1;by_cases e2:o+j=k
  ·subst e2;obtain⟨A',n',c',h3⟩:=hs;rw[hg.cell,h3]at h1;injection h1 with h1
   have hm:=List.mem_of_getElem? hu;rw[←h1]at hm;exact absurd hm (hx A' n' c')
  ·rw[(hg.set_ k u).cell,RM (Ol e2),←hg.cell];exact h1
 ·rw[←h1];unfold World.cell?;dsimp only;rw[Px W ⟨g,k,none⟩ u b e1]
theorem qy{w W:World}{size n:Nat}{xs:List Value}{U:Nat}(h:Reads w size A n xs)(ho:Only U w W)(hg:Blk w U t cs)(hs:∀(j:Nat) (v:Value),cs[j]? = some v->∃A' n' c',v=Value.slice A' n' c')(hx:∀A' n' c',Value.slice A' n' c' ∉ xs):Reads W size A n xs:=by
 refine⟨h.1,fun hn=>?_⟩;obtain⟨b,o,e,hb,hc⟩:=h.2 hn;refine⟨b,o,e,M5 hb ho.size,fun j u hu=>?_⟩;have h1:=hc j u hu;by_cases e1:b=U
 ·subst e1;rw[hg.cell]at h1;obtain⟨A',n',c',rfl⟩:=hs _ _ h1;exact absurd (List.mem_of_getElem? hu) (hx A' n' c')
 ·exact(ho.cell (p:=⟨b,o+j,none⟩) hb e1).trans h1
theorem wL{a b c d:Value}(h:(#[a,b,c,d]:Array Value)[j]? = some v)(ha:∃A' n' c',a=Value.slice A' n' c')(hb:∃A' n' c',b=Value.slice A' n' c')(hc:∃A' n' c',c=Value.slice A' n' c')(hd:∃A' n' c',d=Value.slice A' n' c'):∃A' n' c',v=Value.slice A' n' c':=by
 match j,h with
 |0,h=>cases h;exact ha
 |1,h=>cases h;exact hb
 |2,h=>cases h;exact hc
 |3,h=>cases h;exact hd
 |k+4,h=>simp at h
abbrev nz(W:World)(R:Nat)(a b c d:Value):World:=(((W.setCell ⟨R,0,none⟩ a).setCell ⟨R,1,none⟩ b).setCell ⟨R,2,none⟩ c).setCell ⟨R,3,none⟩ d
section
variable {W w:World} {R:Nat} {a b c d x y z u:Value}
theorem lI(h:Blk W R rT #[x,y,z,u]):Blk (nz W R a b c d) R rT #[a,b,c,d]:=by
 have:=(((h.set_ 0 a).set_ 1 b).set_ 2 c).set_ 3 d;simpa using this
theorem mH(h:Ext w W)(hR:w.heap.size<=R):Ext w (nz W R a b c d) :=
 (((h.setCell (p:=⟨R,0,none⟩) hR _).setCell (p:=⟨R,1,none⟩) hR _).setCell (p:=⟨R,2,none⟩) hR _).setCell (p:=⟨R,3,none⟩) hR _
theorem El{D:Nat}{o:Obj}(h:W.heap[D]? = some o)(hne:D≠R):(nz W R a b c d).heap[D]? = some o:=eM (eM (eM (eM h hne) hne) hne) hne
theorem xQ{size n:Nat}{xs:List Value}(ho:W.ownsRow base e size v n xs)(h:Blk W R rT #[x,y,z,u])(hne:e≠rT):(nz W R a b c d).ownsRow base e size v n xs :=
 im (im (im (im ho h hne) (h.set_ 0 a) hne) ((h.set_ 0 a).set_ 1 b) hne) (((h.set_ 0 a).set_ 1 b).set_ 2 c) hne
theorem kJ{size n:Nat}{xs:List Value}(hr:Reads W size A n xs)(h:Blk W R rT #[x,y,z,u])(hx:∃A' n' c',x=Value.slice A' n' c')(hy:∃A' n' c',y=Value.slice A' n' c')(hz:∃A' n' c',z=Value.slice A' n' c')(hu:∃A' n' c',u=Value.slice A' n' c')(hs:∀A' n' c',Value.slice A' n' c' ∉ xs):Reads (nz W R a b c d) size A n xs:=by
 refine jF (jF (jF (jF hr h ?_ hs) (h.set_ 0 a) ?_ hs) ((h.set_ 0 a).set_ 1 b) ?_ hs) (((h.set_ 0 a).set_ 1 b).set_ 2 c) ?_ hs
 ·obtain⟨A',n',c',rfl⟩:=hx;exact⟨A',n',c',rfl⟩
 ·obtain⟨A',n',c',rfl⟩:=hy;exact⟨A',n',c',rfl⟩
 ·obtain⟨A',n',c',rfl⟩:=hz;exact⟨A',n',c',rfl⟩
 ·obtain⟨A',n',c',rfl⟩:=hu;exact⟨A',n',c',rfl⟩
end
theorem km(ls:List LotV)(A':Option Addr)(n' c':Nat):Value.slice A' n' c' ∉ ls.flatMap lotCells:=by
 intro hm;rw[Su]at hm;obtain⟨x,_,hm⟩:=hm;unfold lotCells at hm;simp only[MS,N7,Qg]at hm;rcases hm with hm|hm|hm|hm|hm|hm|hm <;> cases hm
theorem zj(gs:List GainV)(A':Option Addr)(n' c':Nat):Value.slice A' n' c' ∉ gs.flatMap bj:=by
 intro hm;rw[Su]at hm;obtain⟨x,_,hm⟩:=hm;unfold bj at hm;simp only[MS,N7,Qg]at hm;rcases hm with hm|hm|hm|hm|hm|hm|hm|hm|hm|hm <;> cases hm
theorem zk(gs:List StepV)(A':Option Addr)(n' c':Nat):Value.slice A' n' c' ∉ gs.flatMap cT:=by
 intro hm;rw[Su]at hm;obtain⟨x,_,hm⟩:=hm;unfold cT at hm;simp only[MS,N7,Qg]at hm;rcases hm with hm|hm|hm|hm|hm|hm <;> cases hm
theorem wM{W:World}{L:List LotV}{o:Obj}(h:aK W A L)(hl:W.heap[l]? = some o)(ho:∀cs t z,o ≠ .cells cs t z)(o':Obj):aK (W.putObj l o') A L:=by
 cases L with
 |nil=>exact⟨by simp,fun h=>absurd h (by simp)⟩
 |cons x r=>exact Reads.put h hl ho (by simp[lotCells]) o'
def jk(key ins:Bs)(day:Int)(x:LotV)(p:Bs):GainV:=⟨key,x.id,ins,x.acq,day,x.q,p,x.c,[],[]⟩
def qz(key:Bs)(x:LotV):StepV:=⟨key,x.id,[],x.q,[],x.c⟩
def cG(key ins:Bs)(day:Int)(xs:List LotV)(pr:List Bs):List GainV:=(xs.zip pr).map (fun y=>jk key ins day y.1 y.2)
def cQ(key:Bs)(xs:List LotV):List StepV:=xs.map (qz key)
theorem xR{key ins:Bs}{day:Int}{xs:List LotV}{pr:List Bs}(hk:k<xs.length){y:Bs}(hy:pr[k]? = some y):cG key ins day (xs.take (k+1)) (pr.take (k+1))=cG key ins day (xs.take k) (pr.take k)++[jk key ins day (xs[k]'hk) y]:=by
 obtain⟨h,rfl⟩:=Nk.1 hy;unfold cG;rw[Mo hk,Mo h,List.zip_append (by simp;omega)];simp
theorem vR{key:Bs}{xs:List LotV}(hk:k<xs.length):cQ key (xs.take (k+1))=cQ key (xs.take k)++[qz key (xs[k]'hk)]:=by
 unfold cQ;rw[Mo hk,Pp];rfl
theorem eK.refl(W:World):eK W W:=fun _ _ h=>h
theorem eK.ext{W W':World}(h:eK W W')(hx:Ext W' W''):eK W W'':=fun g cs hb=>(h g cs hb).ext hx
theorem eK.put{W W':World}{lp:Loop}(h:eK W W')(hl:W'.heap[l]? = some (.loop lp))(o:Obj):eK W (W'.putObj l o):=fun g cs hb=>(h g cs hb).put o (by
 rintro rfl;have h2:W'.heap[g]? = some _:=h g cs hb;rw[hl]at h2
 cases h2)
theorem eK.grown{W W':World}{u:Value}{size n:Nat}{xs:List Value}(h:eK W W')(ho:W'.ownsRow base e size u n xs)(hne:e≠24)(hg:W'.grownBy W'' u.ownBlock):eK W W'':=fun g cs hb=>gX (h g cs hb) ho hg hne
theorem eK.set{W W':World}{g:Nat}(h:eK W W')(hb:Blk W' g t cs)(hne:t≠24)(u:Value):eK W (W'.setCell ⟨g,k,none⟩ u):=fun g2 cs2 hb2=>(h g2 cs2 hb2).far (p:=⟨g,k,none⟩) (eh (h g2 cs2 hb2) hb (Ol hne)) u
structure RD (W0:World) (U:Nat) (lp:Loop) (vl vg vs:Value) (gs:List GainV) (ss:List StepV) (W:World):Prop where
 ex:Only U W0 W
 u:Blk W U rT #[vl,vg,vs,.slice none 0 0]
 og:W.ownsRow W0.heap.size gT 10 vg gs.length (gs.flatMap bj)
 os:W.ownsRow W0.heap.size sT 6 vs ss.length (ss.flatMap cT)
 D:W.heap[W0.heap.size]? = some (.deferred (some []))
 L:W.heap[W0.heap.size+1]? = some (.loop lp)
section
variable {W0 W W':World} {U:Nat} {lp lp':Loop} {vl vg vs v':Value} {gs:List GainV} {ss:List StepV}
theorem RD.on(h:RD W0 U lp vl vg vs gs ss W)(hx:Ext W W'):RD W0 U lp vl vg vs gs ss W' :=
 ⟨h.ex.ext hx,h.u.ext hx,own_ext2 h.og hx,own_ext2 h.os hx,eB h.D hx,eB h.L hx⟩
theorem RD.put(h:RD W0 U lp vl vg vs gs ss W)(hU:U<W0.heap.size):RD W0 U lp' vl vg vs gs ss (W.putObj (W0.heap.size+1) (.loop lp')) :=
 ⟨h.ex.put (by omega) _,h.u.put _ (by omega),rB h.og h.L,rB h.os h.L,mz h.D (by omega),PK (MD.1 h.L).1⟩
theorem RD.gain{g:GainV}(h:RD W0 U lp vl vg vs gs ss W)(hU:U<W0.heap.size)(hg:W.grownBy W' vg.ownBlock)(ho:W'.ownsRow W0.heap.size gT 10 v' (gs.length+1) (gs.flatMap bj++bj g)) :
  Blk W' U rT #[vl,vg,vs,.slice none 0 0]∧RD W0 U lp vl v' vs (gs++[g]) ss (W'.setCell ⟨U,1,none⟩ v'):=by
 have u':=gX h.u h.og hg (by decide);have ho2:W'.ownsRow W0.heap.size gT 10 v' (gs++[g]).length ((gs++[g]).flatMap bj):=by rw[lU,Mp];exact ho
 refine⟨u',(qx h.ex hg (own_base h.og)).setCell 1 _,u'.set_ 1 v',im ho2 u' (by decide),im (uh h.os hg (pV h.os h.og (by decide))) u' (by decide),eM ?_ (by omega),eM ?_ (by omega)⟩
 ·exact(hg.block _ (MD.1 h.D).1 (fun e=>rD h.og h.D e.symm)).trans h.D
 ·exact(hg.block _ (MD.1 h.L).1 (fun e=>rC h.og h.L e.symm)).trans h.L
theorem RD.step{s:StepV}(h:RD W0 U lp vl vg vs gs ss W)(hU:U<W0.heap.size)(hg:W.grownBy W' vs.ownBlock)(ho:W'.ownsRow W0.heap.size sT 6 v' (ss.length+1) (ss.flatMap cT++cT s)) :
  Blk W' U rT #[vl,vg,vs,.slice none 0 0]∧RD W0 U lp vl vg v' gs (ss++[s]) (W'.setCell ⟨U,2,none⟩ v'):=by
 have u':=gX h.u h.os hg (by decide);have ho2:W'.ownsRow W0.heap.size sT 6 v' (ss++[s]).length ((ss++[s]).flatMap cT):=by rw[EV,Mp];exact ho
 refine⟨u',(qx h.ex hg (own_base h.os)).setCell 2 _,u'.set_ 2 v',im (uh h.og hg (pV h.og h.os (by decide))) u' (by decide),im ho2 u' (by decide),eM ?_ (by omega),eM ?_ (by omega)⟩
 ·exact(hg.block _ (MD.1 h.D).1 (fun e=>rD h.os h.D e.symm)).trans h.D
 ·exact(hg.block _ (MD.1 h.L).1 (fun e=>rC h.os h.L e.symm)).trans h.L
end
end
section
open Go.RowKit
open Go.Maps (Keyed)
inductive SK|lv|mk|am|wc|nm|mm|kd|ex|sl|sx|no
theorem bG.isMap{W:World}{b n:Nat}{D:DataW Value}(h:bG W b n D):Maps.IsMap D:=World.ownsMap.isMap h
structure RC where
 w0:World
 G1:Nat
 G3:Nat
 lvP:Value
abbrev Lh:Value := .func (.func 132) #[] #[]
def rG(w:World)(v:Value)(ms:List Nat):Prop:=∃g,v = .slice (some ⟨g,0,none⟩) ms.length ms.length∧Blk w g 3 (icells ms).toArray
def aN(ops:Array Oper)(listed:Array Bool)(d:Nat):Prop:=(d=2∨d=4∨d=5∨d=6)∨∃i o,ops[i]? = some o∧listed.getD i false=true∧o.dst=some d
theorem ir{listed:Array Bool}{i:Nat}(h:listed.getD j false=true):(listed.setIfInBounds i true).getD j false=true:=by
 rw[Mw]at h ⊢;rw[QJ];split
 ·rename_i e
  subst e;split
  ·rfl
  ·rename_i hge
   rw[OS (by omega)]at h
   cases h
 ·exact h
theorem B8{a:Act}{d:Nat}{x:Nat}(h:x≠d):(a.put (some d) v).tmps.getD x undef=a.tmps.getD x undef:=by
 unfold Act.put;rw[Mw,Mw];rw[RM (by omega)]
theorem Cb{a:Act}{d:Nat}(h:d<a.tmps.size):(a.put (some d) v).tmps.getD d undef=v:=by
 unfold Act.put;rw[Mw,OQ h];rfl
end
section
open Go.RowKit
open Go.Maps (Keyed)
attribute [local go_sem] size_bs toList_bs
theorem cL{P:Program}{ops:Array Oper}{Q:Exit->Act->World->Prop}{i:Nat}{o:Oper}{K:Act->World->Prop}{a:Act}{w:World}(ho:ops[i]? = some o)(hg:o.guard=none)(h:o.wp P a w K Q):wpOp P ops Q i K a w:=by
 unfold wpOp;rw[ho];dsimp only;rw[Mq (by simp[Region.wanted,hg])];exact .inl h
theorem ad{ops:Array Oper}{listed:Array Bool}{i:Nat}(hi:i ∈ Region.ready .any ops listed){o:Oper}(ho:ops[i]? = some o)(p:Nat)(hp:(o.after.toList.any fun e=>e.on == p && Region.binds .any e)=true){q:Oper}(hq:ops[p]? = some q){d:Nat}(hd:q.dst=some d):aN ops listed d :=
 .inr ⟨p,q,hq,eX hi ho hp,hd⟩
theorem E8(b:ByteArray):b=bs b.data.toList:=by
 cases b;unfold bs;simp
section
variable {c:RC} {sk:Nat->SK} {i10:Nat} {ops:Array Oper} {f:Nat} {listed:Array Bool} {bm:Option Nat} {a:Act} {w:World} {i:Nat} {o:Oper} {Q:Exit->Act->World->Prop}
theorem fM(a:Act)(m:Nat):a.eval (.tmp m)=a.tmps.getD m undef:=rfl
theorem Cc{w:World}{g:Nat}(h:Blk w g qw #[v]):(Instr.loadAt 163 (.pointer (some ⟨g,0,none⟩))).run prog w = .ok v w:=by
 have q:=h.cell 0;simp only[Mk,Mm]at q;go_simp
theorem Cd{w:World}{g:Nat}(h:Blk w g FT #[v]):(Instr.loadAt 166 (.pointer (some ⟨g,0,none⟩))).run prog w = .ok v w:=by
 have q:=h.cell 0;simp only[Mk,Mm]at q;go_simp
end
theorem zl{w:World}{g b n:Nat}{D:DataW Value}(h:Blk w g t cs)(hm:bG w b n D):g≠b:=by
 rintro rfl;obtain⟨es,clock,hb,_⟩:=hm;have h':w.heap[g]? = some (.cells cs t (0,0)):=h;rw[hb]at h'
 cases h'
theorem ui{w:World}{g b n:Nat}{D:DataW Value}(h:Blk w g t cs)(hm:bG w b n D)(hg:Only b w w'):Blk w' g t cs :=
 (hg.block _ h.lt (by simpa using zl h hm)).trans h
section
variable {c:RC} {sk:Nat->SK} {i10:Nat} {ops:Array Oper} {f:Nat} {listed:Array Bool} {bm:Option Nat} {a:Act} {w:World} {i:Nat} {o:Oper} {Q:Exit->Act->World->Prop}
theorem eY(a:Act)(v:Value):a.eval (.const v)=v:=rfl
theorem rG.rdi{w:World}{ms:List Nat}(h:rG w v ms):∃g,v = .slice (some ⟨g,0,none⟩) ms.length ms.length∧RdI w (some ⟨g,0,none⟩) ms:=by
 obtain⟨g,e,hb⟩:=h;exact⟨g,e,by simp[icells],fun _=>⟨g,0,rfl,hb.lt,fun j u hu=>by rw[MV,hb.cell j,Mk];exact hu⟩⟩
theorem iu{fn:Nat}(ek:∀args w,(callFunc fn args).run prog w = .ok (.enter fn args) w){s:Operand}{args:Array Operand}{tt:Array TypeId}(hop:o.op = .call { callee := .value s,args:=args,argTypes:=tt })(hs:a.eval s = .func (.func fn) #[] cb) :
  (execOp a.eval o).run prog w = .ok (.enter fn (args.map a.eval++cb)) w:=by
 simp only[execOp,hop];simp[resolve,invoke,hs,Deferred.ofValue,ek]
end
end
section
open Go.RowKit
def kZ(k:Nat):Code->Option (Array Oper)
 |.region i ops _=>if i=k then some ops else none
 |.seq a b=>match kZ k a with|some x=>some x|none=>kZ k b
 |.block _ a=>kZ k a
 |.loop a=>kZ k a
 |.scope a=>kZ k a
 |.cond _ a b=>match kZ k a with|some x=>some x|none=>kZ k b
 |_=>none
noncomputable def dv:Array Oper:=((f63.body.bind (kZ 6)).getD #[])
end
section
open Go.RowKit
open Go.Maps (Keyed)
attribute [local go_sem] size_bs toList_bs
def zt(p:Prop):Prop:=p
theorem gm{p:Prop}(h:zt p):p:=h
theorem eE{p:Prop}(h:p):zt p:=h
end
section
open Go.RowKit
attribute [local go_sem] size_bs toList_bs
abbrev xc(key:Bs)(day:Int)(ins:Bs)(A:Option Addr)(n c:Nat):Array Value :=
 #[.string (bs key),.int .i64 0,.bool false,.int .i64 day,.int .i64 10,.string (bs ins),.string ⟨#[]⟩,.string ⟨#[]⟩,.string ⟨#[]⟩,.string ⟨#[]⟩,.string ⟨#[]⟩,.string ⟨#[]⟩,.string ⟨#[]⟩,.string ⟨#[]⟩,.string ⟨#[]⟩,.string ⟨#[]⟩,.string ⟨#[]⟩,.string ⟨#[]⟩,.slice none 0 0,.slice A n c,.int .i64 0]
structure FactV where
 key:Bs
 stamp:Int
 canc:Bool
 day:Int
 kind:Int
 ins:Bs
 other:Bs
 cur:Bs
 tgt:Bs
 qty:Bs
 amt:Bs
 fee:Bs
 price:Fr
 ratio:Fr
 share:Fr
 choice:Int
abbrev ag(f:FactV)(P O:Value):Array Value :=
 #[.string (bs f.key),.int .i64 f.stamp,.bool f.canc,.int .i64 f.day,.int .i64 f.kind,.string (bs f.ins),.string (bs f.other),.string (bs f.cur),.string (bs f.tgt),.string (bs f.qty),.string (bs f.amt),.string (bs f.fee),.string (bs f.price.num),.string (bs f.price.den),.string (bs f.ratio.num),.string (bs f.ratio.den),.string (bs f.share.num),.string (bs f.share.den),P,O,.int .i64 f.choice]
abbrev aC(f:FactV)(P O:Value):Value := .agg (ag f P O)
theorem aj{w:World}{g:Nat}{f:FactV}{P:Value}(h:Blk w g 30 (ag f P O))(hx:Ext w w') :
  w'.cell? ⟨g,0,none⟩=some (.string (bs f.key))∧w'.cell? ⟨g,1,none⟩=some (.int .i64 f.stamp)∧w'.cell? ⟨g,2,none⟩=some (.bool f.canc)∧w'.cell? ⟨g,3,none⟩=some (.int .i64 f.day)∧w'.cell? ⟨g,4,none⟩=some (.int .i64 f.kind)∧w'.cell? ⟨g,5,none⟩=some (.string (bs f.ins)) ∧
  w'.cell? ⟨g,6,none⟩=some (.string (bs f.other))∧w'.cell? ⟨g,7,none⟩=some (.string (bs f.cur))∧w'.cell? ⟨g,8,none⟩=some (.string (bs f.tgt))∧w'.cell? ⟨g,9,none⟩=some (.string (bs f.qty))∧w'.cell? ⟨g,10,none⟩=some (.string (bs f.amt))∧w'.cell? ⟨g,11,none⟩=some (.string (bs f.fee)) ∧
  w'.cell? ⟨g,12,none⟩=some (.string (bs f.price.num))∧w'.cell? ⟨g,13,none⟩=some (.string (bs f.price.den))∧w'.cell? ⟨g,14,none⟩=some (.string (bs f.ratio.num))∧w'.cell? ⟨g,15,none⟩=some (.string (bs f.ratio.den))∧w'.cell? ⟨g,16,none⟩=some (.string (bs f.share.num))∧w'.cell? ⟨g,17,none⟩=some (.string (bs f.share.den)) ∧
  w'.cell? ⟨g,18,none⟩=some P∧w'.cell? ⟨g,19,none⟩=some O∧w'.cell? ⟨g,20,none⟩=some (.int .i64 f.choice):=by
 have k:=h.ext hx;exact⟨k.cell 0,k.cell 1,k.cell 2,k.cell 3,k.cell 4,k.cell 5,k.cell 6,k.cell 7,k.cell 8,k.cell 9,k.cell 10,k.cell 11,k.cell 12,k.cell 13,k.cell 14,k.cell 15,k.cell 16,k.cell 17,k.cell 18,k.cell 19,k.cell 20⟩
theorem uj(s:Bs)(w:World)(hs:s.length<=9000):Calls prog 133 #[.string (bs s)] w fun e w'=>e = .returned (.int .i64 (if isName s=true then 0 else 23))∧Ext w w':=by
 have HN:=qh (gc s w (by omega));obtain⟨r,hr⟩:∃r:Int,r=if isName s=true then 0 else 23:=⟨_,rfl⟩;rw[←hr];have HR:=qh hr;clear hr;go_enter func133,ntmps133;go_wp2_with fail;refine HN.out.mono ?_;rintro e v0⟨rfl,hx1⟩;have HX:=qh hx1;clear hx1 HN;generalize isName s=b at *
 cases b
 ·obtain rfl:r=23:=HR.out;clear HR;go_wp2_with fail;go_ret;exact⟨rfl,HX.out⟩
 ·obtain rfl:r=0:=HR.out;clear HR;go_wp2_with fail;go_ret;exact⟨rfl,HX.out⟩
theorem om(s:Bs)(w:World):Calls prog 206 #[.string (bs s)] w fun e w'=>e = .returned (.agg #[.string (bs s),.string ⟨#[]⟩])∧Ext w w':=by
 have HB:=qh (ID w 26 #[.string (bs s),.string ⟨#[]⟩]);have HX:Hid (Ext w (w.alloc (.cells #[.string (bs s),.string ⟨#[]⟩] 26))):=qh (Id _ _);go_enter func206,ntmps206;obtain⟨c0,c1,d0,d1⟩:=aB HB.out (iD _);go_wp2_with fail;refine MI (ef rfl _ _ w.heap.size (.string (bs s)) (.string ⟨#[]⟩) rfl HB.out) rfl ?_;exact⟨rfl,HX.out⟩
end
section
open Go.RowKit Go.Shelf
attribute [local go_sem] size_bs toList_bs
def lJ(c:UInt8):Bool:=decide (65<=c.toNat∧c.toNat<=90)
abbrev Em:Bs:=[65,66,67,68,69,70,71,72,73,74,75,76,77,78,79,80,81,82,83,84,85,86,87,88,89,90]
def gn(l:Bs):Bool:=decide (l.length=3) && l.all lJ
def lY(l:Bs):Bs:=Lib.trimS l Em
theorem Ce(c:UInt8):Em.contains c=lJ c:=by
 have h:∀n:Fin 256,Em.contains (UInt8.ofNat n.val)=lJ (UInt8.ofNat n.val):=by decide +kernel
 have hc:=h ⟨c.toNat,c.toNat_lt⟩;simpa using hc
theorem xS(l:Bs):lY l=[]↔l.all lJ=true:=by
 unfold lY Lib.trimS Lib.trimLeftS Lib.trimRightS;have he:(fun x=>Em.contains x)=lJ:=funext Ce;rw[he,dropWhile_nil_iff,Qc];constructor
 ·intro h;by_cases hn:l.reverse.dropWhile lJ=[]
  ·rw[dropWhile_nil_iff,Qc]at hn;exact hn
  ·exfalso
   obtain⟨c,r,hcr⟩:=OM hn;have hd:=List.head_dropWhile_not lJ hn;rw[hcr]at h;simp only[NH,MJ]at h;simp only[hcr,List.head_cons]at hd;rw[h.1]at hd;simp at hd
 ·intro h;have hn:l.reverse.dropWhile lJ=[]:=by rw[dropWhile_nil_iff,Qc];exact h
  rw[hn];rfl
theorem zv(l:Bs)(w:World)(hs:l.length<=1000000000) :
  Calls prog 203 #[.string (bs l),.string ⟨#[65,66,67,68,69,70,71,72,73,74,75,76,77,78,79,80,81,82,83,84,85,86,87,88,89,90]⟩] w fun e w'=>e = .returned (.string (bs (lY l)))∧Ext w w':=by
 refine(Any.strings_Trim_laid lays160 (by kernel_rfl) (bs l) ⟨#[65,66,67,68,69,70,71,72,73,74,75,76,77,78,79,80,81,82,83,84,85,86,87,88,89,90]⟩ w (by rw[size_bs];omega) (by decide) (ascii_of_all (by decide))).mono ?_;rintro e w'⟨rfl,hb⟩;exact⟨by rw[data_bs];rfl,hb⟩
theorem zw(l:Bs)(hl:l.length<=100000)(w:World):Calls prog 134 #[.string (bs l)] w fun e w'=>e = .returned (.bool (gn l))∧Ext w w':=by
 have HT:=qh (fun W=>zv l W (by omega));unfold gn;have ht:=xS l;by_cases h3:l.length=3
 ·have g:((l.length:Int) == 3)=true:=by rw[Np];omega
  rw[Pz h3,Oq]
  have H4:Hid ((lY l).isEmpty=l.all lJ):=qh (by
   cases ha:l.all lJ
   ·cases hb:(lY l).isEmpty
    ·rfl
    ·rw[List.isEmpty_iff]at hb;rw[ht.1 hb]at ha
     cases ha
   ·rw[ht.2 ha];rfl)
  rw[←H4.out];generalize lY l=t at *;clear ht h3 hl H4;go_enter func134,ntmps134;go_wp2_with fail;refine(HT.out _).mono ?_;rintro e w1⟨rfl,hx1⟩;have HX:=qh hx1;clear hx1;go_wp2_with fail;go_ret;exact⟨rfl,HX.out⟩
 ·have g:((l.length:Int) == 3)=false:=by rw[Mt];omega
  rw[Nv h3,OT];clear ht h3 hl;go_enter func134,ntmps134;go_wp2_with fail;go_ret;exact⟨rfl,iD _⟩
theorem I8(l:Bs)(hl:l.length<=100000):bJ 204 #[.string (bs l)] (.bool (isId l)):=by
 intro w hE;have HE:=qh hE;have hcl:=m9 l;have HC:=qh (fun W h=>px l W (by omega) h);have HN:=qh (fun W=>gc (cut47 l).1 W (by omega));unfold isId;rcases NZ (∃v,Lib.atoiAll (cut47 l).2 = .ok v) with ⟨v,hk⟩|hk
 ·have HA:=qh (fun W=>rj (cut47 l).2 v hk (by omega) W);have HP:=qh (numOK_prog hk);rw[HP.out];generalize (cut47 l).1=nm at *;generalize (cut47 l).2=nu at *;generalize isName nm=ok at *;clear hk hcl hE HP
  cases ok
  ·rw[OT];go_enter func204,ntmps204;go_wp2_with fail;refine(HC.out _ HE.out).mono ?_;rintro e w1⟨⟨b,rfl⟩,hx1⟩;have HX:=qh hx1;clear hx1;go_wp2_with fail;refine(HA.out _).mono ?_;rintro e w2⟨rfl,hx1⟩;replace HX:=HX.qt hx1;clear hx1;go_wp2_with fail;refine(HN.out _).mono ?_;rintro e w3⟨rfl,hx1⟩;replace HX:=HX.qt hx1;clear hx1;go_wp2_with fail;go_ret;exact⟨rfl,HX.out⟩
  rw[Oq];by_cases h1:1<=v
  ·by_cases h2:v<=9999
   ·have HI:=qh (fun W h=>itoa_any v W (by omega) (by omega) h);generalize Lib.itoa v=it at *;have g1:decide (1<=v)=true:=by simpa using h1
    have g2:decide (v<=9999)=true:=by simpa using h2
    rw[g1,g2,Oq,Oq];by_cases h3:it=nu
    focus have g3:(it == nu)=true:=by simpa using h3
    rotate_left
    focus have g3:(it == nu)=false:=by simpa using h3
    all_goals
     rw[g3];clear h3;go_enter func204,ntmps204;go_wp2_with fail;refine(HC.out _ HE.out).mono ?_;rintro e w1⟨⟨b,rfl⟩,hx1⟩;have HX:=qh hx1;clear hx1;go_wp2_with fail;refine(HA.out _).mono ?_;rintro e w2⟨rfl,hx1⟩;replace HX:=HX.qt hx1;clear hx1;go_wp2_with fail;refine(HN.out _).mono ?_;rintro e w3⟨rfl,hx1⟩;replace HX:=HX.qt hx1;clear hx1;go_wp2_with fail;refine(HI.out _ (HE.out.ext HX.out)).mono ?_;rintro e w4⟨rfl,hx1⟩;replace HX:=HX.qt hx1;clear hx1;go_wp2_with fail;go_ret;exact⟨rfl,HX.out⟩
   ·have g1:decide (1<=v)=true:=by simpa using h1
    have g2:decide (v<=9999)=false:=by simpa using h2
    rw[g1,g2,Oq,OT];generalize Lib.itoa v=it at *;go_enter func204,ntmps204;go_wp2_with fail;refine(HC.out _ HE.out).mono ?_;rintro e w1⟨⟨b,rfl⟩,hx1⟩;have HX:=qh hx1;clear hx1;go_wp2_with fail;refine(HA.out _).mono ?_;rintro e w2⟨rfl,hx1⟩;replace HX:=HX.qt hx1;clear hx1;go_wp2_with fail;refine(HN.out _).mono ?_;rintro e w3⟨rfl,hx1⟩;replace HX:=HX.qt hx1;clear hx1;go_wp2_with fail;go_ret;exact⟨rfl,HX.out⟩
  ·have g1:decide (1<=v)=false:=by simpa using h1
   rw[g1,OT,OT];generalize Lib.itoa v=it at *;go_enter func204,ntmps204;go_wp2_with fail;refine(HC.out _ HE.out).mono ?_;rintro e w1⟨⟨b,rfl⟩,hx1⟩;have HX:=qh hx1;clear hx1;go_wp2_with fail;refine(HA.out _).mono ?_;rintro e w2⟨rfl,hx1⟩;replace HX:=HX.qt hx1;clear hx1;go_wp2_with fail;refine(HN.out _).mono ?_;rintro e w3⟨rfl,hx1⟩;replace HX:=HX.qt hx1;clear hx1;go_wp2_with fail;go_ret;exact⟨rfl,HX.out⟩
 ·have hk':∀v,Lib.atoiAll (cut47 l).2 ≠ .ok v:=fun v h=>hk ⟨v,h⟩
  have HA:=qh (fun W h=>rm (cut47 l).2 hk' (by omega) W h);rw[numOK_bad hk',SF];generalize (cut47 l).1=nm at *;generalize (cut47 l).2=nu at *;clear hk hk' hcl hE;generalize isName nm=ok at *;go_enter func204,ntmps204;go_wp2_with fail;refine(HC.out _ HE.out).mono ?_;rintro e w1⟨⟨b,rfl⟩,hx1⟩;have HX:=qh hx1;clear hx1;go_wp2_with fail;refine(HA.out _ (HE.out.ext HX.out)).mono ?_;rintro e w2⟨⟨n,p,rfl⟩,hx1⟩;replace HX:=HX.qt hx1;clear hx1;go_wp2_with fail;refine(HN.out _).mono ?_;rintro e w3⟨rfl,hx1⟩;replace HX:=HX.qt hx1;clear hx1
  cases ok
  ·skip;go_wp2_with fail;go_ret;exact⟨rfl,HX.out⟩
  ·skip;go_wp2_with fail;go_ret;exact⟨rfl,HX.out⟩
end
end Go.Proofs.YtaegjkllenlfpaaGreatDoor
