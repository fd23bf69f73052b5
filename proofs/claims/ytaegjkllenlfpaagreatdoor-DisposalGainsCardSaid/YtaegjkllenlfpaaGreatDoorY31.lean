/- The seat's texts, part Y31. -/
import Derived.Test.YtaegjkllenlfpaaGreatDoorY26
import Derived.Test.YtaegjkllenlfpaaGreatDoorY28
import Derived.Test.YtaegjkllenlfpaaGreatDoorY29
import Derived.Test.YtaegjkllenlfpaaGreatDoorY30
import Derived.Test.YtaegjkllenlfpaaGreatDoorY37
import Derived.Test.YtaegjkllenlfpaaGreatDoorY35
import Derived.Test.YtaegjkllenlfpaaGreatDoorY36
set_option maxRecDepth 100000
set_option maxHeartbeats 8000000
namespace Go.Proofs.YtaegjkllenlfpaaGreatDoor
open Tryz
variable {ps r:List Fr}{k j m:Nat}{w w':World}{e:TypeId}{xs:List Value}
section
open Go.RowKit
structure TkSt (ls:List LotV) (ps:List Fr) (k:Nat) (R T:List LotV):Prop where
 ok:PicksOK R (ps.drop k)
 nd:(R.map (·.id)).Nodup
 eq:aI ls ps=((aI R (ps.drop k)).1,T++(aI R (ps.drop k)).2)
 old:∀x ∈ R,(∃p ∈ ps.drop k,x.id=p.num)->x ∈ ls
 rl:R.length<=ls.length
 tl:T.length=k
theorem TkSt.start{ls:List LotV}(hn:(ls.map (·.id)).Nodup)(h:PicksOK ls ps):TkSt ls ps 0 ls []:=⟨h,hn,by simp,fun _ hx _=>hx,Mn _,rfl⟩
theorem TkSt.done{ls:List LotV}{R T:List LotV}(h:TkSt ls ps ps.length R T):aI ls ps=(R,T):=by
 have:=h.eq;rw[O9]at this
 rw[this];simp[aI]
theorem TkSt.at_{ls:List LotV}{R T:List LotV}(h:TkSt ls ps k R T)(hk:k<ps.length):∃j,∃hj:j<R.length,findL R (ps[k]'hk).num=some j∧(R[j]'hj).id=(ps[k]'hk).num∧R[j]'hj ∈ ls∧0<valI (ps[k]'hk).den∧valI (ps[k]'hk).den<=valI (R[j]'hj).q∧checkI (ps[k]'hk).den=0:=by
 have hd:=MR hk;have hm:(ps[k]'hk) ∈ ps.drop k:=by rw[hd];exact Re
 obtain⟨x,hx,e,h0,h1⟩:=h.ok.at_ _ hm;obtain⟨j,hj,hf,he⟩:=nF ⟨x,hx,e⟩;have hxe:R[j]'hj=x:=pH h.nd hx (Ml hj) (by rw[he,e]);exact⟨j,hj,hf,he,h.old _ (Ml hj) ⟨_,hm,he⟩,h0,by rw[hxe];exact h1,h.ok.den _ hm⟩
theorem uO{R:List LotV}(hn:(R.map (·.id)).Nodup)(hj:j<R.length):((R.eraseIdx j).map (·.id)).Nodup∧(∀y ∈ R,y.id≠(R[j]'hj).id->y ∈ R.eraseIdx j)∧(∀y ∈ R.eraseIdx j,y ∈ R):=by
 have h3:=uy hj;have hn':=hn;rw[h3]at hn';obtain⟨n1,n2⟩:=sM hn';rw[lM];refine⟨n1,fun y hy hne=>?_,fun y hy=>?_⟩
 ·rw[h3]at hy;simp only[MN,MS]at hy ⊢;rcases hy with a|rfl|a
  ·exact .inl a
  ·exact absurd rfl hne
  ·exact .inr a
 ·rw[h3];simp only[MN,MS]at hy ⊢;rcases hy with a|a
  ·exact .inl a
  ·exact .inr (.inr a)
theorem Fy{R:List LotV}{p:Fr}(hj:j<R.length)(hf:findL R p.num=some j)(hq:(R[j]'hj).q=p.den):aI R (p :: r)=((aI (R.eraseIdx j) r).1,(R[j]'hj) :: (aI (R.eraseIdx j) r).2):=by
 conv=>lhs;unfold aI
 rw[hf];simp only[Mr hj,Mq hq]
theorem Fz{R:List LotV}{p:Fr}(hj:j<R.length)(hf:findL R p.num=some j)(hq:(R[j]'hj).q≠p.den):aI R (p :: r)=((aI (R.set j (cR (R[j]'hj) p.den)) r).1,eF (R[j]'hj) p.den :: (aI (R.set j (cR (R[j]'hj) p.den)) r).2):=by
 conv=>lhs;unfold aI
 rw[hf];simp only[Mr hj,Mj hq]
theorem TkSt.whole{ls:List LotV}{R T:List LotV}(h:TkSt ls ps k R T)(hk:k<ps.length)(hj:j<R.length)(hf:findL R (ps[k]'hk).num=some j)(hq:(R[j]'hj).q=(ps[k]'hk).den):TkSt ls ps (k+1) (R.eraseIdx j) (T++[R[j]'hj]):=by
 have hd:=MR hk;obtain⟨_,he⟩:=mC hf;obtain⟨n1,n2,n3⟩:=uO h.nd hj;have hok:=h.ok;have heq:=h.eq;rw[hd]at hok heq;refine⟨hok.tail _ (fun x hx hne=>n2 x hx (by rw[he hj];exact hne)),n1,?_,fun x hx ⟨p,hp,e⟩=>h.old x (n3 x hx) ⟨p,by rw[hd];exact Nq _ hp,e⟩,?_,by rw[Mp,h.tl];rfl⟩
 ·rw[heq,Fy hj hf hq,Mz];rfl
 ·rw[Sf hj];have:=h.rl;omega
theorem TkSt.part{ls:List LotV}{R T:List LotV}(h:TkSt ls ps k R T)(hk:k<ps.length)(hj:j<R.length)(hf:findL R (ps[k]'hk).num=some j)(hq:(R[j]'hj).q≠(ps[k]'hk).den):TkSt ls ps (k+1) (R.set j (cR (R[j]'hj) (ps[k]'hk).den)) (T++[eF (R[j]'hj) (ps[k]'hk).den]):=by
 have hd:=MR hk;obtain⟨_,he⟩:=mC hf;obtain⟨n1,n2,n3⟩:=uO h.nd hj;have hok:=h.ok;have heq:=h.eq;rw[hd]at hok heq;have hid:(cR (R[j]'hj) (ps[k]'hk).den).id=(R[j]'hj).id:=rfl;have h3:=uy hj;refine⟨hok.tail _ (fun x hx hne=>?_),?_,?_,fun x hx ⟨p,hp,e⟩=>?_,by rw[MM];exact h.rl,by rw[Mp,h.tl];rfl⟩
 ·rw[sL hj];have:=n2 x hx (by rw[he hj];exact hne);rw[lM]at this
  simp only[MN,MS]at this ⊢
  rcases this with a|a
  ·exact .inl a
  ·exact .inr (.inr a)
 ·have:(R.set j (cR (R[j]'hj) (ps[k]'hk).den)).map (·.id)=R.map (·.id):=by
   rw[Qd,hid];apply Oi (by simp);intro m h1 h2;rw[QO];split
   ·rename_i e;subst e;simp
   ·rfl
  rw[this];exact h.nd
 ·rw[heq,Fz hj hf hq,Mz];rfl
 ·rcases QW hx with hx|rfl
  ·exact h.old x hx ⟨p,by rw[hd];exact Nq _ hp,e⟩
  ·have hn1:=hok.nod;rw[MQ,Oe]at hn1;exact absurd (by rw[←he hj,←hid,e];exact N5 hp) hn1.1
theorem KR{ls:List LotV}(hv:∀x ∈ ls,checkL x=0){x:LotV}(hx:x ∈ ls){d:Bs}(hd:checkI d=0)(h0:0<valI d)(hle:valI d<=valI x.q)(hne:x.q≠d):(checkL x≠0∨checkI d≠0)=False∧(valI d<=0∨valI x.q<=valI d)=False:=by
 have:=uz hv hx hd hle hne;have:=hv x hx;exact⟨by simp[*],by simp;omega⟩
end
section
open Go.RowKit Go.Shelf
attribute [local go_sem] size_bs toList_bs
theorem Dr{base g:Nat}{size n:Nat}{v:Value}(h:w.ownsRow base e size v n xs)(ho:Only g w w')(hg:g<base):w'.ownsRow base e size v n xs:=by
 rcases h.2 with ⟨h1,h2⟩ | ⟨k,cap,cur,h1,h2,h3,h4⟩
 ·exact⟨h.1,.inl ⟨h1,h2⟩⟩
 ·have hlt:k<w.heap.size:=(MD.1 h3).1;exact⟨h.1,.inr ⟨k,cap,cur,h1,h2,(No ho k hlt (fun e=>by injection e with e;omega)).trans h3,h4⟩⟩
theorem iB{base:Nat}{size n:Nat}{v:Value}(h:w.ownsRow base e size v n xs):∀k,v.ownBlock=some k->base<=k:=by
 intro k hk;rcases h.2 with ⟨rfl,_⟩ | ⟨g',cap,cur,rfl,hb,_⟩
 ·simp[Value.ownBlock]at hk
 ·have:g'=k:=by simpa[Value.ownBlock] using hk
  omega
theorem Ah{base:Nat}{size n:Nat}{v:Value}(h:w.ownsRow base e size v n xs):∀k,v.ownBlock=some k->k<w.heap.size:=by
 intro k hk;rcases h.2 with ⟨rfl,_⟩ | ⟨g',cap,cur,rfl,hb,h3,_⟩
 ·simp[Value.ownBlock]at hk
 ·have:g'=k:=by simpa[Value.ownBlock] using hk
  have:=(MD.1 h3).1;omega
structure TkAt (W:World) (base g C:Nat) (R T:List LotV) (v:Value) (W':World):Prop where
 ext:Ext W W'
 row:aE W' g C R
 own:pB W' base v T
 le:base<=W'.heap.size
section
variable {W W1 W2:World} {base g C:Nat} {R R' T:List LotV} {v v':Value}
theorem TkAt.on(h:TkAt W base g C R T v W1)(hx:Ext W1 W2):TkAt W base g C R T v W2:=⟨h.ext.trans hx,h.row.ext hx,own_ext2 h.own hx,Mx h.le hx.size⟩
theorem TkAt.to(h:TkAt W base g C R T v W1)(hr:aE W2 g C R')(ho:Only g W1 W2)(hg:W.heap.size<=g∧g<base):TkAt W base g C R' T v W2:=⟨Ext.only h.ext ho hg.1,hr,Dr h.own ho hg.2,Mx h.le ho.size⟩
theorem TkAt.app(h:TkAt W base g C R T v W1){y:LotV}(hg:W.heap.size<=g∧g<base)(hgrow:W1.grownBy W2 v.ownBlock)(hown:W2.ownsRow base 62 7 v' (T.length+1) (bK T++lotCells y)):TkAt W base g C R (T++[y]) v' W2:=by
 have hl:=iB h.own;refine⟨h.ext.grown hgrow (fun k hk=>by have:=hl k hk;omega),?_,?_,Mx h.le (World.grownBy.size hgrow)⟩
 ·obtain⟨cur,hr⟩:=h.row;exact⟨cur,{ hr with blk:=(No hgrow g hr.blk.lt (fun e=>by have:=hl g e.symm;omega)).trans hr.blk }⟩
 ·unfold pB;rw[Mp,show bK (T++[y])=bK T++lotCells y by simp[bK]];exact hown
end
def oD(ls:List LotV)(ps:List Fr)(w:World)(e:Ending)(w':World):Prop:=∃A c B d,e = .returned (.tuple #[.slice A (aI ls ps).1.length c,.slice B (aI ls ps).2.length d,.int .i64 0])∧aK w' A (aI ls ps).1∧aK w' B (aI ls ps).2∧Ext w w'
theorem KS(ls:List LotV)(ps:List Fr)(hp:PicksOK ls ps)(hs:∀x ∈ ls,SmallL x)(hv:checkAllL ls=0)(h0:0<ls.length)(hpl:ps.length<=100000)(hpd:∀p ∈ ps,p.den.length<=5000)(A PA:Option Addr)(c pc:Nat)(hpc:ps.length<=pc)(W:World)(hE:Env W)(hA:aK W A ls)(hP:eH W PA ps) :
  Calls prog 82 #[.slice A ls.length c,.slice PA ps.length pc] W (oD ls ps W):=by
 obtain⟨hln,hva⟩:=av hv;have hnd:=bD hv;have HVA:=qh hva;have HS:=qh hs;have HPD:=qh hpd;have HE:=qh hE;have HA:=qh hA;have HPR:=qh hP;have C1:=qh (fun W hE hA=>dD ls A c W hE hA hs (by omega));rw[hv]at C1;have C2:=qh (fun W hE hA hP=>Af ls ps hp hs hnd (by omega) hpl hpd A PA c pc hpc W hE hA hP);have C3:=qh (fun W hA=>nj ls A c W hA (by omega));have HST:=qh (TkSt.start hnd hp);obtain⟨i0,hI,hz0,hz1,hz2⟩:=Ny nZ;have HI:=qh hI;clear hp hs hpd hE hA hP hI hva hnd hv;go_enter func82,ntmps82;go_wp2_with fail;refine(C1.out _ HE.out HA.out).mono ?_;rintro e w1⟨rfl,hx1⟩;have HX:=qh hx1;clear hx1;go_wp2_with fail;refine(C2.out _ (HE.out.ext HX.out) (HA.out.ext HX.out) (HPR.out.ext HX.out)).mono ?_;rintro e w2⟨rfl,hx1⟩;replace HX:=HX.qt hx1;clear hx1;go_wp2_with fail;refine(C3.out _ (HA.out.ext HX.out)).mono ?_;rintro e w3⟨A3,C,rfl,hx1,hr3⟩;obtain⟨g,rfl,hg3,hrow⟩:=hr3 h0;have HAT:Hid (TkAt W w3.heap.size g C ls [] (.slice none 0 0) w3):=qh ⟨HX.out.trans hx1,hrow,NF _ _ _ _,Mn _⟩;have hgg:W.heap.size<=g∧g<w3.heap.size:=⟨Mx HX.out.size hg3,hrow.lt⟩;generalize w3.heap.size=base at *;clear hx1 hr3 hg3 hrow HX C1 C2 C3;go_wp2_with fail;go_loopw [31,8,9] (fun i v8 v9 wr=>∃k R T A9 c9,k<=ps.length∧i = .int .i64 (k:Nat)∧v8 = .slice (some ⟨g,0,none⟩) R.length C∧v9 = .slice A9 T.length c9∧TkSt ls ps k R T∧TkAt W base g C R T v9 wr) (fun i _ _ _=>ps.length-(intOf i).toNat)
 case atStart=>exact⟨0,ls,[],none,0,by omega,rfl,rfl,rfl,HST.out,HAT.out⟩
 case round =>
  clear HAT HST;obtain⟨k,R,T,A9,c9,hk,rfl,rfl,rfl,hst,hat⟩:=hrel;have HST:=qh hst;have HAT:=qh hat;clear hst hat;by_cases hlt:k<ps.length
  ·have hrl:=HST.out.rl;have hC:C<=9223372036854775807:=by obtain⟨cur,hr⟩:=HAT.out.row;exact hr.big
   have htl:T.length<=100000:=by have:=HST.out.tl;omega
   obtain⟨j,hj,hf,he,hxl,hd0,hd1,hd2⟩:=HST.out.at_ hlt;obtain⟨b,o,hPA,hbl,c0,c1⟩:=(HPR.out.ext HAT.out.ext).at_ hlt;subst hPA;have hki:(k:Int)<(ps.length:Int):=by omega
   have hk0:(0:Int)<=(k:Int):=by omega
   have HW:=qh (fun h=>HST.out.whole hlt hj hf h);have HP:=qh (fun h=>HST.out.part hlt hj hf h);have HCUT:=qh (fun h=>KR HVA.out hxl hd2 hd0 hd1 h);have HSX:=qh (HS.out _ hxl);have hdl:=HPD.out _ (Ml hlt);have BP:=qh (ID wr 124 #[.string (bs (ps[k]'hlt).num),.string (bs (ps[k]'hlt).den)]);have HA1:=qh (HAT.out.on (Id wr (.cells #[.string (bs (ps[k]'hlt).num),.string (bs (ps[k]'hlt).den)] 124)));have HF:=qh (nY R _ C (ps[k]'hlt).num _ HA1.out.row.reads (by omega));clear hd0 hd1 hd2 he hxl;generalize ps[k]'hlt=p at *;obtain⟨pn,pd⟩:=p;simp only at c0 c1 hf hdl;go_wp2_with fail;refine HF.out.mono ?_;rintro e w8⟨rfl,hx8⟩;have HA2:=qh (HA1.out.on hx8);replace BP:=qh (BP.out.ext hx8);obtain⟨p0,p1⟩:=eZ BP.out (iD _);have hxp:=BP.out.lt;generalize wr.heap.size=XP at *;simp only[jv,hf,Rg];clear HF hx8 HA1 HAT;obtain⟨b2,o2,hA7,_,d0,d1,d2,d3,d4,d5,d6⟩:=HA2.out.row.reads.at_ hj;injection hA7 with hA7
   injection hA7 with hA7 hA8
   subst hA7 hA8;simp only[MV]at d0 d1 d2 d3 d4 d5 d6;have hji:(j:Int)<(R.length:Int):=by omega
   have hj0:(0:Int)<=(j:Int):=by omega
   by_cases hq:(R[j]'hj).q=pd
   ·have HN:=qh (HW.out hq);have BX:=qh (ID w8 62 (lc (R[j]'hj)));have hone:=rA (R[j]'hj);have HAP:=qh (fun W1 W2 v' (h:TkAt W base g C R T (.slice A9 T.length c9) W1) h1 h2=>h.app (y:=R[j]'hj) (v':=v') (W2:=W2) hgg h1 h2);have HOWN:=qh (fun W1 (h:TkAt W base g C R T (.slice A9 T.length c9) W1)=>h.own);clear HW HP HCUT HSX;generalize R[j]'hj=x at *;obtain⟨xi,xn,xa,xo,xq,xc,xu⟩:=x;simp only at d0 d1 d2 d3 d4 d5 d6 hq;subst hq;have HA3:=qh (HA2.out.on (Id w8 (.cells (lc ⟨xi,xn,xa,xo,xq,xc,xu⟩) 62)));replace BP:=qh (BP.out.ext (Id w8 (.cells (lc ⟨xi,xn,xa,xo,xq,xc,xu⟩) 62)));clear HA2;go_upto_region 14 with fail;generalize hW9:w8.alloc (.cells (lc ⟨xi,xn,xa,xo,xq,xc,xu⟩) 62)=w9 at *;have HA4:=qh (HA3.out.on (Id w9 (.cells (lc ⟨xi,xn,xa,xo,xq,xc,xu⟩) 62)));generalize w8.heap.size=X8 at *;have OW:Hid ((w9.alloc (.cells #[.string (bs xi),.string (bs xn),.int .i64 xa,.int .i64 xo,.string (bs xq),.string (bs xc),.string (bs xu)] 62)).ownsRow base 62 7 (.slice A9 T.length c9) T.length (bK T)):=qh HA4.out.own;have hsz:=HA4.out.le;obtain⟨x0,x1,x2,x3,x4,x5,x6⟩:=ap BX.out (iD _);go_wp2_with (at_builtin;go_must (refine OE _ rfl (.tmp 51) (.tmp 53) 22 rfl base 62 i0 _ 7 96 NS HI.out hz0 hz1 hz2 rfl (by decide) _ T.length (bK T) rfl OW.out ⟨w9.heap.size,0,none⟩ 1 1 (lotCells ⟨xi,xn,xa,xo,xq,xc,xu⟩) rfl rfl (M7 (M4 w9 _)) hone (by simp only[maxLen];omega) (by omega) hsz ?_);intro v2 w' hown' hgrow hnil;(obtain⟨A3,c3,rfl⟩:=aF hown');clear hnil;(have HA5:=qh (HAP.out _ _ _ HA4.out hgrow hown')));clear HA3 HA4 OW hgrow hown' x0 x1 x2 x3 x4 x5 x6 BX HOWN HAP hsz;refine(Dl R j g C w' HA5.out.row hj hC).mono ?_;rintro e w10⟨rfl,hr10,ho10⟩;have HA6:=qh (HA5.out.to hr10 ho10 hgg);clear hr10 ho10;go_wp2_with fail;go_roundw
    case rel=>exact⟨k+1,R.eraseIdx j,T++[⟨xi,xn,xa,xo,xq,xc,xu⟩],A3,c3,by omega,by go_num,rfl,by rw[Mp];rfl,HN.out,HA6.out⟩
    case measure=>simp[intOf];omega
   ·have HN:=qh (HP.out hq)
    have hcut:ib (R[j]'hj) pd=(eF (R[j]'hj) pd,cR (R[j]'hj) pd,0):=by
     obtain⟨h1,h2⟩:=HCUT.out hq;unfold ib;rw[Mj (by rw[h1];exact id),Mj (by rw[h2];exact id)]
    have hcc:=Im (R[j]'hj) pd HSX.out hdl;rw[hcut]at hcc;have CC:=qh hcc;have hone:=rA (eF (R[j]'hj) pd);have HAP:=qh (fun W1 W2 v' (h:TkAt W base g C R T (.slice A9 T.length c9) W1) h1 h2=>h.app (y:=eF (R[j]'hj) pd) (v':=v') (W2:=W2) hgg h1 h2);have HSET:=qh (fun W1 T' v' (h:TkAt W base g C R T' v' W1)=>h.to (h.row.setl hj (cR (R[j]'hj) pd)) (Only.sets (lotCells (cR (R[j]'hj) pd)) (j*7) _ _ (Mh g W1)) hgg);clear HW HP HCUT HSX hcc hcut;generalize eF (R[j]'hj) pd=y at *;generalize cR (R[j]'hj) pd=z at *;generalize R[j]'hj=x at *;obtain⟨xi,xn,xa,xo,xq,xc,xu⟩:=x;simp only at d0 d1 d2 d3 d4 d5 d6 hq;have hbe:(xq == pd)=false:=by rw[Mt];exact hq
    have HA3:=qh (HA2.out.on (Id w8 (.cells (lc ⟨xi,xn,xa,xo,xq,xc,xu⟩) 62)));clear HA2;go_wp2_with fail;refine(CC.out _ (HE.out.ext HA3.out.ext)).mono ?_;rintro e w9⟨rfl,hx9⟩;have HA4:=qh (HA3.out.on hx9);clear hx9 HA3 CC p0 p1 BP;obtain⟨yi,yn,ya,yo,yq,yc,yu⟩:=y;obtain⟨zi,zn,za,zo,zq,zc,zu⟩:=z;simp only at *;go_upto_region 17 with fail;have hol:=Ah HA4.out.own;have HA5:=qh (HA4.out.on ((Id w9 (.cells (lc ⟨yi,yn,ya,yo,yq,yc,yu⟩) 62)).alloc (.cells (lc ⟨zi,zn,za,zo,zq,zc,zu⟩) 62)));have BY:Hid (Blk ((w9.alloc (.cells (lc ⟨yi,yn,ya,yo,yq,yc,yu⟩) 62)).alloc (.cells (lc ⟨zi,zn,za,zo,zq,zc,zu⟩) 62)) w9.heap.size 62 (lc ⟨yi,yn,ya,yo,yq,yc,yu⟩)):=qh ((ID _ _ _).alloc _);have BZ:Hid (Blk ((w9.alloc (.cells (lc ⟨yi,yn,ya,yo,yq,yc,yu⟩) 62)).alloc (.cells (lc ⟨zi,zn,za,zo,zq,zc,zu⟩) 62)) (w9.heap.size+1) 62 (lc ⟨zi,zn,za,zo,zq,zc,zu⟩)):=qh (Mf _ _ _ _ (by simp));obtain⟨y0,y1,y2,y3,y4,y5,y6⟩:=ap BY.out (iD _);have hnk:Hid (∀k,(Value.slice A9 T.length c9).ownBlock=some k->w9.heap.size+1≠k):=qh (fun k hk=>by have:=hol k hk;omega);simp only at *;generalize (w9.alloc (.cells #[.string (bs yi),.string (bs yn),.int .i64 ya,.int .i64 yo,.string (bs yq),.string (bs yc),.string (bs yu)] 62)).alloc (.cells #[.string (bs zi),.string (bs zn),.int .i64 za,.int .i64 zo,.string (bs zq),.string (bs zc),.string (bs zu)] 62)=w10 at *;generalize w9.heap.size+1=Z9 at *;generalize w9.heap.size=Y9 at *;generalize w8.heap.size=X8 at *;have HA6:=qh (HA5.out.on (Id w10 (.cells (lc ⟨yi,yn,ya,yo,yq,yc,yu⟩) 62)));have BZ2:=qh (BZ.out.ext (Id w10 (.cells (lc ⟨yi,yn,ya,yo,yq,yc,yu⟩) 62)));have OW:Hid ((w10.alloc (.cells #[.string (bs yi),.string (bs yn),.int .i64 ya,.int .i64 yo,.string (bs yq),.string (bs yc),.string (bs yu)] 62)).ownsRow base 62 7 (.slice A9 T.length c9) T.length (bK T)):=qh HA6.out.own;have hsz:=HA6.out.le;clear hol BY HA4 HA5;go_upto_region 18 with (at_builtin;go_must (refine OE _ rfl (.tmp 68) (.tmp 70) 22 rfl base 62 i0 _ 7 96 NS HI.out hz0 hz1 hz2 rfl (by decide) _ T.length (bK T) rfl OW.out ⟨w10.heap.size,0,none⟩ 1 1 (lotCells ⟨yi,yn,ya,yo,yq,yc,yu⟩) rfl rfl (M7 (M4 w10 _)) hone (by simp only[maxLen];omega) (by omega) hsz ?_);intro v2 w' hown' hgrow hnil;(obtain⟨A3,c3,rfl⟩:=aF hown');clear hnil;(have HA7:=qh (HAP.out _ _ _ HA6.out hgrow hown'));(have BZ3:Hid (Blk w' Z9 62 (lc ⟨zi,zn,za,zo,zq,zc,zu⟩)):=qh ((No hgrow Z9 BZ2.out.lt (fun e=>hnk.out _ e.symm rfl)).trans BZ2.out)))
    clear HA6 OW hgrow hown' BZ BZ2 hnk hsz HAP y0 y1 y2 y3 y4 y5 y6 d0 d1 d2 d3 d4 d5 d6;obtain⟨z0,z1,z2,z3,z4,z5,z6⟩:=ap BZ3.out (iD _);obtain⟨b3,o3,hB7,_,d0,d1,d2,d3,d4,d5,d6⟩:=HA7.out.row.reads.at_ hj;injection hB7 with hB7
    injection hB7 with hB7 hB8
    subst hB7 hB8;simp only[MV]at d0 d1 d2 d3 d4 d5 d6;have hfr:=fun m=>HA7.out.row.frozen m
    have HA8:=qh (HSET.out _ _ _ HA7.out);have hls:(R.set j ⟨zi,zn,za,zo,zq,zc,zu⟩).length=R.length:=MM;clear BZ3 HSET HA7;go_wp2_with fail;go_roundw
    case rel=>exact⟨k+1,R.set j ⟨zi,zn,za,zo,zq,zc,zu⟩,T++[⟨yi,yn,ya,yo,yq,yc,yu⟩],A3,c3,by omega,by go_num,by rw[hls],by rw[Mp];rfl,HN.out,HA8.out⟩
    case measure=>simp[intOf];omega
  ·have hke:k=ps.length:=by omega
   subst hke;have hki:¬ ((ps.length:Int)<(ps.length:Int)):=by omega
   have HD:=qh HST.out.done;go_wp2_with fail;refine MI (results_tmp3 rfl _ _ _) rfl ?_;exact⟨some ⟨g,0,none⟩,C,A9,c9,by rw[HD.out];rfl,by rw[HD.out];exact HAT.out.row.reads,by rw[HD.out];exact Reads.own HAT.out.own,HAT.out.ext⟩
theorem KT(A PA:Option Addr)(c pc:Nat)(W:World)(hE:Env W)(hA:aK W A [])(hP:eH W PA []) :
  Calls prog 82 #[.slice A 0 c,.slice PA 0 pc] W (oD [] [] W):=by
 have HE:=qh hE;have HA:=qh hA;have HPR:=qh hP;have C1:=qh (fun W hE hA=>dD [] A c W hE hA (by simp) (by simp));rw[show checkAllL []=0 from rfl]at C1;have C2:=qh (fun W hE hA hP=>Af [] [] ⟨by simp,by simp,by simp⟩ (by simp) (by simp) (by simp) (by simp) (by simp) A PA c pc (by simp) W hE hA hP);have C3:=qh (fun W hA=>nj [] A c W hA (by simp));simp only[Ns]at C1 C2;clear hE hA hP;go_enter func82,ntmps82;go_wp2_with fail;refine(C1.out _ HE.out HA.out).mono ?_;rintro e w1⟨rfl,hx1⟩;have HX:=qh hx1;clear hx1;go_wp2_with fail;refine(C2.out _ (HE.out.ext HX.out) (HA.out.ext HX.out) (HPR.out.ext HX.out)).mono ?_;rintro e w2⟨rfl,hx1⟩;replace HX:=HX.qt hx1;clear hx1;go_wp2_with fail;refine(C3.out _ (HA.out.ext HX.out)).mono ?_;rintro e w3⟨A3,C,rfl,hx1,_⟩;replace HX:=HX.qt hx1;clear hx1 C1 C2 C3;simp only[Ns];go_wp2_with fail;go_loopw [31,8,9] (fun i v8 v9 wr=>i = .int .i64 0∧v8 = .slice A3 0 C∧v9 = .slice none 0 0∧Ext W wr) (fun _ _ _ _=>0)
 case atStart=>exact⟨rfl,rfl,rfl,HX.out⟩
 case round =>
  clear HX;obtain⟨rfl,rfl,rfl,hx⟩:=hrel;have HX:=qh hx;clear hx;go_wp2_with fail;refine MI (results_tmp3 rfl _ _ _) rfl ?_;exact⟨A3,C,none,0,rfl,Reads.nil,Reads.nil,HX.out⟩
theorem xb(ls:List LotV)(ps:List Fr)(hp:PicksOK ls ps)(hs:∀x ∈ ls,SmallL x)(hv:checkAllL ls=0)(hpl:ps.length<=100000)(hpd:∀p ∈ ps,p.den.length<=5000)(A PA:Option Addr)(c pc:Nat)(hpc:ps.length<=pc)(W:World)(hE:Env W)(hA:aK W A ls)(hP:eH W PA ps) :
  Calls prog 82 #[.slice A ls.length c,.slice PA ps.length pc] W (oD ls ps W):=by
 rcases MB ls.length with h0|h0
 ·have e1:=My.1 h0;subst e1
  cases ps with
  |nil=>exact KT A PA c pc W hE hA hP
  |cons p r=>obtain⟨x,hx,_⟩:=hp.at_ p (by simp);simp at hx
 ·exact KS ls ps hp hs hv h0 hpl hpd A PA c pc hpc W hE hA hP
end
section
open Go.RowKit
attribute [local go_sem] size_bs toList_bs
theorem nI{day kind choice:Int}{ins other cur tgt qty amt fee pn pd rn rd sn sd:Bs}{n:Nat}(h:¬ ((day=0∧kind=0)∧(ins=[]∧other=[]∧cur=[]∧tgt=[])∧(qty=[]∧amt=[]∧fee=[]∧pn=[])∧(pd=[]∧rn=[]∧rd=[])∧sn=[]∧sd=[])):fG day kind choice ins other cur tgt qty amt fee pn pd rn rd sn sd n m=false:=by
 rw[Bool.eq_false_iff];intro k;simp only[fG,MJ,MW,List.isEmpty_iff]at k;exact h (by simp[k])
theorem Iz(f:FactV)(pa oa:Option Addr)(n pc m oc:Nat)(hc:f.canc=true)(w:World):Calls prog 62 #[aC f (ae pa n pc) (ae oa m oc),.agg (fj f.key f.stamp)] w fun e w'=>e = .returned (.bool (fG f.day f.kind f.choice f.ins f.other f.cur f.tgt f.qty f.amt f.fee f.price.num f.price.den f.ratio.num f.ratio.den f.share.num f.share.den n m))∧Ext w w':=by
 obtain⟨key,stamp,canc,day,kind,ins,other,cur,tgt,qty,amt,fee,⟨pn,pd⟩,⟨rn,rd⟩,⟨sn,sd⟩,choice⟩:=f;dsimp only at hc ⊢;subst hc;by_cases g:day=0∧kind=0;rotate_left
 ·rw[nI fun k=>g (by simp[k])];exact LQ key stamp day kind _ _ _ _ _ _ _ _ _ _ _ _ _ _ _ _ w g
 obtain⟨rfl,rfl⟩:=g;by_cases g:ins=[]∧other=[]∧cur=[]∧tgt=[];rotate_left
 ·rw[nI fun k=>g (by simp[k])];exact LR key stamp ins other cur tgt _ _ _ _ _ _ _ _ _ _ _ _ w g
 obtain⟨rfl,rfl,rfl,rfl⟩:=g;by_cases g:qty=[]∧amt=[]∧fee=[]∧pn=[];rotate_left
 ·rw[nI fun k=>g (by simp[k])];exact LS key stamp qty amt fee pn _ _ _ _ _ _ _ _ w g
 obtain⟨rfl,rfl,rfl,rfl⟩:=g;by_cases g:pd=[]∧rn=[]∧rd=[];rotate_left
 ·rw[nI fun k=>g (by simp[k])];exact LU key stamp pd rn rd _ _ _ _ _ w g
 obtain⟨rfl,rfl,rfl⟩:=g;by_cases g:sn=[]∧sd=[];rotate_left
 ·rw[nI fun k=>g (by simp[k])];exact LV key stamp sn sd  _ _ _ w g
 obtain⟨rfl,rfl⟩:=g;by_cases h:n=0;rotate_left
 ·have e:fG 0 0 choice [] [] [] [] [] [] [] [] [] [] [] [] [] n m=false:=by unfold fG;simp[h]
  rw[e];exact Dm key stamp pa oa pc oc n m choice h w
 subst h;by_cases h:m=0;rotate_left
 ·have e:fG 0 0 choice [] [] [] [] [] [] [] [] [] [] [] [] [] 0 m=false:=by unfold fG;simp[h]
  rw[e];exact Dn key stamp pa oa pc oc m choice h w
 subst h;by_cases h:choice=0;rotate_left
 ·have e:fG 0 0 choice [] [] [] [] [] [] [] [] [] [] [] [] [] 0 0=false:=by unfold fG;simp[h]
  rw[e];exact Dp key stamp pa oa pc oc choice h w
 subst h;exact Dq key stamp pa oa pc oc w
end
end Go.Proofs.YtaegjkllenlfpaaGreatDoor
