/- The seat's texts, part Y26. -/
import Derived.Test.YtaegjkllenlfpaaGreatDoorY25
set_option maxRecDepth 100000
set_option maxHeartbeats 8000000
namespace Go.Proofs.YtaegjkllenlfpaaGreatDoor
open Tryz
variable {ins q:Bs}{ps:List Fr}{k g c GO base:Nat}{U W w7 w9 wr w:World}
section
open Go.RowKit
theorem uN{α:Type} [BEq α] [LawfulBEq α]:∀(l m:List α),l.Nodup->(∀x ∈ l,x ∈ m)->l.length<=m.length
 |[],_,_,_=>Om _
 |a :: t,m,hn,hs=>by
  rw[Oe]at hn;have ha:=hs a (Re ..);have h1:=uN t (m.erase a) hn.2 (fun x hx=>(List.mem_erase_of_ne (fun e=>hn.1 (by rw[←e];exact hx))).2 (hs x (Nq _ hx)));rw[List.length_erase_of_mem ha]at h1;have:=List.length_pos_of_mem ha;simp only[MG];omega
structure PickIn (ls:List LotV) (ins:Bs) (ps:List Fr):Prop where
 ok:PicksOK ls ps
 own:∀p ∈ ps,∀x ∈ ls,x.id=p.num->x.ins=ins
 len:ps.length<=(ofL ls ins).length
 short:∀p ∈ ps,p.den.length<=1001
theorem Ix{ls:List LotV}{m:Int}(hall:checkAllL ls=0)(hs:∀x ∈ ls,SmallL x)(hq:checkI q=0)(hq0:0<valI q)(hql:q.length<=1000)(hh:valI q<=totQ ls ins):PickIn ls ins (choose ls ins q m ps).out∧jS (choose ls ins q m ps).out=valI q:=by
 have hck:=av hall;have hnd:=bD hall;obtain⟨C,hr⟩:=Ct (m:=m) (ps:=ps) (ins:=ins) hnd hq hq0 hh (fun x hx=>Oj (bg (hck.2 x hx)).2.2.1);have hsh:=C.short hql (fun x hx=>(hs x (cj hx).1).2.2.1);generalize choose ls ins q m ps=s at *;refine⟨⟨⟨C.nod,fun p hp=>?_,fun p hp=>(C.den p hp).1⟩,fun p hp x hx e=>?_,?_,hsh.2⟩,by have:=C.sum;omega⟩
 ·obtain⟨x,hx,e⟩:=C.mem p hp;have h1:=C.le x hx;rw[e,wY C.nod hp]at h1;exact⟨x,(cj hx).1,e,(C.den p hp).2,h1⟩
 ·obtain⟨y,hy,e2⟩:=C.mem p hp;obtain⟨hy1,hy2⟩:=cj hy;have:=pH hnd hy1 hx (e.trans e2.symm);rw[this];exact hy2
 ·have h1:=uN (s.out.map (·.num)) ((ofL ls ins).map (·.id)) C.nod (fun z hz=>by
   obtain⟨p,hp,rfl⟩:=MH.1 hz;obtain⟨x,hx,e⟩:=C.mem p hp;exact MH.2 ⟨x,hx,e⟩)
  simpa using h1
theorem r8{ls:List LotV}(hall:checkAllL ls=0)(h:PickIn ls ins ps)(hk:k<ps.length):∃hk':k<(aI ls ps).2.length,∃x ∈ ls,x.ins=ins∧x.id=(ps[k]'hk).num∧(aI ls ps).2[k]'hk'=(if x.q=(ps[k]'hk).den then x else eF x (ps[k]'hk).den):=by
 have hnd:=bD hall;have e:=ie ps ls hnd h.ok;have hp:ps[k]'hk ∈ ps:=Ml hk;obtain⟨x,hx,e1,_⟩:=h.ok.at_ _ hp;have hk':k<(aI ls ps).2.length:=by rw[e];simpa using hk
 refine⟨hk',x,hx,h.own _ hp x hx e1,e1,?_⟩;have:(aI ls ps).2[k]'hk'=kO ls (ps[k]'hk):=by simp[e]
 rw[this,rX hnd hx e1]
theorem iA{ls:List LotV}(hall:checkAllL ls=0)(h:PickIn ls ins ps):(aI ls ps).2.length=ps.length:=by
 rw[ie ps ls (bD hall) h.ok];simp
theorem wZ{ls:List LotV}(hall:checkAllL ls=0)(h:PickIn ls ins ps)(hk:k<ps.length):∃hk':k<(aI ls ps).2.length,((aI ls ps).2[k]'hk').q=(ps[k]'hk).den∧((aI ls ps).2[k]'hk').id=(ps[k]'hk).num∧((aI ls ps).2[k]'hk').ins=ins:=by
 obtain⟨hk',x,_,h1,h2,h3⟩:=r8 hall h hk;refine⟨hk',?_⟩;rw[h3];split
 ·rename_i e;exact⟨e,h2,h1⟩
 ·exact⟨rfl,h2,h1⟩
theorem Dd{ls:List LotV}(hall:checkAllL ls=0)(h:PickIn ls ins ps):(aI ls ps).2.map (·.q)=ps.map (·.den):=by
 apply Oi
 ·simp[iA hall h]
 ·intro i h1 h2;simp only[Nb]at h1 h2;obtain⟨_,e,_⟩:=wZ hall h h2;simpa using e
theorem pL{ls:List LotV}(hall:checkAllL ls=0)(h:PickIn ls ins ps)(h0:0<ps.length):WtOK ((aI ls ps).2.map (·.q)):=by
 have hck:=av hall;have hle:(ofL ls ins).length<=ls.length:=M8 _ _;have hl:=h.len;rw[Dd hall h]
 have hmem:∀b ∈ ps.map (·.den),∃p ∈ ps,p.den=b:=fun b hb=>by
  obtain⟨p,hp,e⟩:=MH.1 hb;exact⟨p,hp,e⟩
 have hpos:∀b ∈ ps.map (·.den),0<valI b:=fun b hb=>by
  obtain⟨p,hp,rfl⟩:=hmem b hb;obtain⟨_,_,_,e,_⟩:=h.ok.at_ p hp;exact e
 refine⟨by simpa using h0,by simp;omega,fun b hb=>?_,fun b hb=>?_,fun b hb=>Oj (hpos b hb),?_⟩
 ·obtain⟨p,hp,rfl⟩:=hmem b hb;have:=h.short p hp;omega
 ·obtain⟨p,hp,rfl⟩:=hmem b hb;exact h.ok.den p hp
 ·have hl0:0<(ps.map (·.den)).length:=by simpa using h0
  clear hmem hl hle;generalize ps.map (·.den)=l at *
  cases l with
  |nil=>exact absurd hl0 (by simp)
  |cons a r =>
   have h1:=hpos a (Re ..)
   have h2:0<=aV r:=by
    unfold aV;refine eU _ fun z hz=>?_
    obtain⟨b,hb,rfl⟩:=MH.1 hz;exact Oj (hpos b (Nq _ hb))
   unfold aV at h2 ⊢;simp only[MQ,Nz];omega
end
section
open Go.RowKit Go.Shelf
attribute [local go_sem] size_bs toList_bs
theorem zZ(p:Fr)(hp:p.den.length<=100000)(W:World)(hE:Env W):Calls prog 74 #[wP p] W fun e w'=>e = .returned (.bool (iy p))∧Ext W w':=by
 have HE:=qh hE;have HK:=qh (dq p.den hp);have HP:=qh (jL p.den hp);obtain⟨q0,q1⟩:=eZ (ID W 124 #[.string (bs p.num),.string (bs p.den)]) (iD _);have B0:=qh (ID W 124 #[.string (bs p.num),.string (bs p.den)]);have HX:Hid (Ext W (W.alloc (.cells #[.string (bs p.num),.string (bs p.den)] 124))):=qh (Id _ _);have hbp:iy p=(!(checkI p.den == 0) || !decide (0<valI p.den)):=rfl;rw[hbp];clear hbp hE;obtain⟨pn,pd⟩:=p;simp only at *;by_cases hc:checkI pd=0
 ·rw[hc]at HK ⊢;generalize decide (0<valI pd)=b at *;go_enter func74,ntmps74;go_wp2_with fail;refine(HK.out _ (HE.out.ext HX.out)).mono ?_;rintro e w1⟨rfl,hx1⟩;replace HX:=HX.qt hx1;obtain⟨q0,q1⟩:=eZ B0.out hx1;clear hx1;go_wp2_with fail;refine(HP.out _ (HE.out.ext HX.out)).mono ?_;rintro e w2⟨rfl,hx2⟩;replace HX:=HX.qt hx2;clear hx2;go_wp2_with fail;go_ret;exact⟨rfl,HX.out⟩
 ·have g1:(checkI pd == 0)=false:=by rw[Mt];exact hc
  have g2:(checkI pd != 0)=true:=by rw[Nc];exact hc
  rw[g1];generalize checkI pd=ck at *;go_enter func74,ntmps74;go_wp2_with fail;refine(HK.out _ (HE.out.ext HX.out)).mono ?_;rintro e w1⟨rfl,hx1⟩;replace HX:=HX.qt hx1;clear hx1;go_wp2_with fail;go_ret;exact⟨rfl,HX.out⟩
def r9(ls:List LotV)(ins q:Bs)(m:Int)(ps:List Fr)(w:World)(e:Ending)(w':World):Prop:=∃v,e = .returned (.tuple #[v,.int .i64 0])∧eG w' w.heap.size v (choose ls ins q m ps).out∧Ext w w'
structure ChsIn (ls:List LotV) (ins q:Bs) (n:Nat) (ps:List Fr):Prop where
 n1:1<=n
 n6:n<=6
 sm:∀x ∈ ls,SmallL x
 all:checkAllL ls=0
 cq:checkI q=0
 q0:0<valI q
 tot:valI q<=totQ ls ins
 ql:q.length<=1000
 bad:n=5->ps.any iy=false
 pl:ps.length<=1000∧∀p ∈ ps,p.den.length<=1000
theorem ChsIn.own{ls:List LotV}{n:Nat}(h:ChsIn ls ins q n ps):(∀x ∈ ofL ls ins,VS x)∧((ofL ls ins).map (·.id)).Nodup∧(ofL ls ins).length<=1000∧ChoOK (ofL ls ins) (valI q) ⟨[],q⟩∧(∀x ∈ ofL ls ins,x.q.length<=1000):=by
 obtain⟨hl,hv⟩:=av h.all;have hm:∀x ∈ ofL ls ins,x ∈ ls:=fun x hx=>(cj hx).1
 refine⟨fun x hx=>⟨h.sm x (hm x hx),(bg (hv x (hm x hx))).2.2.1⟩,jJ (bD h.all) ins,?_,Dc h.cq h.q0 h.tot (fun x hx=>Oj (bg (hv x hx)).2.2.1),fun x hx=>(h.sm x (hm x hx)).2.2.1⟩;have:(ofL ls ins).length<=ls.length:=M8 _ _;omega
theorem pM{own:List LotV}{s:Cho}(hok:ChoOK own (valI q) s)(hq:q.length<=1000)(hs:∀x ∈ own,x.q.length<=1000)(hlen:s.out.length<=100000){x:LotV}(hx:x ∈ own)(most:Bs)(hm:most.length<=1000)(W0 U0:World)(GO GQ:Nat)(hE:∀W',Only GQ W0 W'->Env W')(hg:W0.heap.size<=GO∧GO≠GQ)(W:World)(h:ChM W0 U0 GO GQ s W) :
  Calls prog 77 #[lv x,.string (bs most),.pointer (some ⟨GO,0,none⟩),.pointer (some ⟨GQ,0,none⟩)] W (fR W0 U0 GO GQ s x most):=by
 obtain⟨h1,h2⟩:=hok.short hq hs;have hb:ChB1 s:=⟨by omega,fun p hp=>by have:=h2 p hp;omega,hlen⟩;have hxq:=hs x hx
 cases hp:aW s.out x.id with
 |none=>exact Da x (by omega) most (by omega) W0 U0 GO GQ hE hg s hb hp W h
 |some i=>exact Db x (by omega) most (by omega) W0 U0 GO GQ hE hg s hb (by have:=hok.leftS hx hxq;omega) i hp W h
theorem aE.ty{L:List LotV}(h:aE U g c L)(ht:je U W):aE W g c L:=by
 obtain⟨cur,h⟩:=h;exact⟨cur,{ h with blk:=ht _ _ _ h.blk (by decide) (by decide) (by decide) }⟩
theorem Ad{ls:List LotV}{n:Nat}(h:n≠5):choose ls ins q n ps=Cho.all ⟨[],q⟩ (bv n (ofL ls ins)):=by
 unfold choose;rw[Mj (by omega)]
theorem ChM.fin{s:Cho}(h:ChM w7 w9 GO W.heap.size s wr)(hx:Ext W w7):∃v,Blk wr GO 27 #[v]∧eG wr W.heap.size v s.out∧Ext W wr:=by
 obtain⟨v,ob,ow⟩:=h.o;exact⟨v,ob,sD ow hx.size,h.ext.toExt hx (Mn _)⟩
theorem De(ls:List LotV)(ins q:Bs)(n:Nat)(ps:List Fr)(hi:ChsIn ls ins q n ps)(hn5:n≠5)(A PA:Option Addr)(c pc:Nat)(W:World)(hE:Env W)(hA:aK W A ls) :
  Calls prog 23 #[.slice A ls.length c,.string (bs ins),.string (bs q),.int .i64 n,.slice PA ps.length pc] W (r9 ls ins q n ps W):=by
 have hls:=(av hi.all).1;have HI:=qh hi;have HE:=qh hE;have HA:=qh hA;obtain⟨ov,on,ol,ok,oq⟩:=hi.own;have HOV:=qh ov;have HON:=qh on;have HOK:=qh ok;have HOQ:=qh oq;have hql:=hi.ql;have C1:=qh (fun W hE hA=>dD ls A c W hE hA hi.sm (by omega));rw[hi.all]at C1;have C2:=qh (dq q (by omega));rw[hi.cq]at C2;have C3:=qh (kR n hi.n1 hi.n6);have C4:=qh (fun W hE hA=>gW ls A c ins W hE hA hi.sm (by omega));have hp:=jL q (by omega);rw[show decide (0<valI q)=true by rw[MW];exact hi.q0]at hp;have C5:=qh hp;have htl:=kE (ls:=ls) ins ls.length hi.sm (by omega);rw[MK]at htl;have hc6:=cmpP (ofI (totQ ls ins)) q (by omega) (by omega);rw[valI_ofI]at hc6;have C6:=qh hc6
 have g6:decide (cmpI (totQ ls ins) (valI q)<0)=false:=by
  have:=@cX (totQ ls ins) (valI q);have:=hi.tot;rw[Mi];omega
 have C7:=qh (fun W hA=>nk ls A c ins W hA (by omega));have g5:((n:Int) == 5)=false:=by rw[Mt];omega
 have HB:=qh (ID W 24 #[.string (bs q)]);have HX:Hid (Ext W (W.alloc (.cells #[.string (bs q)] 24))):=qh (Id _ _);have q0:=boxCell HB.out;generalize cmpI (totQ ls ins) (valI q)=k6 at *;generalize ofI (totQ ls ins)=tq at *;generalize ofI (totC ls ins)=tc at *;clear hE hA hi ov on ok oq hp hc6 htl;go_enter func23,ntmps23;go_wp2_with fail;refine(C1.out _ (HE.out.ext HX.out) (HA.out.ext HX.out)).mono ?_;rintro e w1⟨rfl,hx1⟩;replace HX:=HX.qt hx1;replace HB:=qh (HB.out.ext hx1);clear hx1 q0;have q0:=boxCell HB.out;go_wp2_with fail;refine(C2.out _ (HE.out.ext HX.out)).mono ?_;rintro e w2⟨rfl,hx1⟩;replace HX:=HX.qt hx1;replace HB:=qh (HB.out.ext hx1);clear hx1 q0;have q0:=boxCell HB.out;go_wp2_with fail;refine(C3.out _).mono ?_;rintro e w3⟨G,rfl,hG,hGs,hx1⟩;obtain⟨nm,kf,cb,hep⟩:=rZ G n HI.out.n1 HI.out.n6;rw[hep.eq];replace HX:=HX.qt hx1;replace HB:=qh ((HB.out.ext hx1).ext (Id w3 (.cells #[.string nm,.func (.func kf) #[] cb,.bool (decide (n=2))] 129)));have HXE:=qh (HX.out.trans (Id w3 (.cells #[.string nm,.func (.func kf) #[] cb,.bool (decide (n=2))] 129)));have BE:=qh (ID w3 129 #[.string nm,.func (.func kf) #[] cb,.bool (decide (n=2))]);have BG:=qh (hG.ext (Id w3 (.cells #[.string nm,.func (.func kf) #[] cb,.bool (decide (n=2))] 129)));have HEP:=qh hep;clear hx1 q0 hG hep HX hGs;go_wp2_with fail;refine(C4.out _ (HE.out.ext HXE.out) (HA.out.ext HXE.out)).mono ?_;rintro e w4⟨rfl,hx1⟩;generalize w3.heap.size=E at *;replace HX:=HXE.qt hx1;replace HB:=qh (HB.out.ext hx1);replace BE:=qh (BE.out.ext hx1);replace BG:=qh (BG.out.ext hx1);clear hx1 HXE;have q0:=boxCell HB.out;go_wp2_with fail;refine(C5.out _ (HE.out.ext HX.out)).mono ?_;rintro e w5⟨rfl,hx1⟩;replace HX:=HX.qt hx1;replace HB:=qh (HB.out.ext hx1);replace BE:=qh (BE.out.ext hx1);replace BG:=qh (BG.out.ext hx1);clear hx1 q0;have q0:=boxCell HB.out;go_wp2_with fail;refine(C6.out _ (HE.out.ext HX.out)).mono ?_;rintro e w6⟨rfl,hx1⟩;replace HX:=HX.qt hx1;replace HB:=qh (HB.out.ext hx1);replace BE:=qh (BE.out.ext hx1);replace BG:=qh (BG.out.ext hx1);clear hx1 q0;go_wp2_with fail;refine(C7.out _ (HA.out.ext HX.out)).mono ?_;rintro e w7⟨A7,c7,rfl,ho7,hc7,hx1⟩;have HX7:=HX.qt hx1;have HRD:Hid (aK (w7.alloc (.cells #[.slice none 0 0] 27)) A7 (ofL ls ins)):=qh (aK.ext (Reads.own ho7) (Id _ _));have BE8:=qh ((BE.out.ext hx1).ext (Id w7 (.cells #[.slice none 0 0] 27)));have BG8:=qh ((BG.out.ext hx1).ext (Id w7 (.cells #[.slice none 0 0] 27)));have HM8:Hid (ChM w7 w7 w7.heap.size W.heap.size ⟨[],q⟩ (w7.alloc (.cells #[.slice none 0 0] 27))):=qh ⟨Only.of_ext (Id _ _),⟨.slice none 0 0,ID _ _ _,NF _ _ _ _⟩,(HB.out.ext hx1).ext (Id _ _),(je.refl _).ext (Id _ _)⟩;have HEV:Hid (∀W',Only W.heap.size w7 W'->Env W'):=qh (fun W' h=>HE.out.ext (h.toExt HX7.out (Mn _)));have HGG:Hid (w7.heap.size<=w7.heap.size∧w7.heap.size≠W.heap.size):=qh ⟨Mn _,by have:=(HB.out.ext hx1).lt;omega⟩;have C8:=sP n HI.out.n1 HI.out.n6 G (ofL ls ins) HOV.out A7 c7 _ (HEV.out _ HM8.out.ext) BG8.out HRD.out (by omega);rw[HEP.out.eq]at C8;have C8:=qh C8;have b0:=BE8.out.cell 0;have b1:=BE8.out.cell 1;have b2:=BE8.out.cell 2;simp only[Mk,Mm,Ms]at b0 b1 b2;clear hx1 ho7 hc7 HB BE BG HX C1 C2 C3 C4 C5 C6 C7 HRD BG8 BE8 HEP HOV;generalize hGO:w7.heap.size=GO at *;generalize hGQ:W.heap.size=GQ at *;go_wp2_with fail;refine C8.out.mono ?_;rintro e w9⟨A9,c9,rfl,hrow,hx9⟩
 have HM9:Hid (ChM w7 w9 GO GQ (jp ⟨[],q⟩ (bv n (ofL ls ins)) 0) w9):=qh (by
  have h:=HM8.out.on hx9;exact⟨h.ext,h.o,h.q,je.refl _⟩)
 have HROW:=qh hrow;have hLn:(bv n (ofL ls ins)).length=(ofL ls ins).length:=(gG n (ofL ls ins)).length_eq.symm;have HLn:=qh hLn;have HMEM:Hid (∀x ∈ bv n (ofL ls ins),x ∈ ofL ls ins):=qh (fun x hx=>(gG n (ofL ls ins)).mem_iff.2 hx);have HAK:=qh (r7 HOK.out HON.out HMEM.out);have HAL:=qh (pK ⟨[],q⟩ (bv n (ofL ls ins)));clear C8 HM8 hx9 hrow b0 b1 b2 hLn;go_wp2_with fail;go_loopw [95,24] (fun i _ wr=>∃k:Nat,k<=(ofL ls ins).length∧i = .int .i64 k∧ChM w7 w9 GO GQ (jp ⟨[],q⟩ (bv n (ofL ls ins)) k) wr) (fun i _ _=>(ofL ls ins).length-(intOf i).toNat)
 case atStart=>exact⟨0,by omega,rfl,HM9.out⟩
 case round =>
  clear HM9;obtain⟨k,hk,rfl,hm⟩:=hrel;have HM:=qh hm;clear hm;by_cases hlt:k<(ofL ls ins).length
  ·obtain⟨g9,rfl,hr9⟩:=HROW.out (by omega);have hkL:k<(bv n (ofL ls ins)).length:=by rw[HLn.out];exact hlt
   obtain⟨b,o,e1,_,c0,c1,c2,c3,c4,c5,c6⟩:=(hr9.ty HM.out.ty).reads.at_ hkL;simp only[On,PS,Qx]at e1;obtain⟨rfl,rfl⟩:=e1;simp only[MV]at c0 c1 c2 c3 c4 c5 c6;have HT:=qh (pM (HAK.out k (by omega)) HI.out.ql HOQ.out (by have:=HAL.out k (by omega);simp at this;omega) (HMEM.out _ (Ml hkL)) ((bv n (ofL ls ins))[k]'hkL).q (HOQ.out _ (HMEM.out _ (Ml hkL))) w7 w9 GO GQ HEV.out (by rw[hGO];exact HGG.out) _ (HM.out.on (Id wr (.cells (lc ((bv n (ofL ls ins))[k]'hkL)) 62))));have HNX:=qh (ll (s:=⟨[],q⟩) hkL);have hki:(k:Int)<((ofL ls ins).length:Int):=by omega
   have hk0:(0:Int)<=(k:Int):=by omega
   unfold fR at HT;rw[←HNX.out]at HT;clear hr9 HNX;generalize (bv n (ofL ls ins))[k]'hkL=x at *;obtain⟨xi,xn,xa,xo,xq,xc,xu⟩:=x;simp only at c0 c1 c2 c3 c4 c5 c6;go_wp2_with fail;refine HT.out.mono ?_;rintro e wz⟨rfl,hmz⟩;have HMZ:=qh hmz;clear hmz;go_wp2_with fail;go_roundw
   case rel=>exact⟨k+1,by omega,by go_num,HMZ.out⟩
   case measure=>simp[intOf];omega
  ·have hke:k=(ofL ls ins).length:=by omega
   have HF:Hid (∃v,Blk wr GO 27 #[v]∧eG wr W.heap.size v (choose ls ins q n ps).out∧Ext W wr):=qh (by
    have h:=HM.out;rw[←hGQ,hke,←HLn.out,sU,←Ad (ps:=ps) hn5]at h;exact h.fin HX7.out)
   obtain⟨v,hv1,hv2,hv3⟩:=HF.out;have q9:=boxCell hv1;have HV:=qh (MC hv2 hv3);clear hv1 hv2 hv3 HF;have hki:¬ ((k:Int)<((ofL ls ins).length:Int)):=by omega
   go_wp2_with fail;refine MI (Rf rfl _ _ _) rfl ?_;exact⟨v,rfl,HV.out⟩
theorem Fw{A:Option Addr}{L:List LotV}(h:pB w base (.slice A L.length c) L):0<L.length->∃g,A=some ⟨g,0,none⟩∧aE w g c L:=fun h0=>by
 rcases h.2 with ⟨h1,h2⟩ | ⟨g,cap,cur,h1,h2,_⟩
 ·omega
 ·injection h1 with e1 e2 e3
  subst e1 e3;exact⟨g,rfl,(Row.of_own h).2⟩
theorem Iy{A:Option Addr}{L:List LotV}(h:0<L.length->∃g,A=some ⟨g,0,none⟩∧aE U g c L)(ht:je U W):aK W A L:=by
 rcases MB L.length with h0|h0
 ·have:=My.1 h0;subst this;exact Reads.nil
 ·obtain⟨g,rfl,hr⟩:=h h0;exact(hr.ty ht).reads
theorem Df{ls:List LotV}{n:Nat}(h:n=5):choose ls ins q n ps=Cho.all (gB (ofL ls ins) ps q ps.length) (bv n (ofL ls ins)):=by
 unfold choose;rw[Mq (by omega),zX]
theorem Dg(ls:List LotV)(ins q:Bs)(n:Nat)(ps:List Fr)(hi:ChsIn ls ins q n ps)(hn5:n=5)(A PA:Option Addr)(c pc:Nat)(W:World)(hE:Env W)(hA:aK W A ls)(hP:eH W PA ps) :
  Calls prog 23 #[.slice A ls.length c,.string (bs ins),.string (bs q),.int .i64 n,.slice PA ps.length pc] W (r9 ls ins q n ps W):=by
 subst hn5;have hls:=(av hi.all).1;have HI:=qh hi;have HE:=qh hE;have HA:=qh hA;obtain⟨ov,on,ol,ok,oq⟩:=hi.own;have HOV:=qh ov;have HON:=qh on;have HOK:=qh ok;have HOQ:=qh oq;have hql:=hi.ql;have C1:=qh (fun W hE hA=>dD ls A c W hE hA hi.sm (by omega));rw[hi.all]at C1;have C2:=qh (dq q (by omega));rw[hi.cq]at C2;have C3:=qh (kR 5 hi.n1 hi.n6);have C4:=qh (fun W hE hA=>gW ls A c ins W hE hA hi.sm (by omega));have hp:=jL q (by omega);rw[show decide (0<valI q)=true by rw[MW];exact hi.q0]at hp;have C5:=qh hp;have htl:=kE (ls:=ls) ins ls.length hi.sm (by omega);rw[MK]at htl;have hc6:=cmpP (ofI (totQ ls ins)) q (by omega) (by omega);rw[valI_ofI]at hc6;have C6:=qh hc6
 have g6:decide (cmpI (totQ ls ins) (valI q)<0)=false:=by
  have:=@cX (totQ ls ins) (valI q);have:=hi.tot;rw[Mi];omega
 have C7:=qh (fun W hA=>nk ls A c ins W hA (by omega));have hpl:=hi.pl.1;have HPR:=qh hP;have HPD:=qh hi.pl.2;have hc9:=fun W' (hx:Ext W W')=>li 74 #[] (fun _ _=>by rfl) iy ps PA pc W' (hP.ext hx) (by omega) (fun p hp U hu=>zZ p (by have:=hi.pl.2 p hp;omega) U (hE.ext (hx.trans hu)))
 simp only[hi.bad rfl]at hc9;have C9:=qh hc9;clear hc9;have HB:=qh (ID W 24 #[.string (bs q)]);have HX:Hid (Ext W (W.alloc (.cells #[.string (bs q)] 24))):=qh (Id _ _);have q0:=boxCell HB.out;generalize cmpI (totQ ls ins) (valI q)=k6 at *;generalize ofI (totQ ls ins)=tq at *;generalize ofI (totC ls ins)=tc at *;clear hE hA hP hi ov on ok oq hp hc6 htl;go_enter func23,ntmps23;go_wp2_with fail;refine(C1.out _ (HE.out.ext HX.out) (HA.out.ext HX.out)).mono ?_;rintro e w1⟨rfl,hx1⟩;replace HX:=HX.qt hx1;replace HB:=qh (HB.out.ext hx1);clear hx1 q0;have q0:=boxCell HB.out;go_wp2_with fail;refine(C2.out _ (HE.out.ext HX.out)).mono ?_;rintro e w2⟨rfl,hx1⟩;replace HX:=HX.qt hx1;replace HB:=qh (HB.out.ext hx1);clear hx1 q0;have q0:=boxCell HB.out;go_wp2_with fail;refine(C9.out _ HX.out).mono ?_;rintro e w2b⟨rfl,hx1⟩;replace HX:=HX.qt hx1;replace HB:=qh (HB.out.ext hx1);clear hx1 q0;have q0:=boxCell HB.out;go_wp2_with fail;refine(C3.out _).mono ?_;rintro e w3⟨G,rfl,hG,hGs,hx1⟩;obtain⟨nm,kf,cb,hep⟩:=rZ G 5 HI.out.n1 HI.out.n6;have heq:=hep.eq;generalize decide ((5:Nat)=2)=bb at heq;rw[heq];replace HX:=HX.qt hx1;replace HB:=qh ((HB.out.ext hx1).ext (Id w3 (.cells #[.string nm,.func (.func kf) #[] cb,.bool (bb)] 129)));have HXE:=qh (HX.out.trans (Id w3 (.cells #[.string nm,.func (.func kf) #[] cb,.bool (bb)] 129)));have BE:=qh (ID w3 129 #[.string nm,.func (.func kf) #[] cb,.bool (bb)]);have BG:=qh (hG.ext (Id w3 (.cells #[.string nm,.func (.func kf) #[] cb,.bool (bb)] 129)));have HEP:=qh heq;clear heq;clear hx1 q0 hG hep HX hGs;go_wp2_with fail;refine(C4.out _ (HE.out.ext HXE.out) (HA.out.ext HXE.out)).mono ?_;rintro e w4⟨rfl,hx1⟩;generalize w3.heap.size=E at *;replace HX:=HXE.qt hx1;replace HB:=qh (HB.out.ext hx1);replace BE:=qh (BE.out.ext hx1);replace BG:=qh (BG.out.ext hx1);clear hx1 HXE;have q0:=boxCell HB.out;go_wp2_with fail;refine(C5.out _ (HE.out.ext HX.out)).mono ?_;rintro e w5⟨rfl,hx1⟩;replace HX:=HX.qt hx1;replace HB:=qh (HB.out.ext hx1);replace BE:=qh (BE.out.ext hx1);replace BG:=qh (BG.out.ext hx1);clear hx1 q0;have q0:=boxCell HB.out;go_wp2_with fail;refine(C6.out _ (HE.out.ext HX.out)).mono ?_;rintro e w6⟨rfl,hx1⟩;replace HX:=HX.qt hx1;replace HB:=qh (HB.out.ext hx1);replace BE:=qh (BE.out.ext hx1);replace BG:=qh (BG.out.ext hx1);clear hx1 q0;go_wp2_with fail;refine(C7.out _ (HA.out.ext HX.out)).mono ?_;rintro e w7⟨A7,c7,rfl,ho7,hc7,hx1⟩;have HX7:=HX.qt hx1;have HOW:=qh (Fw ho7);have BE8:=qh ((BE.out.ext hx1).ext (Id w7 (.cells #[.slice none 0 0] 27)));have BG8:=qh ((BG.out.ext hx1).ext (Id w7 (.cells #[.slice none 0 0] 27)));have HM8:Hid (ChM w7 w7 w7.heap.size W.heap.size ⟨[],q⟩ (w7.alloc (.cells #[.slice none 0 0] 27))):=qh ⟨Only.of_ext (Id _ _),⟨.slice none 0 0,ID _ _ _,NF _ _ _ _⟩,(HB.out.ext hx1).ext (Id _ _),(je.refl _).ext (Id _ _)⟩;have HEV:Hid (∀W',Only W.heap.size w7 W'->Env W'):=qh (fun W' h=>HE.out.ext (h.toExt HX7.out (Mn _)));have HGG:Hid (w7.heap.size<=w7.heap.size∧w7.heap.size≠W.heap.size):=qh ⟨Mn _,by have:=(HB.out.ext hx1).lt;omega⟩;have BE7:=qh (BE.out.ext hx1);have BG7:=qh (BG.out.ext hx1);clear hx1 ho7 hc7 HB BE BG HX C1 C2 C3 C4 C5 C6 C7 C9 BG8 BE8;generalize hGO:w7.heap.size=GO at *;generalize hGQ:W.heap.size=GQ at *;have HNK:=qh (Fv HON.out HOK.out ps);have HNL:=qh (uM (ofL ls ins) ps q);go_wp2_with fail;go_loopw [70,20,21,22] (fun i _ _ _ wr=>∃k:Nat,k<=ps.length∧i = .int .i64 k∧ChM w7 w7 GO GQ (gB (ofL ls ins) ps q k) wr) (fun i _ _ _ _=>ps.length-(intOf i).toNat)
 case atStart=>exact⟨0,by omega,rfl,HM8.out⟩
 case round =>
  clear HM8;obtain⟨k,hk,rfl,hm⟩:=hrel;have HM:=qh hm;clear hm;have HXW:Hid (Ext W wr):=qh (HM.out.ext.toExt HX7.out (by rw[←hGQ];exact Mn _));have HRO:=qh (Iy HOW.out HM.out.ty);by_cases hlt:k<ps.length
  ·obtain⟨b,o,hPA,hbl,c0,c1⟩:=(HPR.out.ext HXW.out).at_ hlt;subst hPA;have hki:(k:Int)<(ps.length:Int):=by omega
   have hk0:(0:Int)<=(k:Int):=by omega
   have HNX:=qh (sS (own:=ofL ls ins) (q:=q) hlt);have HDL:=qh (HPD.out _ (Ml hlt));have HMA:=qh (HM.out.on (Id wr (.cells #[.string (bs (ps[k]'hlt).num),.string (bs (ps[k]'hlt).den)] 124)));have BP:=qh (ID wr 124 #[.string (bs (ps[k]'hlt).num),.string (bs (ps[k]'hlt).den)]);have HF:=qh (nY (ofL ls ins) A7 c7 (ps[k]'hlt).num _ (HRO.out.ext (Id wr (.cells #[.string (bs (ps[k]'hlt).num),.string (bs (ps[k]'hlt).den)] 124))) (by omega));generalize ps[k]'hlt=p at *;obtain⟨pn,pd⟩:=p;simp only at c0 c1 HDL;go_wp2_with fail;refine HF.out.mono ?_;rintro e w8⟨rfl,hx8⟩;replace HMA:=qh (HMA.out.on hx8);replace BP:=qh (BP.out.ext hx8);generalize wr.heap.size=XP at *;have hlk:=mN (ofL ls ins) pn
   cases hfl:findL (ofL ls ins) pn with
   |none =>
    have e1:Cho.named (ofL ls ins) (gB (ofL ls ins) ps q k) ⟨pn,pd⟩=gB (ofL ls ins) ps q k:=by
     rw[hfl]at hlk;unfold Cho.named;unfold lk at hlk;rw[hlk];rfl
    have HN1:=qh (HNX.out.trans e1);clear hlk e1 hx8;simp only[jv,hfl,Option.isSome_none];go_wp2_with fail;go_roundw
    case rel=>exact⟨k+1,by omega,by go_num,by rw[HN1.out];exact HMA.out⟩
    case measure=>simp[intOf];omega
   |some j =>
    obtain⟨hj,_⟩:=mC hfl
    have e1:Cho.named (ofL ls ins) (gB (ofL ls ins) ps q k) ⟨pn,pd⟩=(gB (ofL ls ins) ps q k).take ((ofL ls ins)[j]'hj).id ((ofL ls ins)[j]'hj).q pd:=by
     rw[hfl]at hlk;have h2:lk (ofL ls ins) pn=some ((ofL ls ins)[j]'hj):=by rw[hlk];exact Mr hj
     unfold Cho.named;unfold lk at h2;rw[h2]
    have HN1:=qh (HNX.out.trans e1);have HT:=qh (fun Wz hm=>pM (HNK.out k) HI.out.ql HOQ.out (by have:=HNL.out k (by omega);omega) (Ml hj) pd HDL.out w7 w7 GO GQ HEV.out (by rw[hGO];exact HGG.out) Wz hm);unfold fR at HT;rw[←HN1.out]at HT;obtain⟨b2,o2,hA7,_,d0,d1,d2,d3,d4,d5,d6⟩:=(Iy HOW.out HMA.out.ty).at_ hj;subst hA7;have hji:(j:Int)<((ofL ls ins).length:Int):=by omega
    have hj0:(0:Int)<=(j:Int):=by omega
    obtain⟨p0,p1⟩:=eZ BP.out (iD _);clear hlk e1 hx8 HNX HN1;simp only[jv,hfl,Rg];generalize (ofL ls ins)[j]'hj=x at *;obtain⟨xi,xn,xa,xo,xq,xc,xu⟩:=x;simp only at d0 d1 d2 d3 d4 d5 d6;have HMD:=qh (HMA.out.on (iD _).drew);go_upto_region 22 with fail;go_region_law (first|(go_simp;(with_reducible refine(HT.out _ HMD.out).mono ?_);rintro e wz⟨rfl,hmz⟩;(have HMZ:=qh hmz);clear hmz HT))
    all_goals
     go_wp2_with fail;go_roundw
     case rel=>exact⟨k+1,by omega,by go_num,HMZ.out⟩
     case measure=>simp[intOf];omega
  ·have hke:k=ps.length:=by omega
   have hki:¬ ((k:Int)<(ps.length:Int)):=by omega
   subst hke;obtain⟨s0,hs⟩:∃s0,gB (ofL ls ins) ps q ps.length=s0:=⟨_,rfl⟩;rw[hs]at HM;have HS0:=qh (HNK.out ps.length);have HSL:=qh (HNL.out ps.length (Mn _));rw[hs]at HS0 HSL;have hs0:=qh hs;clear hs;have BE8:=HM.out.ty _ _ _ BE7.out (by decide) (by decide) (by decide);have C8:=sP 5 HI.out.n1 HI.out.n6 G (ofL ls ins) HOV.out A7 c7 wr (HEV.out _ HM.out.ext) (HM.out.ty _ _ _ BG7.out (by decide) (by decide) (by decide)) HRO.out (by omega);rw[HEP.out]at C8;have C8:=qh C8;have b0:=BE8.cell 0;have b1:=BE8.cell 1;have b2:=BE8.cell 2;simp only[Mk,Mm,Ms]at b0 b1 b2;clear HNK HNL HRO HXW BE8 BE7 BG7 HEP;go_wp2_with fail;refine C8.out.mono ?_;rintro e w9⟨A9,c9,rfl,hrow,hx9⟩
   have HM9:Hid (ChM w7 w9 GO GQ (jp s0 (bv ((5:Nat):Int) (ofL ls ins)) 0) w9):=qh (by
    have h:=HM.out.on hx9;exact⟨h.ext,h.o,h.q,je.refl _⟩)
   have HROW:=qh hrow;have hLn:(bv ((5:Nat):Int) (ofL ls ins)).length=(ofL ls ins).length:=(gG ((5:Nat):Int) (ofL ls ins)).length_eq.symm;have HLn:=qh hLn;have HMEM:Hid (∀x ∈ bv ((5:Nat):Int) (ofL ls ins),x ∈ ofL ls ins):=qh (fun x hx=>(gG ((5:Nat):Int) (ofL ls ins)).mem_iff.2 hx);have HAK:=qh (r7 HS0.out HON.out HMEM.out);have HAL:=qh (pK s0 (bv ((5:Nat):Int) (ofL ls ins)));clear C8 HM hx9 hrow b0 b1 b2 hLn;go_wp2_with fail;go_loopw [95,24] (fun i _ wr=>∃k:Nat,k<=(ofL ls ins).length∧i = .int .i64 k∧ChM w7 w9 GO GQ (jp s0 (bv ((5:Nat):Int) (ofL ls ins)) k) wr) (fun i _ _=>(ofL ls ins).length-(intOf i).toNat)
   case atStart=>exact⟨0,by omega,rfl,HM9.out⟩
   case round =>
    clear HM9;obtain⟨k,hk,rfl,hm⟩:=hrel;have HM:=qh hm;clear hm;by_cases hlt:k<(ofL ls ins).length
    ·obtain⟨g9,rfl,hr9⟩:=HROW.out (by omega);have hkL:k<(bv ((5:Nat):Int) (ofL ls ins)).length:=by rw[HLn.out];exact hlt
     obtain⟨b,o,e1,_,c0,c1,c2,c3,c4,c5,c6⟩:=(hr9.ty HM.out.ty).reads.at_ hkL;simp only[On,PS,Qx]at e1;obtain⟨rfl,rfl⟩:=e1;simp only[MV]at c0 c1 c2 c3 c4 c5 c6;have HT:=qh (pM (HAK.out k (by omega)) HI.out.ql HOQ.out (by have:=HAL.out k (by omega);have:=HSL.out;omega) (HMEM.out _ (Ml hkL)) ((bv ((5:Nat):Int) (ofL ls ins))[k]'hkL).q (HOQ.out _ (HMEM.out _ (Ml hkL))) w7 w9 GO GQ HEV.out (by rw[hGO];exact HGG.out) _ (HM.out.on (Id wr (.cells (lc ((bv ((5:Nat):Int) (ofL ls ins))[k]'hkL)) 62))));have HNX:=qh (ll (s:=s0) hkL);have hki:(k:Int)<((ofL ls ins).length:Int):=by omega
     have hk0:(0:Int)<=(k:Int):=by omega
     unfold fR at HT;rw[←HNX.out]at HT;clear hr9 HNX;generalize (bv ((5:Nat):Int) (ofL ls ins))[k]'hkL=x at *;obtain⟨xi,xn,xa,xo,xq,xc,xu⟩:=x;simp only at c0 c1 c2 c3 c4 c5 c6;go_wp2_with fail;refine HT.out.mono ?_;rintro e wz⟨rfl,hmz⟩;have HMZ:=qh hmz;clear hmz;go_wp2_with fail;go_roundw
     case rel=>exact⟨k+1,by omega,by go_num,HMZ.out⟩
     case measure=>simp[intOf];omega
    ·have hke:k=(ofL ls ins).length:=by omega
     have HF:Hid (∃v,Blk wr GO 27 #[v]∧eG wr W.heap.size v (choose ls ins q ((5:Nat):Int) ps).out∧Ext W wr):=qh (by
      have h:=HM.out;rw[←hGQ,hke,←HLn.out,sU,←hs0.out,←Df rfl]at h;exact h.fin HX7.out)
     obtain⟨v,hv1,hv2,hv3⟩:=HF.out;have q9:=boxCell hv1;have HV:=qh (MC hv2 hv3);clear hv1 hv2 hv3 HF;have hki:¬ ((k:Int)<((ofL ls ins).length:Int)):=by omega
     go_wp2_with fail;refine MI (Rf rfl _ _ _) rfl ?_;exact⟨v,rfl,HV.out⟩
structure ChsS (ls:List LotV) (q:Bs) (n:Nat) (ps:List Fr):Prop where
 n1:1<=n
 n6:n<=6
 sm:∀x ∈ ls,SmallL x
 all:checkAllL ls=0
 cq:checkI q=0
 q0:0<valI q
 ql:q.length<=1000
 bad:n=5->ps.any iy=false
 pl:ps.length<=1000∧∀p ∈ ps,p.den.length<=1000
theorem Dh(ls:List LotV)(ins q:Bs)(n:Nat)(ps:List Fr)(hi:ChsS ls q n ps)(hsh:totQ ls ins<valI q)(hn5:n≠5)(A PA:Option Addr)(c pc:Nat)(W:World)(hE:Env W)(hA:aK W A ls) :
  Calls prog 23 #[.slice A ls.length c,.string (bs ins),.string (bs q),.int .i64 n,.slice PA ps.length pc] W (fun e w'=>e = .returned (.tuple #[.slice none 0 0,.int .i64 15])∧Ext W w'):=by
 have hls:=(av hi.all).1;have HI:=qh hi;have HE:=qh hE;have HA:=qh hA;have hql:=hi.ql;have C1:=qh (fun W hE hA=>dD ls A c W hE hA hi.sm (by omega));rw[hi.all]at C1;have C2:=qh (dq q (by omega));rw[hi.cq]at C2;have C3:=qh (kR n hi.n1 hi.n6);have C4:=qh (fun W hE hA=>gW ls A c ins W hE hA hi.sm (by omega));have hp:=jL q (by omega);rw[show decide (0<valI q)=true by rw[MW];exact hi.q0]at hp;have C5:=qh hp;have htl:=kE (ls:=ls) ins ls.length hi.sm (by omega);rw[MK]at htl;have hc6:=cmpP (ofI (totQ ls ins)) q (by omega) (by omega);rw[valI_ofI]at hc6;have C6:=qh hc6
 have g6:decide (cmpI (totQ ls ins) (valI q)<0)=true:=by
  have:=@cX (totQ ls ins) (valI q);rw[MW];omega
 have g5:((n:Int) == 5)=false:=by rw[Mt];omega
 have HB:=qh (ID W 24 #[.string (bs q)]);have HX:Hid (Ext W (W.alloc (.cells #[.string (bs q)] 24))):=qh (Id _ _);have q0:=boxCell HB.out;generalize cmpI (totQ ls ins) (valI q)=k6 at *;generalize ofI (totQ ls ins)=tq at *;generalize ofI (totC ls ins)=tc at *;clear hE hA hi hsh hp hc6 htl;go_enter func23,ntmps23;go_wp2_with fail;refine(C1.out _ (HE.out.ext HX.out) (HA.out.ext HX.out)).mono ?_;rintro e w1⟨rfl,hx1⟩;replace HX:=HX.qt hx1;replace HB:=qh (HB.out.ext hx1);clear hx1 q0;have q0:=boxCell HB.out;go_wp2_with fail;refine(C2.out _ (HE.out.ext HX.out)).mono ?_;rintro e w2⟨rfl,hx1⟩;replace HX:=HX.qt hx1;replace HB:=qh (HB.out.ext hx1);clear hx1 q0;have q0:=boxCell HB.out;go_wp2_with fail;refine(C3.out _).mono ?_;rintro e w3⟨G,rfl,hG,hGs,hx1⟩;obtain⟨nm,kf,cb,hep⟩:=rZ G n HI.out.n1 HI.out.n6;rw[hep.eq];replace HX:=HX.qt hx1;replace HB:=qh ((HB.out.ext hx1).ext (Id w3 (.cells #[.string nm,.func (.func kf) #[] cb,.bool (decide (n=2))] 129)));have HXE:=qh (HX.out.trans (Id w3 (.cells #[.string nm,.func (.func kf) #[] cb,.bool (decide (n=2))] 129)));have BE:=qh (ID w3 129 #[.string nm,.func (.func kf) #[] cb,.bool (decide (n=2))]);have BG:=qh (hG.ext (Id w3 (.cells #[.string nm,.func (.func kf) #[] cb,.bool (decide (n=2))] 129)));have HEP:=qh hep;clear hx1 q0 hG hep HX hGs;go_wp2_with fail;refine(C4.out _ (HE.out.ext HXE.out) (HA.out.ext HXE.out)).mono ?_;rintro e w4⟨rfl,hx1⟩;generalize w3.heap.size=E at *;replace HX:=HXE.qt hx1;replace HB:=qh (HB.out.ext hx1);replace BE:=qh (BE.out.ext hx1);replace BG:=qh (BG.out.ext hx1);clear hx1 HXE;have q0:=boxCell HB.out;go_wp2_with fail;refine(C5.out _ (HE.out.ext HX.out)).mono ?_;rintro e w5⟨rfl,hx1⟩;replace HX:=HX.qt hx1;replace HB:=qh (HB.out.ext hx1);replace BE:=qh (BE.out.ext hx1);replace BG:=qh (BG.out.ext hx1);clear hx1 q0;have q0:=boxCell HB.out;go_wp2_with fail;refine(C6.out _ (HE.out.ext HX.out)).mono ?_;rintro e w6⟨rfl,hx1⟩;replace HX:=HX.qt hx1;replace HB:=qh (HB.out.ext hx1);replace BE:=qh (BE.out.ext hx1);replace BG:=qh (BG.out.ext hx1);clear hx1 q0;go_wp2_with fail;refine MI (Rf rfl _ _ _) rfl ?_;exact⟨rfl,HX.out⟩
theorem Di(ls:List LotV)(ins q:Bs)(n:Nat)(ps:List Fr)(hi:ChsS ls q n ps)(hsh:totQ ls ins<valI q)(hn5:n=5)(A PA:Option Addr)(c pc:Nat)(W:World)(hE:Env W)(hA:aK W A ls)(hP:eH W PA ps) :
  Calls prog 23 #[.slice A ls.length c,.string (bs ins),.string (bs q),.int .i64 n,.slice PA ps.length pc] W (fun e w'=>e = .returned (.tuple #[.slice none 0 0,.int .i64 15])∧Ext W w'):=by
 subst hn5;have hls:=(av hi.all).1;have HI:=qh hi;have HE:=qh hE;have HA:=qh hA;have hql:=hi.ql;have C1:=qh (fun W hE hA=>dD ls A c W hE hA hi.sm (by omega));rw[hi.all]at C1;have C2:=qh (dq q (by omega));rw[hi.cq]at C2;have C3:=qh (kR 5 hi.n1 hi.n6);have C4:=qh (fun W hE hA=>gW ls A c ins W hE hA hi.sm (by omega));have hp:=jL q (by omega);rw[show decide (0<valI q)=true by rw[MW];exact hi.q0]at hp;have C5:=qh hp;have htl:=kE (ls:=ls) ins ls.length hi.sm (by omega);rw[MK]at htl;have hc6:=cmpP (ofI (totQ ls ins)) q (by omega) (by omega);rw[valI_ofI]at hc6;have C6:=qh hc6
 have g6:decide (cmpI (totQ ls ins) (valI q)<0)=true:=by
  have:=@cX (totQ ls ins) (valI q);rw[MW];omega
 have hpl:=hi.pl.1;have HPR:=qh hP;have HPD:=qh hi.pl.2;have hc9:=fun W' (hx:Ext W W')=>li 74 #[] (fun _ _=>by rfl) iy ps PA pc W' (hP.ext hx) (by omega) (fun p hp U hu=>zZ p (by have:=hi.pl.2 p hp;omega) U (hE.ext (hx.trans hu)))
 simp only[hi.bad rfl]at hc9;have C9:=qh hc9;clear hc9;have HB:=qh (ID W 24 #[.string (bs q)]);have HX:Hid (Ext W (W.alloc (.cells #[.string (bs q)] 24))):=qh (Id _ _);have q0:=boxCell HB.out;generalize cmpI (totQ ls ins) (valI q)=k6 at *;generalize ofI (totQ ls ins)=tq at *;generalize ofI (totC ls ins)=tc at *;clear hE hA hP hi hsh hp hc6 htl;go_enter func23,ntmps23;go_wp2_with fail;refine(C1.out _ (HE.out.ext HX.out) (HA.out.ext HX.out)).mono ?_;rintro e w1⟨rfl,hx1⟩;replace HX:=HX.qt hx1;replace HB:=qh (HB.out.ext hx1);clear hx1 q0;have q0:=boxCell HB.out;go_wp2_with fail;refine(C2.out _ (HE.out.ext HX.out)).mono ?_;rintro e w2⟨rfl,hx1⟩;replace HX:=HX.qt hx1;replace HB:=qh (HB.out.ext hx1);clear hx1 q0;have q0:=boxCell HB.out;go_wp2_with fail;refine(C9.out _ HX.out).mono ?_;rintro e w2b⟨rfl,hx1⟩;replace HX:=HX.qt hx1;replace HB:=qh (HB.out.ext hx1);clear hx1 q0;have q0:=boxCell HB.out;go_wp2_with fail;refine(C3.out _).mono ?_;rintro e w3⟨G,rfl,hG,hGs,hx1⟩;obtain⟨nm,kf,cb,hep⟩:=rZ G 5 HI.out.n1 HI.out.n6;have heq:=hep.eq;generalize decide ((5:Nat)=2)=bb at heq;rw[heq];replace HX:=HX.qt hx1;replace HB:=qh ((HB.out.ext hx1).ext (Id w3 (.cells #[.string nm,.func (.func kf) #[] cb,.bool (bb)] 129)));have HXE:=qh (HX.out.trans (Id w3 (.cells #[.string nm,.func (.func kf) #[] cb,.bool (bb)] 129)));have BE:=qh (ID w3 129 #[.string nm,.func (.func kf) #[] cb,.bool (bb)]);have BG:=qh (hG.ext (Id w3 (.cells #[.string nm,.func (.func kf) #[] cb,.bool (bb)] 129)));have HEP:=qh heq;clear heq;clear hx1 q0 hG hep HX hGs;go_wp2_with fail;refine(C4.out _ (HE.out.ext HXE.out) (HA.out.ext HXE.out)).mono ?_;rintro e w4⟨rfl,hx1⟩;generalize w3.heap.size=E at *;replace HX:=HXE.qt hx1;replace HB:=qh (HB.out.ext hx1);replace BE:=qh (BE.out.ext hx1);replace BG:=qh (BG.out.ext hx1);clear hx1 HXE;have q0:=boxCell HB.out;go_wp2_with fail;refine(C5.out _ (HE.out.ext HX.out)).mono ?_;rintro e w5⟨rfl,hx1⟩;replace HX:=HX.qt hx1;replace HB:=qh (HB.out.ext hx1);replace BE:=qh (BE.out.ext hx1);replace BG:=qh (BG.out.ext hx1);clear hx1 q0;have q0:=boxCell HB.out;go_wp2_with fail;refine(C6.out _ (HE.out.ext HX.out)).mono ?_;rintro e w6⟨rfl,hx1⟩;replace HX:=HX.qt hx1;replace HB:=qh (HB.out.ext hx1);replace BE:=qh (BE.out.ext hx1);replace BG:=qh (BG.out.ext hx1);clear hx1 q0;go_wp2_with fail;refine MI (Rf rfl _ _ _) rfl ?_;exact⟨rfl,HX.out⟩
theorem ChsS.in_{ls:List LotV}{n:Nat}(h:ChsS ls q n ps)(ht:valI q<=totQ ls ins):ChsIn ls ins q n ps:=⟨h.n1,h.n6,h.sm,h.all,h.cq,h.q0,ht,h.ql,h.bad,h.pl⟩
theorem sV(ls:List LotV)(ins q:Bs)(n:Nat)(ps:List Fr)(hi:ChsS ls q n ps)(A PA:Option Addr)(c pc:Nat)(W:World)(hE:Env W)(hA:aK W A ls)(hP:eH W PA ps) :
  (valI q<=totQ ls ins->Calls prog 23 #[.slice A ls.length c,.string (bs ins),.string (bs q),.int .i64 n,.slice PA ps.length pc] W (r9 ls ins q n ps W)) ∧
  (totQ ls ins<valI q->Calls prog 23 #[.slice A ls.length c,.string (bs ins),.string (bs q),.int .i64 n,.slice PA ps.length pc] W (fun e w'=>e = .returned (.tuple #[.slice none 0 0,.int .i64 15])∧Ext W w')):=by
 by_cases h:n=5
 ·exact⟨fun ht=>Dg ls ins q n ps (hi.in_ ht) h A PA c pc W hE hA hP,fun ht=>Di ls ins q n ps hi ht h A PA c pc W hE hA hP⟩
 ·exact⟨fun ht=>De ls ins q n ps (hi.in_ ht) h A PA c pc W hE hA,fun ht=>Dh ls ins q n ps hi ht h A PA c pc W hE hA⟩
theorem KP(y p:Fr)(X:Nat)(W:World)(hb:Blk W X 124 #[.string (bs p.num),.string (bs p.den)]):Calls prog 231 #[wP y,.pointer (some ⟨X,0,none⟩)] W fun e w'=>e = .returned (.bool (y.num == p.num))∧Ext W w':=by
 obtain⟨q0,_⟩:=eZ (hb.alloc (.cells #[.string (bs y.num),.string (bs y.den)] 124)) (iD _);have hlt:=hb.lt;have HX:Hid (Ext W (W.alloc (.cells #[.string (bs y.num),.string (bs y.den)] 124))):=qh (Id _ _);clear hb;obtain⟨pn,pd⟩:=p;obtain⟨yn,yd⟩:=y;go_enter func231,ntmps231;go_wp2_with fail;go_ret;exact⟨rfl,HX.out⟩
theorem Ae(hn:(ps.map (·.num)).Nodup)(hk:k<ps.length):(ps.take k).any (fun y=>y.num == (ps[k]'hk).num)=false:=by
 rw[PT];intro y hy;obtain⟨j,hj,e⟩:=PV.1 hy;have:=Q5.1 hn j k (by simp;omega) (by simpa using hk) (by omega);rw[←e];simpa using this
theorem Af(ls:List LotV)(ps:List Fr)(hp:PicksOK ls ps)(hs:∀x ∈ ls,SmallL x)(hnd:(ls.map (·.id)).Nodup)(hln:ls.length<=1000)(hpl:ps.length<=100000)(hpd:∀p ∈ ps,p.den.length<=5000)(A PA:Option Addr)(c pc:Nat)(hpc:ps.length<=pc)(W:World)(hE:Env W)(hA:aK W A ls)(hP:eH W PA ps) :
  Calls prog 154 #[.slice A ls.length c,.pointer none,.slice PA ps.length pc] W fun e w'=>e = .returned (.int .i64 0)∧Ext W w':=by
 have HK:=qh hp;have HS:=qh hs;have HPD:=qh hpd;have HE:=qh hE;have HA:=qh hA;have HPR:=qh hP;clear hp hs hpd hE hA hP;go_enter func154,ntmps154;go_wp2_with fail;go_loopw [13] (fun i wr=>∃k:Nat,k<=ps.length∧i = .int .i64 k∧Ext W wr) (fun i _=>ps.length-(intOf i).toNat)
 case atStart=>exact⟨0,by omega,rfl,iD _⟩
 case round =>
  obtain⟨k,hk,rfl,hx⟩:=hrel;have HX:=qh hx;clear hx;by_cases hlt:k<ps.length
  ·obtain⟨b,o,hPA,hbl,c0,c1⟩:=(HPR.out.ext HX.out).at_ hlt;subst hPA;have hki:(k:Int)<(ps.length:Int):=by omega
   have hk0:(0:Int)<=(k:Int):=by omega
   have hkc:(k:Int)<=(pc:Int):=by omega
   have HNEW:=qh (Ae HK.out.nod hlt);obtain⟨x0,hx0,e0,e1,e2⟩:=HK.out.at_ _ (Ml hlt);obtain⟨j,hj,hfl,hej⟩:=nF ⟨x0,hx0,e0⟩;have C1:=qh (dq (ps[k]'hlt).den (by have:=HPD.out _ (Ml hlt);omega));rw[HK.out.den _ (Ml hlt)]at C1;have hpos:=jL (ps[k]'hlt).den (by have:=HPD.out _ (Ml hlt);omega);rw[show decide (0<valI (ps[k]'hlt).den)=true by rw[MW];exact e1]at hpos;have C2:=qh hpos;have HTK:=qh ((HPR.out.ext HX.out).take k (by omega));have hlk:(ps.take k).length=k:=by rw[Mu];omega
   have HSX:=HS.out _ (Ml hj);have hxl:(ls[j]'hj).q.length<=100000:=by have:=HSX.2.2.1;omega
   have hdl:(ps[k]'hlt).den.length<=100000:=by have:=HPD.out _ (Ml hlt);omega
   have hval:valI (ps[k]'hlt).den<=valI (ls[j]'hj).q:=by
    have hx:ls[j]'hj=x0:=by
     obtain⟨i,hi,ei⟩:=Pj.1 hx0;have hij:j=i:=(List.getElem_inj (h₀:=by simpa using hj) (h₁:=by simpa using hi) hnd).1 (by simp only[Ry];rw[hej,ei,e0]);subst hij;exact ei
    rw[hx];exact e2
   have hc6:=cmpP (ps[k]'hlt).den (ls[j]'hj).q hdl hxl
   have g6:decide (0<cmpI (valI (ps[k]'hlt).den) (valI (ls[j]'hj).q))=false:=by
    unfold cmpI;rw[Mi];split <;> (try split) <;> omega
   have C6:=qh hc6;have BP:=qh (ID wr 124 #[.string (bs (ps[k]'hlt).num),.string (bs (ps[k]'hlt).den)]);have HXN:Hid (Ext W (wr.alloc (.cells #[.string (bs (ps[k]'hlt).num),.string (bs (ps[k]'hlt).den)] 124))):=qh (HX.out.trans (Id _ _));have HF:=qh (nY ls A c (ps[k]'hlt).num _ (HA.out.ext HXN.out) (by omega));have hcf:=fun(X:Nat) (W':World) (hx:Ext W W') (hb:Blk W' X 124 #[.string (bs (ps[k]'hlt).num),.string (bs (ps[k]'hlt).den)])=>li 231 #[.pointer (some ⟨X,0,none⟩)] (fun _ _=>by rfl) (fun y=>y.num == (ps[k]'hlt).num) (ps.take k) _ pc W' ((HPR.out.ext hx).take k (by omega)) (by omega) (fun y _ U hu=>KP y _ X U (hb.ext hu))
   rw[HNEW.out,hlk]at hcf;have HCF:=qh hcf;generalize cmpI (valI (ps[k]'hlt).den) (valI (ls[j]'hj).q)=k6 at *;clear hcf hc6 hpos HNEW hval e1 e2 e0 hx0;generalize hpk:ps[k]'hlt=p at *;obtain⟨pn,pd⟩:=p;simp only at c0 c1 hfl;go_wp2_with fail;refine HF.out.mono ?_;rintro e w8⟨rfl,hx8⟩;replace HX:=HXN.qt hx8;replace BP:=qh (BP.out.ext hx8);obtain⟨p0,p1⟩:=eZ BP.out (iD _);generalize wr.heap.size=XP at *;simp only[jv,hfl,Rg];clear HXN HF hx8;go_upto_region 7 with fail;go_quiet (fail);have hxq:Ext w8 (w8.drewN nq):=(iD w8).drewN nq;replace p0:(w8.drewN nq).cell? ⟨XP,0,none⟩=some (.string (bs pn)):=p0;replace p1:(w8.drewN nq).cell? ⟨XP,1,none⟩=some (.string (bs pd)):=p1;replace HX:=HX.qt hxq;replace BP:=qh (BP.out.ext hxq);clear hxq;generalize w8.drewN nq=w8q at *;go_wp2_with fail;refine(HCF.out XP w8q HX.out BP.out).mono ?_;rintro e w9⟨rfl,hx9⟩;replace HX:=HX.qt hx9;replace BP:=qh (BP.out.ext hx9);clear p0 p1 HCF hx9;obtain⟨p0,p1⟩:=eZ BP.out (iD _);go_wp2_with fail;refine(C1.out _ (HE.out.ext HX.out)).mono ?_;rintro e w10⟨rfl,hx9⟩;replace HX:=HX.qt hx9;replace BP:=qh (BP.out.ext hx9);clear p0 p1 hx9;obtain⟨p0,p1⟩:=eZ BP.out (iD _);go_wp2_with fail;refine(C2.out _ (HE.out.ext HX.out)).mono ?_;rintro e w11⟨rfl,hx9⟩;replace HX:=HX.qt hx9;replace BP:=qh (BP.out.ext hx9);clear p0 p1 hx9;obtain⟨p0,p1⟩:=eZ BP.out (iD _);obtain⟨b2,o2,hA7,_,d0,d1,d2,d3,d4,d5,d6⟩:=(HA.out.ext HX.out).at_ hj;subst hA7;have hji:(j:Int)<(ls.length:Int):=by omega
   have hj0:(0:Int)<=(j:Int):=by omega
   generalize ls[j]'hj=x at *;obtain⟨xi,xn,xa,xo,xq,xc,xu⟩:=x;simp only at d0 d1 d2 d3 d4 d5 d6;have HED:=qh ((HE.out.ext HX.out).ext (iD _).drew);have HXD:=qh (HX.out.trans (iD _).drew);go_upto_region 15 with fail;go_region_law (first|(go_simp;(with_reducible refine(C6.out _ HED.out).mono ?_);rintro e wz⟨rfl,hmz⟩;(have HMZ:=HXD.qt hmz);clear hmz))
   all_goals
    go_wp2_with fail;go_roundw
    case rel=>exact⟨k+1,by omega,by go_num,HMZ.out⟩
    case measure=>simp[intOf];omega
  ·have hki:¬ ((k:Int)<(ps.length:Int)):=by omega
   go_wp2_with fail;go_ret;exact⟨rfl,HX.out⟩
end
section
open Go.RowKit Go.Lib
attribute [local go_sem] size_bs toList_bs
theorem yr(ls:List LotV)(k:Nat):bK (ls.eraseIdx k)=(bK ls).take (k*7)++(bK ls).drop ((k+1)*7):=by
 induction ls generalizing k with
 |nil=>simp[bK]
 |cons x r ih =>
  cases k with
  |zero =>
   simp only[List.eraseIdx_cons_zero,bK,OD,O6,PJ,ML,MV,OJ];rw[←aM x,List.drop_left]
  |succ k =>
   have:=ih k;simp only[bK,List.eraseIdx_cons_succ,OD]at this ⊢
   rw[this,show(k+1+1)*7=(lotCells x).length+(k*7+7) by rw[aM];omega,show(k+1)*7=(lotCells x).length+k*7 by rw[aM];omega,R6,R7,Mz,show(lotCells x).length+k*7=k*7+7 by rw[aM];omega]
def Dj(g p cap:Nat)(xs:List Value)(w:World)(e:Ending)(w':World):Prop :=
 ∃cur,e = .returned (.slice (some ⟨g,0,none⟩) p cap)∧Row w' g 62 7 p cap xs cur∧Only g w w'
theorem Fx(g cap p i:Nat)(xs cur:List Value)(w:World)(hr:Row w g 62 7 (p+1) cap xs cur)(h1:∀u ∈ xs,u.oneCell'=true)(hi:i<=p)(hn:cap<=9223372036854775807) :
  Calls prog 155 #[.slice (some ⟨g,0,none⟩) (p+1) cap,.int .i64 i,.int .i64 ((i:Int)+1)] w (Dj g p cap (xs.take (i*7)++xs.drop ((i+1)*7)) w):=by
 obtain⟨i0,hI,hz0,hz1,hz2⟩:=Ny nZ;have hle:=hr.le;have HR:=qh hr;have H1:=qh h1;have HI:=qh hI;clear hr h1 hI;have hne:((i:Int) == (i:Int)+1)=false:=by rw[Mt];omega
 go_enter func155,ntmps155;go_wp2_with fail;have hp0:(0:Int)<=(i:Int)+1:=by omega
 have hp1:(i:Int)+1<=(p:Int)+1:=by omega
 have hp2:((i:Int)+1).toNat=i+1:=by omega
 have hic:i<=cap:=by omega
 have hdl:(xs.drop ((i+1)*7)).length=(p-i)*7:=by rw[MU,HR.out.len,←Nat.sub_mul,show p+1-(i+1)=p-i by omega]
 have HDL:=qh hdl;have HD1:Hid (∀u ∈ xs.drop ((i+1)*7),u.oneCell'=true):=qh (fun u hu=>H1.out u (NA hu))
 have HSP:Hid (∀j,j<(xs.drop ((i+1)*7)).length->(w.drew.cell? ⟨g,0+i*7+j,none⟩).isSome=true∧w.drew.frozen? ⟨g,0+i*7+j,none⟩=false):=qh (fun j hj=>by
  rw[hdl]at hj;exact⟨HR.out.drew.isSome_ (by omega),HR.out.drew.frozen _⟩)
 have HNW:Hid (∀j u,(xs.drop ((i+1)*7))[j]? = some u->w.drew.cell? ((⟨g,(i+1)*7,none⟩:Addr).add j)=some u):=qh (fun j u hu=>by
  rw[So];exact HR.out.drew.cell (by rwa[RZ]at hu))
 clear hdl;have hip:i+(p-i)=p:=by omega
 have hW1:Row (w.drew.setCells g (i*7) (xs.drop ((i+1)*7))) g 62 7 p cap (xs.take (i*7)++xs.drop ((i+1)*7)) (lsplice cur (i*7) (xs.drop ((i+1)*7))) :=
  HR.out.drew.put _ _ (by rw[HDL.out];omega) (by omega) (by rw[Mp,HDL.out,Mu,HR.out.len];omega) (xw cur xs 7 i p HR.out.take HR.out.len hi)
 have hcl:∀ty,(Builtin.clear_ #[22] ty #[.slice (some ⟨g,p*7,none⟩) 1 (cap-p)]).run prog (w.drew.setCells g (i*7) (xs.drop ((i+1)*7))) = .ok (.tuple #[]) ((w.drew.setCells g (i*7) (xs.drop ((i+1)*7))).setCells g (p*7) [.string ⟨#[]⟩,.string ⟨#[]⟩,.int .i64 0,.int .i64 0,.string ⟨#[]⟩,.string ⟨#[]⟩,.string ⟨#[]⟩]):=fun ty =>
  vE _ _ _ ty _ _ NS zeroValue62 g (p*7) 1 (cap-p) (by decide) (by kernel_rfl) (by simp[Value.oneCell']) (fun j hj=>hW1.isSome_ (by simp only[MG,Ns]at hj;omega)) (fun j _=>hW1.frozen _)
 have HW2:=qh (hW1.put [.string ⟨#[]⟩,.string ⟨#[]⟩,.int .i64 0,.int .i64 0,.string ⟨#[]⟩,.string ⟨#[]⟩,.string ⟨#[]⟩] (p*7) (by simp only[MG,Ns];omega) (n':=p) (xs':=xs.take (i*7)++xs.drop ((i+1)*7)) (by omega) hW1.len (by rw[vF _ _ _ _ (Mn _) (by rw[hW1.full];exact MO _ (by omega))];exact hW1.take));have HON:Hid (Only g w ((w.drew.setCells g (i*7) (xs.drop ((i+1)*7))).setCells g (p*7) [.string ⟨#[]⟩,.string ⟨#[]⟩,.int .i64 0,.int .i64 0,.string ⟨#[]⟩,.string ⟨#[]⟩,.string ⟨#[]⟩])):=qh (Only.sets _ _ _ _ (Only.sets _ _ _ _ (Only.of_ext (iD w).drew)));clear hW1;by_cases hcap:cap=i+1
 ·obtain rfl:i=p:=by omega
  subst hcap;have hii:(i:Int)<=(i:Int)+1:=by omega
  have HNW':Hid (∀j u,(xs.drop ((i+1)*7))[j]? = some u->w.drew.cell? ((⟨g,0,none⟩:Addr).add j)=some u):=qh (fun j u hu=>by
   have h0:(xs.drop ((i+1)*7)).length=0:=by rw[HDL.out];simp
   rw[My.1 h0]at hu;simp at hu)
  have HDL':Hid ((xs.drop ((i+1)*7)).length=0*7):=qh (by rw[HDL.out];simp);go_region_law ((refine step_append_room (by rfl) (.tmp 22) (.tmp 25) 22 (by rfl) 62 i0 7 NS HI.out hz1 g 0 i (i+1) (by simp[Act.eval,Act.put]) ⟨g,0,none⟩ 0 0 (xs.drop ((i+1)*7)) (by simp[Act.eval,Act.put]) HDL'.out HNW'.out HD1.out (by omega) HSP.out ?_))
  simp only[Qm]at hcl;have hcl1:(i+1-i)=1:=by omega
  go_wp2_with fail;go_ret;exact⟨_,rfl,HW2.out,HON.out⟩
 ·go_region_law ((refine step_append_room (by rfl) (.tmp 22) (.tmp 25) 22 (by rfl) 62 i0 7 NS HI.out hz1 g 0 i cap (by simp[Act.eval,Act.put]) ⟨g,(i+1)*7,none⟩ (p-i) (cap-(i+1)) (xs.drop ((i+1)*7)) (by simp[Act.eval,Act.put]) HDL.out HNW.out HD1.out (by omega) HSP.out ?_))
  go_wp2_with fail;go_ret;exact⟨_,rfl,HW2.out,HON.out⟩
def Dk(ls:List LotV)(k g cap:Nat)(w:World)(e:Ending)(w':World):Prop :=
 e = .returned (.slice (some ⟨g,0,none⟩) (ls.eraseIdx k).length cap)∧aE w' g cap (ls.eraseIdx k)∧Only g w w'
theorem Dl(ls:List LotV)(k g cap:Nat)(w:World)(hr:aE w g cap ls)(hk:k<ls.length)(hc:cap<=9223372036854775807) :
  Calls prog 155 #[.slice (some ⟨g,0,none⟩) ls.length cap,.int .i64 k,.int .i64 ((k:Int)+1)] w (Dk ls k g cap w):=by
 obtain⟨cur,hr⟩:=hr;obtain⟨p,hp⟩:∃p,ls.length=p+1:=⟨ls.length-1,by omega⟩;have hl:(ls.eraseIdx k).length=p:=by rw[Sf hk];omega
 have hce:=yr ls k;have h1:=GS ls;rw[hp]at hr ⊢;refine(Fx g cap p k (bK ls) cur w hr h1 (by omega) hc).mono ?_;rintro e w'⟨cur',rfl,hrow,ho⟩;exact⟨by rw[hl],⟨cur',by rw[hl,hce];exact hrow⟩,ho⟩
end
end Go.Proofs.YtaegjkllenlfpaaGreatDoor
