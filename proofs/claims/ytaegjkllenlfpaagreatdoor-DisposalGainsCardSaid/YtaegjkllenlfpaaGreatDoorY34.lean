/- The seat's texts, part Y34. -/
import Derived.Test.YtaegjkllenlfpaaGreatDoorY33
import Derived.Test.YtaegjkllenlfpaaGreatDoorRows
import Derived.Lib.SmallJoins
import Derived.Stop.LaidErr
set_option maxRecDepth 100000
set_option maxHeartbeats 8000000
namespace Go.Proofs.YtaegjkllenlfpaaGreatDoor
open Go.Proofs.Tryz
variable {ys:List Value}{c:Bs}{t e tb:TypeId}{W W':World}
section
open Go.RowKit Go.Shelf
end
section
open Go.RowKit Go.Shelf
attribute [local go_sem] size_bs toList_bs
def IB:Bs:=[97,98,99]
def jX:List LotV:=[⟨[97,47,49],IB,19700,19700,[49,48],[49,48,48],[]⟩,⟨[98,47,49],IB,19710,19710,[49,48],[49,53,48],[]⟩]
def jY:FactV:=⟨[115],0,false,19723,4,IB,[],[],[],[49,53],[50,52,48],[51],⟨[],[]⟩,⟨[],[]⟩,⟨[],[]⟩,0⟩
theorem IC:SelIn jX jY [] []:=⟨by decide +kernel,by decide +kernel,by decide +kernel,rfl⟩
theorem Lk:valI jY.qty<=totQ jX jY.ins:=by decide +kernel
theorem qL{w:World}{g:Nat}{cs:Array Value}(h:Blk w g 30 cs):w.there g 0 cs.size:=fun j hj=>by
 rw[MV,h.cell j,h.frozen j,NO hj];exact⟨rfl,rfl⟩
abbrev xz:Array Value:=#[.string ⟨#[]⟩,.int .i64 0,.bool false,.int .i64 0,.int .i64 0,.string ⟨#[]⟩,.string ⟨#[]⟩,.string ⟨#[]⟩,.string ⟨#[]⟩,.string ⟨#[]⟩,.string ⟨#[]⟩,.string ⟨#[]⟩,.string ⟨#[]⟩,.string ⟨#[]⟩,.string ⟨#[]⟩,.string ⟨#[]⟩,.string ⟨#[]⟩,.string ⟨#[]⟩,.slice none 0 0,.slice none 0 0,.int .i64 0]
abbrev fT:Array Value:=ag jY (.slice none 0 0) (.slice none 0 0)
def IE(w:World)(e:Ending)(w':World):Prop:=∃A,e = .returned (.tuple #[.slice A 2 2,.agg fT])∧aK w' A jX∧Ext w w'
theorem sX{w:World}{g:Nat}{xs:List Value}(h:Blk w g 30 xs.toArray)(hl:xs.length=ys.length):Blk (w.setCells g 0 ys) g 30 ys.toArray:=by
 have:=Blk.sets ys 0 w xs h (by omega);unfold lsplice at this
 rw[PJ,ML,Nt (by omega),N0]at this
 exact this
theorem yt{fn:Func}{a b:Tmp}(h:fn.results=#[.tmp a,.cell b 30])(tmps:Array Value)(w:World)(g:Nat)(z:Value)(cs:List Value)(hl:cs.length=21)(hz:tmps.getD a undef=z)(ha:tmps.getD b undef = .pointer (some ⟨g,0,none⟩))(hb:Blk w g 30 cs.toArray) :
  (results fn tmps).run prog w = .ok (.tuple #[z,.agg cs.toArray]) w:=by
 have hs1:(prog.info? 30).map (·.size)=some cs.length:=by rw[hl];kernel_rfl
 have hrg:w.rangeAt g 0 cs:=aL hb;have hld:=SB w g 0 30 cs _ hrg M3 rfl hs1;unfold results;rw[h];simp only[Ob,OG,OO,ha,hz];simp[asAddr,hld]
theorem yv(w:World):Calls prog 53 #[] w (IE w):=by
 have HB:=qh ((ID w 30 xz).alloc (.cells #[.string ⟨#[97,47,49]⟩,.string ⟨#[97,98,99]⟩,.int .i64 19700,.int .i64 19700,.string ⟨#[49,48]⟩,.string ⟨#[49,48,48]⟩,.string ⟨#[]⟩,.string ⟨#[98,47,49]⟩,.string ⟨#[97,98,99]⟩,.int .i64 19710,.int .i64 19710,.string ⟨#[49,48]⟩,.string ⟨#[49,53,48]⟩,.string ⟨#[]⟩] 62));have HL:=qh (Mf (w.alloc (.cells xz 30)) 62 #[.string ⟨#[97,47,49]⟩,.string ⟨#[97,98,99]⟩,.int .i64 19700,.int .i64 19700,.string ⟨#[49,48]⟩,.string ⟨#[49,48,48]⟩,.string ⟨#[]⟩,.string ⟨#[98,47,49]⟩,.string ⟨#[97,98,99]⟩,.int .i64 19710,.int .i64 19710,.string ⟨#[49,48]⟩,.string ⟨#[49,53,48]⟩,.string ⟨#[]⟩] (w.heap.size+1) (by simp));have HX:Hid (Ext w _):=qh ((Id w (.cells xz 30)).alloc (.cells #[.string ⟨#[97,47,49]⟩,.string ⟨#[97,98,99]⟩,.int .i64 19700,.int .i64 19700,.string ⟨#[49,48]⟩,.string ⟨#[49,48,48]⟩,.string ⟨#[]⟩,.string ⟨#[98,47,49]⟩,.string ⟨#[97,98,99]⟩,.int .i64 19710,.int .i64 19710,.string ⟨#[49,48]⟩,.string ⟨#[49,53,48]⟩,.string ⟨#[]⟩] 62));have hs2:(prog.info? 30).map (·.size)=some fT.size:=by kernel_rfl
 have hth:World.there _ w.heap.size 0 fT.size:=(qL HB.out:World.there _ w.heap.size 0 (xz:Array Value).size);have hoc:fT.all (·.oneCell')=true:=by simp[Value.oneCell']
 have HF:=qh (sX (w:=_) (xs:=xz.toList) (ys:=fT.toList) (show Blk _ _ _ xz.toList.toArray from HB.out) rfl);have HXF:=qh (ext_sets fT.toList 0 _ () HX.out (Mn w.heap.size));have HLF:=qh (Mg HL.out (g':=w.heap.size) (by omega) fT.toList 0);go_enter func53,ntmps53;go_wp2_with (first|(refine Oy rfl 30 _ _ rfl w.heap.size 0 fT rfl rfl hth hs2 hoc ?_)|fail);refine MI (yt rfl _ _ w.heap.size (.slice (some ⟨w.heap.size+1,0,none⟩) 2 2) fT.toList rfl rfl rfl HF.out) rfl ?_;refine⟨_,rfl,?_,HXF.out⟩;exact⟨rfl,fun _=>⟨_,_,rfl,HLF.out.lt,fun j u hu=>by rw[MV,HLF.out.cell,Mk];exact hu⟩⟩
def FC:Prop:=∀W,Env W->Calls prog 12 #[] W fun e w'=>e = .returned (.bool true)∧Ext W w'
theorem Aj{gs:List GainV}{a b d:Bs}(h:gs.map (fun g=>(g.p,g.c))=[(a,b),(c,d)]):∃x y,gs=[x,y]∧x.p=a∧x.c=b∧y.p=c∧y.c=d:=by
 match gs,h with
 |[x,y],h =>
  simp only[MQ,Qh,OX,Prod.mk.injEq]at h;exact⟨x,y,rfl,h.1.1,h.1.2,h.2.1.1,h.2.1.2⟩
theorem IG{gs:List LotV}{a b:Bs}(h:gs.map (fun g=>(g.q,g.c))=[(a,b)]):∃x,gs=[x]∧x.q=a∧x.c=b:=by
 match gs,h with
 |[x],h =>
  simp only[MQ,Qh,OX,Prod.mk.injEq]at h;exact⟨x,rfl,h.1.1,h.1.2⟩
theorem IH(w:World):FactAt w jY [] [] none none 0:=⟨⟨by decide,by decide,by decide,by decide,by decide,by decide,by decide,by decide,by decide,by decide,by decide,by decide,by decide,by decide⟩,Reads.nil,by simp,by decide,by decide,Reads.nil,by simp,by decide⟩
def FD(w:World)(e:Ending)(w':World):Prop:=∃A n c B d C k l x y,e = .returned (.tuple #[.agg #[.slice A n c,.slice B 2 d,.slice C k l,.slice none 0 0],.int .i64 0])∧dM w' B [x,y]∧x.p=[49,53,56]∧x.c=[49,48,48]∧y.p=[55,57]∧y.c=[55,53]∧Ext w w'
theorem FE(A:Option Addr)(w:World)(hE:Env w)(hA:aK w A jX):Calls prog 13 #[.slice A 2 2,.agg fT,.int .i64 1] w (FD w):=by
 have h:Calls prog 13 #[.slice A 2 2,.agg fT,.int .i64 1] w (gu (ij jX jY 1 []) (cM jX jY 1 []) (kw jX jY 1 []) w) :=
  uT jX A 2 jY [] [] none none 0 0 1 w hE hA (IH w) IC (by decide) (by decide) Lk
 refine h.mono ?_;obtain⟨x,y,e1,h1,h2,h3,h4⟩:=Aj (gs:=cM jX jY 1 []) (a:=[49,53,56]) (b:=[49,48,48]) (c:=[55,57]) (d:=[55,53]) (by decide +kernel);rw[e1];rintro e w'⟨A1,c1,B1,d1,C1,k1,rfl,_,r2,_,hx⟩;exact⟨A1,_,c1,B1,d1,C1,_,k1,x,y,rfl,r2,h1,h2,h3,h4,hx⟩
def FF(w:World)(e:Ending)(w':World):Prop:=∃A c B d C k l x y z,e = .returned (.tuple #[.agg #[.slice A 1 c,.slice B 2 d,.slice C k l,.slice none 0 0],.int .i64 0])∧aK w' A [z]∧dM w' B [x,y]∧x.c=[49,50,53]∧y.c=[54,50]∧z.q=[53]∧z.c=[54,51]∧Ext w w'
theorem FH(A:Option Addr)(w:World)(hE:Env w)(hA:aK w A jX):Calls prog 13 #[.slice A 2 2,.agg fT,.int .i64 6] w (FF w):=by
 have h:Calls prog 13 #[.slice A 2 2,.agg fT,.int .i64 6] w (gu (ij jX jY 6 []) (cM jX jY 6 []) (kw jX jY 6 []) w) :=
  uT jX A 2 jY [] [] none none 0 0 6 w hE hA (IH w) IC (by decide) (by decide) Lk
 refine h.mono ?_;obtain⟨x,y,e1,_,h2,_,h4⟩:=Aj (gs:=cM jX jY 6 []) (a:=[49,53,56]) (b:=[49,50,53]) (c:=[55,57]) (d:=[54,50]) (by decide +kernel);obtain⟨z,e2,h5,h6⟩:=IG (gs:=ij jX jY 6 []) (a:=[53]) (b:=[54,51]) (by decide +kernel);rw[e1,e2];rintro e w'⟨A1,c1,B1,d1,C1,k1,rfl,r1,r2,_,hx⟩;exact⟨A1,c1,B1,d1,C1,_,k1,x,y,z,rfl,r1,r2,h2,h4,h5,h6,hx⟩
theorem mj:FC:=by
 intro w hE;have HE:=qh hE;clear hE;go_enter func12,ntmps12;go_wp2_with fail;refine(yv _).mono ?_;rintro e w1⟨A,rfl,hA,hx1⟩;have HZ:=qh (ID w1 30 xz);have HX:=qh (hx1.trans (ext_sets fT.toList 0 _ () (Id w1 (.cells xz 30)) (Mn w1.heap.size)));have HX1:=qh (ext_sets fT.toList 0 _ () (Id w1 (.cells xz 30)) (Mn w1.heap.size));have HA:=qh (hA.ext HX1.out);have HF:Hid (Blk _ w1.heap.size 30 fT):=qh (sX (w:=_) (xs:=xz.toList) (ys:=fT.toList) (show Blk _ _ _ xz.toList.toArray from HZ.out) rfl);have hs2:(prog.info? 30).map (·.size)=some fT.size:=by kernel_rfl
 have hs1:(prog.info? 30).map (·.size)=some fT.toList.length:=by kernel_rfl
 have hth:World.there _ w1.heap.size 0 fT.size:=(qL HZ.out:World.there _ w1.heap.size 0 (xz:Array Value).size);have hoc:fT.all (·.oneCell')=true:=by simp[Value.oneCell']
 clear hA hx1 HX1 HZ;go_wp2_with (first|(refine Oy rfl 30 _ _ rfl w1.heap.size 0 fT rfl rfl hth hs2 hoc ?_;refine gm ?_)|fail);refine eE ?_;clear hth hoc hs2;generalize ((w1.alloc (.cells xz 30)).setCells w1.heap.size 0 fT.toList)=w2 at *;generalize w1.heap.size=G2 at *;have hrg:=aL HF.out;go_wp2_with (first|refine Oh rfl 30 _ rfl G2 0 rfl _ _ hrg M3 rfl hs1 ?_|fail);refine(FE A w2 (HE.out.ext HX.out) HA.out).mono ?_;rintro e w3⟨Aa,na,ca,Ab,cb,Ac,nc,cc,x,y,rfl,hr,h1,h2,h3,h4,hx1⟩;have hx2:=hx1.trans (Id w3 (.cells #[.slice Aa na ca,.slice Ab 2 cb,.slice Ac nc cc,.slice none 0 0] 39));have HR:=qh (ID w3 39 #[.slice Aa na ca,.slice Ab 2 cb,.slice Ac nc cc,.slice none 0 0]);have HG:=qh (hr.ext (Id w3 (.cells #[.slice Aa na ca,.slice Ab 2 cb,.slice Ac nc cc,.slice none 0 0] 39)));replace HX:=HX.qt hx2;replace HF:=qh (HF.out.ext hx2);replace HA:=qh (HA.out.ext hx2);clear hx1 hx2 hr hrg;go_upto_region 3 with fail;generalize w3.alloc (.cells #[.slice Aa na ca,.slice Ab 2 cb,.slice Ac nc cc,.slice none 0 0] 39)=W3 at *;generalize w3.heap.size=G3 at *;have hrg:=aL HF.out;go_wp2_with (first|refine Oh rfl 30 _ rfl G2 0 rfl _ _ hrg M3 rfl hs1 ?_|fail);refine(FH A W3 (HE.out.ext HX.out) HA.out).mono ?_;rintro e w4⟨Ba,ba,Bb,bb,Bc,mc,bc,x',y',z',rfl,hl,hr,h5,h6,h7,h8,hx1⟩;have hx2:=hx1.trans (Id w4 (.cells #[.slice Ba 1 ba,.slice Bb 2 bb,.slice Bc mc bc,.slice none 0 0] 39));have HR4:=qh (ID w4 39 #[.slice Ba 1 ba,.slice Bb 2 bb,.slice Bc mc bc,.slice none 0 0]);have HG4:=qh (hr.ext (Id w4 (.cells #[.slice Ba 1 ba,.slice Bb 2 bb,.slice Bc mc bc,.slice none 0 0] 39)));have HL4:=qh (hl.ext (Id w4 (.cells #[.slice Ba 1 ba,.slice Bb 2 bb,.slice Bc mc bc,.slice none 0 0] 39)));replace HX:=HX.qt hx2;replace HR:=qh (HR.out.ext hx2);replace HG:=qh (HG.out.ext hx2);clear hx1 hx2 hr hl hrg HF HA;go_upto_region 4 with fail;generalize w4.alloc (.cells #[.slice Ba 1 ba,.slice Bb 2 bb,.slice Bc mc bc,.slice none 0 0] 39)=W4 at *;generalize w4.heap.size=G4 at *;obtain⟨r0,r1,r2,r3⟩:=iq HR.out (iD _);obtain⟨q0,q1,q2,q3⟩:=iq HR4.out (iD _);obtain⟨b,o,rfl,hb,_,_,_,_,_,_,a6,a7,_,_⟩:=HG.out.at_ (k:=0) (by simp);obtain⟨b2,o2,e2,_,_,_,_,_,_,_,c6,c7,_,_⟩:=HG.out.at_ (k:=1) (by simp);injection e2 with e2
 injection e2 with e3 e4 _
 subst e3;subst e4;obtain⟨b5,o5,rfl,hb5,_,_,_,_,_,_,_,d7,_,_⟩:=HG4.out.at_ (k:=0) (by simp);obtain⟨b2,o2,e2,_,_,_,_,_,_,_,_,f7,_,_⟩:=HG4.out.at_ (k:=1) (by simp);injection e2 with e2
 injection e2 with e3 e4 _
 subst e3;subst e4;obtain⟨b6,o6,rfl,hb6,_,_,_,_,l4,l5,_⟩:=HL4.out.at_ (k:=0) (by simp);simp only[Ps,Qz,O6,Nj,OJ,h1,h2,h3,h4,h5,h6,h7,h8]at a6 a7 c6 c7 d7 f7 l4 l5;clear HG HG4 HL4 HR HR4 h1 h2 h3 h4 h5 h6 h7 h8;go_wp2_with fail;go_ret;exact⟨rfl,HX.out⟩
end
section
open Go.ChangeShapes Go.WideShapes Go.ChangeAt Go.RowKit Go.Deep Go.Joins
theorem FI{α:Type} [Inhabited α] (n:Nat) (Q:Nat->α->Prop) (h:∀i,i<n->∃a,Q i a):∃xs:List α,xs.length=n∧∀(i:Nat) (hi:i<xs.length),Q i (xs[i]'hi):=by
 induction n with
 |zero=>exact⟨[],rfl,fun i hi=>absurd hi (by simp)⟩
 |succ n ih =>
  obtain⟨xs,hl,hx⟩:=ih (fun i hi=>h i (by omega));obtain⟨a,ha⟩:=h n (by omega);refine⟨xs++[a],by simp[hl],fun i hi=>?_⟩;rcases Nw i xs.length with h1|h1
  ·rw[Sv h1];exact hx i h1
  ·have:i=n:=by simp at hi;omega
   subst this
   rw[PX h1];simpa[hl] using ha
section
variable {H:Type} {enc:TypeId × Value->H} {P:Program} {w:World} {base:Nat} {spare:Nat->Bool} {held:Bool}
theorem ln{α:Type} [Inhabited α] (f:α->List Value) (k:Nat) (hk:0<k) (hf:∀a,(f a).length=k)  {fuel:Nat} {cs:List Value} {x:DataW H × List MemPlace} (ht:P.underlying t=some (.slice e)) (hC:P.cellsOf e=k)
  (ho:∀n cs' y,DataW.trod enc P w base spare held n e cs'=some y->∃a,cs'=f a) (h:DataW.trod enc P w base spare held fuel t cs=some x) :
  ∃(A:Option Addr) (c:Nat) (xs:List α),cs=[.slice A xs.length c]∧Reads w k A xs.length (xs.flatMap f)∧xs.length<=c∧(xs=[]∨∃el sp,x.1 = .slice el sp∧el.length=xs.length):=by
 rcases open_slice ht h with ⟨rfl,_⟩ | ⟨a,len,cap,m,n,D,Pl,rfl,_,hlc,_,hm,hx,hi⟩
 ·exact⟨none,0,[],rfl,Reads.nil,Mn _,.inl rfl⟩
 ·have hml:len<=m:=by rw[hm];split <;> omega
  obtain⟨xs,hl,hq⟩:=FI len (fun i b=>∀j,j<k->w.cell? (a.add (i*k+j))=(f b)[j]?) (fun i hlt=>by
   obtain⟨cs',hc,ht'⟩:=hi i (by omega);obtain⟨b,rfl⟩:=ho _ _ _ ht';obtain⟨_,hcl,hat⟩:=World.cells?_some hc;rw[hC]at hat;exact⟨b,fun j hj=>by rw[←hat j hj,Go.Deep.add_add]⟩)
  subst hl;refine⟨some a,cap,xs,rfl,⟨py f k hf xs,fun hn=>?_⟩,hlc,.inr ⟨_,_,by rw[hx],by simp⟩⟩;have h00:=hq 0 hn 0 hk;rw[O6,MV]at h00;have h0:w.cell? a=(f (xs[0]'hn))[0]? := h00;have hl0:0<(f (xs[0]'hn)).length:=by rw[hf];exact hk
  rw[Mr hl0]at h0;obtain⟨b,o,sp⟩:=a
  have hsp:sp=none∧b<w.heap.size:=by
   unfold World.cell? at h0
   cases hb:w.heap[b]? with
   |none=>simp[hb]at h0
   |some ob =>
    have hlt:=(MD.1 hb).1
    cases sp with
    |none=>exact⟨rfl,hlt⟩
    |some q =>
     exfalso
     simp only[hb]at h0
     cases ob <;> simp at h0
  obtain⟨rfl,hlt⟩:=hsp;refine⟨b,o,rfl,hlt,fun j u hu=>?_⟩
  have hj:j<xs.length*k:=by
   have:=(Nk.1 hu).1;rw[py f k hf xs]at this;exact this
  have hjk:j / k<xs.length:=(OZ hk).2 hj;have he:j=(j / k)*k+j % k:=by have:=Qr j k;rw[MF]at this;omega
  have h1:=ik f k hf xs (j / k) (j % k) hjk (NV _ hk);rw[←he,hu]at h1;have h2:=hq (j / k) hjk (j % k) (NV _ hk);rw[←he,←h1]at h2;rw[←h2];unfold Addr.add;rcases MB j with h0|h0
  ·subst h0;rfl
  ·rw[Mj (by omega)]
end
theorem m5{H:Type}{enc:TypeId × Value->H}{P:Program}(hl:laidOutB P=true){W W':World}(hb:Below W.heap.size W W'){sp:Nat->Bool} :
  ∀ {ts:List TypeId} {vs:List Value} {ds:List (DataW H)} {ps:List MemPlace},(ts.all fun t=>P.readableRec t && decide (t<P.types.size))=true->DataW.TrodAll enc P W 0 (fun _=>true) true ts vs ds ps->(∀p ∈ ps,p.block<W.heap.size)->(∀p ∈ ps,sp p.block=true) ->
    DataW.TrodAll enc P W' 0 sp true ts vs ds ps
 |[],vs,ds,ps,_,h,_,_=>by
  obtain⟨rfl,rfl,rfl⟩:=trodAll_nil h;exact trodAll_mk0
 |t :: ts,vs,ds,ps,hr,h,h1,h2=>by
  obtain⟨v0,vs0,d0,ds0,p0,q0,rfl,rfl,rfl,h0,r0⟩:=trodAll_cons h;simp only[NH,MJ,MW]at hr;refine trodAll_cons_mk (WideElems.Trod_stays hl hr.1.1 hr.1.2 h0 (fun x hx=>hb.same (h1 x (by simp[hx]))) (fun x hx=>h2 x (by simp[hx]))) ?_;exact m5 hl hb (by simpa using hr.2) r0 (fun p hp=>h1 p (by simp[hp])) (fun p hp=>h2 p (by simp[hp]))
theorem post_law{H:Type}{enc:TypeId × Value->H}{P:Program}{f:Func}{s:ChangeSpec}{apart fresh handsOn again:Bool}{args:Array Value}{ds gs:List (DataW H)}{before:List MemPlace}
  (hl:laidOutB P=true) (hts:(f.params.toList.all fun t=>P.readableRec t && decide (t<P.types.size))=true) (hrt:f.resultTypes=#[tb]) (hbt:P.underlying tb=some .bool) (hvs:s.vars=[])
  (hW:DataW.Whole enc P f.params.toList s.vars apart W args.toList ds gs before) (hsr:(s.fn H (ds++gs)).results=[.lit (.bool true)]) (hsa:(s.fn H (ds++gs)).args=ds) (hsv:(s.fn H (ds++gs)).vars=[]) (hb:Below W.heap.size W W') :
  s.post enc P f apart fresh handsOn again W args (.bool true) W':=by
 have hlt:∀p ∈ before,p.block<W.heap.size:=fun p hp=>hW.lt p hp
 have hold:∀p ∈ before,(fun b=>decide (b<W.heap.size)) p.block=true:=fun p hp=>by simpa using hlt p hp
 have hW0:=hW;obtain⟨pa,pv,hA,hV,hpp,hz,hn⟩:=hW0;rw[hvs]at hV;obtain⟨rfl,rfl⟩:=trodVars_none hV;rw[N0]at hpp;subst hpp
 have hres:∀(b:Nat) (sp:Nat->Bool) (hd:Bool),DataW.TrodAll enc P W' b sp hd f.resultTypes.toList ((Value.bool true).resultList f.resultTypes.size) (s.fn H (ds++[])).results []:=by
  intro b sp hd;rw[hrt,hsr];exact trodAll_cons_mk (shut_bool hbt _) trodAll_mk0
 have hargs:∀sp:Nat->Bool,(∀p ∈ before,sp p.block=true)->DataW.TrodAll enc P W' 0 sp true f.params.toList args.toList (s.fn H (ds++[])).args before:=by
  intro sp hsp;rw[hsa];exact m5 hl hb hts hA hlt hsp
 have hvars:∀sp:Nat->Bool,DataW.TrodVars enc P W' sp s.vars (s.fn H (ds++[])).vars []:=by
  intro sp;rw[hvs,hsv];exact rfl
 have hok:∀(j:Nat) (t:TypeId) (r:Value),f.resultTypes[j]? = some t->((Value.bool true).resultList f.resultTypes.size)[j]? = some r->Value.okWide P W' .any 0 t r :=
  ok_one hrt rfl (okWide_bool_mk hbt _)
 refine⟨ds,[],before,[],before,[],hW,hres _ _ _,hargs _ hold,hvars _,World.keptBut_mono (fun p hp=>⟨hp,Or.inr (by simpa using hp)⟩) (hb.frame (· ∈ before)),fun _=>⟨hok,_,_,([]++before)++[],⟨[]++before,[],trodAll_append (hargs _ (fun _ _=>rfl)) (hres _ _ _),hvars _,rfl,?_,?_⟩,?_⟩⟩
 ·intro b off hp;have hin:MemPlace.cell b off ∈ before:=by simpa using hp
  rw[hb.frozen (hlt _ hin)];exact hz b off hin
 ·intro ha;simpa using hn ha
 ·intro p hp _;simpa using hp
section
variable {P:Program} {w:World} {base:Nat} {spare:Nat->Bool} {held:Bool} {H:Type} {enc:TypeId × Value->H}
end
theorem ke{H:Type}{P:Program}{α:Type}{xs:List α}{d:DataW H}(ht:P.underlying t=some (.slice e))(hb:0<P.bytesOf e)(hw:(d.weights P t).all (·<=reachBytes)=true)(hx:xs=[]∨∃el sp,d = .slice el sp∧el.length=xs.length):xs.length<=4611686018427387904:=by
 rcases hx with rfl | ⟨el,sp,rfl,hl⟩
 ·simp
 ·simp only[DataW.weights,ht,NH,MJ,MW]at hw;have h1:el.length*1<=(el.length+sp.length)*P.bytesOf e:=P9 (by omega) hb;have h2:reachBytes<=4611686018427387904:=by decide
  omega
theorem own:ownKnob prog.godebug=none:=by kernel_rfl
theorem laidOut:laidOutB prog=true:=by kernel_rfl
theorem II : "*" ++ "errors.errorString" = "*errors.errorString":=by decide
theorem Ak(u:TypeId)(h:prog.typeName? 3 u=some "*errors.errorString"):u=338 :=
 typeName_ptr_named (nm := "errors.errorString") (by rw[II];kernel_rfl) (by kernel_rfl) (by decide) u (by rw[II];exact h)
theorem m6{w:World}{p:Addr}{u:Value}(h:w.cell? p=some u):p.block<w.heap.size:=by
 unfold World.cell? at h
 cases hb:w.heap[p.block]? with
 |none=>simp[hb]at h
 |some o=>exact(MD.1 hb).1
theorem env_of{x y u:String × DataW Unit}{rest:List (String × DataW Unit)}(h:laidMet prog (x :: y :: ("internal/strconv.uint64pow10",Rows.laid_internal_strconv_uint64pow10) :: u :: ("strconv.ErrRange",Rows.laid_strconv_ErrRange) :: ("strconv.ErrSyntax",Rows.laid_strconv_ErrSyntax) :: rest) W)(hsh:W.ShapedOpen prog):Env W:=by
 have h1:Lib.TabIs prog W "internal/strconv.uint64pow10" .u64 Lib.pow10Tab :=
  Lib.tabIs_of_head (g:=2) (by kernel_rfl) (by kernel_rfl) underlying325 underlying173 (by kernel_rfl) (by kernel_rfl) h.tail.tail
 have h2:∃m,W.cell? ⟨3,0,none⟩=some (.int .i64 m) :=
  cell_of_shapedOpen_int (zero:=#[.int .i64 0]) hsh (by decide +kernel) (by kernel_rfl) (by kernel_rfl) (by kernel_rfl) (by kernel_rfl) Pw
 have h3:=h1.cell (g:=2) (by kernel_rfl) 0 (by decide);have gR:prog.globalNamed "strconv.ErrRange"=some 1:=by kernel_rfl
 have gS:prog.globalNamed "strconv.ErrSyntax"=some 0:=by kernel_rfl
 obtain⟨a1,s1,v1,_,_,_⟩:=laid_sentinel h.tail.tail.tail.tail gR (by kernel_rfl) underlying175 Ak underlying338 underlying340 rfl rfl Nd (by kernel_rfl) (by kernel_rfl);obtain⟨a2,s2,v2,_,_,_⟩:=laid_sentinel h.tail.tail.tail.tail.tail gS (by kernel_rfl) underlying175 Ak underlying338 underlying340 rfl rfl Nd (by kernel_rfl) (by kernel_rfl);refine⟨h1,h2,⟨m6 h3,?_⟩,⟨_,World.var?_cell gS v2 0,.inr ⟨_,_,rfl⟩⟩,⟨_,World.var?_cell gR v1 0,.inr ⟨_,_,rfl⟩⟩⟩;obtain⟨m,hm⟩:=h2;exact m6 hm
end
end Go.Proofs.YtaegjkllenlfpaaGreatDoor
