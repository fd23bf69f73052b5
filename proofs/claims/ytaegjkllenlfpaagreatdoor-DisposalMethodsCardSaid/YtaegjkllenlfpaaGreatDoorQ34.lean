/- The seat's texts, part Q34. -/
import Derived.Test.YtaegjkllenlfpaaGreatDoorQ0
import Derived.Test.YtaegjkllenlfpaaGreatDoorQ3
import Derived.Test.YtaegjkllenlfpaaGreatDoorQ8
import Derived.Test.YtaegjkllenlfpaaGreatDoorQ10
import Derived.Test.YtaegjkllenlfpaaGreatDoorQ14
import Derived.Test.YtaegjkllenlfpaaGreatDoorQ32
import Derived.Test.YtaegjkllenlfpaaGreatDoorQ33
import Derived.Deep.MidRow
import Derived.Test.YtaegjkllenlfpaaGreatDoorRows
import Derived.ProofKit
import Derived.OpenShut
import Derived.Deep.Slices
import Derived.Deep.Fields
import Derived.Lib.SmallJoins
import Derived.ChangeSame
import Derived.WideKeyArgs
import Derived.Stop.LaidErr
import Derived.Lib.LaidTab
import Derived.Shelf.Vars
set_option maxRecDepth 100000
set_option maxHeartbeats 8000000
namespace Go.Proofs.YtaegjkllenlfpaaGreatDoor
variable {k g fuel n b0:Nat}{ys:List Value}{c:Bs}{W W':World}
section
open Go.RowKit Go.Shelf
def bQ(f:GainV->Bs)(gs:List GainV):Int:=(gs.map (fun g=>valI (f g))).sum
theorem mA{f:GainV->Bs}{gs:List GainV}(h:k<gs.length):bQ f (gs.take (k+1))=bQ f (gs.take k)+valI (f (gs[k]'h)):=by
 unfold bQ;rw[List.take_succ_eq_append_getElem h,List.map_append,List.sum_append];simp
theorem ox{f:GainV->Bs}{gs:List GainV}{L:Nat}(hs:∀g ∈ gs,(f g).length<=L)(hn:gs.length<=100000)(k:Nat):(ofI (bQ f (gs.take k))).length<=L+7:=by
 have e:bQ f (gs.take k)=aW ((gs.take k).map f):=by unfold bQ aW;rw[List.map_map];rfl
 rw[e];refine gM L _ ?_ (by rw[List.length_map,List.length_take];omega);intro x hx;obtain⟨g,hg,rfl⟩:=List.mem_map.1 hx;exact hs g (List.mem_of_mem_take hg)
end
section
open Go.RowKit Go.Shelf
attribute [local go_sem] size_bs toList_bs
def Fd:Bs:=[97,98,99]
def ju:List LotV:=[⟨[97,47,49],Fd,19700,19700,[49,48],[49,48,48],[]⟩,⟨[98,47,49],Fd,19710,19710,[49,48],[49,53,48],[]⟩]
def jv:FactV:=⟨[115],0,false,19723,4,Fd,[],[],[],[49,53],[50,52,48],[51],⟨[],[]⟩,⟨[],[]⟩,⟨[],[]⟩,0⟩
theorem Fe:SelIn ju jv [] []:=⟨by decide +kernel,by decide +kernel,by decide +kernel,rfl⟩
theorem Iz:valI jv.qty<=totQ ju jv.ins:=by decide +kernel
theorem jE{w:World}{cs:Array Value}(h:Blk w g 30 cs):w.there g 0 cs.size:=fun j hj=>by
 rw[Nat.zero_add,h.cell j,h.frozen j,Array.getElem?_eq_getElem hj];exact⟨rfl,rfl⟩
abbrev xz:Array Value:=#[.string ⟨#[]⟩,.int .i64 0,.bool false,.int .i64 0,.int .i64 0,.string ⟨#[]⟩,.string ⟨#[]⟩,.string ⟨#[]⟩,.string ⟨#[]⟩,.string ⟨#[]⟩,.string ⟨#[]⟩,.string ⟨#[]⟩,.string ⟨#[]⟩,.string ⟨#[]⟩,.string ⟨#[]⟩,.string ⟨#[]⟩,.string ⟨#[]⟩,.string ⟨#[]⟩,.slice none 0 0,.slice none 0 0,.int .i64 0]
abbrev fL:Array Value:=af jv (.slice none 0 0) (.slice none 0 0)
def Ff(w:World)(e:Ending)(w':World):Prop:=∃A,e = .returned (.tuple #[.slice A 2 2,.agg fL])∧aG w' A ju∧Ext w w'
theorem kw{w:World}{xs:List Value}(h:Blk w g 30 xs.toArray)(hl:xs.length=ys.length):Blk (w.setCells g 0 ys) g 30 ys.toArray:=by
 have:=Blk.sets ys 0 w xs h (by omega);unfold lsplice at this
 rw[List.take_zero,List.nil_append,List.drop_of_length_le (by omega),List.append_nil]at this
 exact this
theorem we{fn:Func}{a b:Tmp}(h:fn.results=#[.tmp a,.cell b 30])(tmps:Array Value)(w:World)(g:Nat)(z:Value)(cs:List Value)(hl:cs.length=21)(hz:tmps.getD a undef=z)(ha:tmps.getD b undef = .pointer (some ⟨g,0,none⟩))(hb:Blk w g 30 cs.toArray) :
  (results fn tmps).run Tryz.prog w = .ok (.tuple #[z,.agg cs.toArray]) w:=by
 have hs1:(Tryz.prog.info? 30).map (·.size)=some cs.length:=by rw[hl];kernel_rfl
 have hrg:w.rangeAt g 0 cs:=aE hb;have hld:=run_loadVar_mid w g 0 30 cs _ hrg Tryz.underlying30 rfl hs1;unfold results;rw[h];simp only[List.mapM_toArray,List.mapM_cons,List.mapM_nil,ha,hz];simp[asAddr,hld]
theorem wg(w:World):Calls Tryz.prog 53 #[] w (Ff w):=by
 have HB:=qh ((Blk.new w 30 xz).alloc (.cells #[.string ⟨#[97,47,49]⟩,.string ⟨#[97,98,99]⟩,.int .i64 19700,.int .i64 19700,.string ⟨#[49,48]⟩,.string ⟨#[49,48,48]⟩,.string ⟨#[]⟩,.string ⟨#[98,47,49]⟩,.string ⟨#[97,98,99]⟩,.int .i64 19710,.int .i64 19710,.string ⟨#[49,48]⟩,.string ⟨#[49,53,48]⟩,.string ⟨#[]⟩] 62));have HL:=qh (Blk.newAt (w.alloc (.cells xz 30)) 62 #[.string ⟨#[97,47,49]⟩,.string ⟨#[97,98,99]⟩,.int .i64 19700,.int .i64 19700,.string ⟨#[49,48]⟩,.string ⟨#[49,48,48]⟩,.string ⟨#[]⟩,.string ⟨#[98,47,49]⟩,.string ⟨#[97,98,99]⟩,.int .i64 19710,.int .i64 19710,.string ⟨#[49,48]⟩,.string ⟨#[49,53,48]⟩,.string ⟨#[]⟩] (w.heap.size+1) (by simp));have HX:Hid (Ext w _):=qh ((Ext.new w (.cells xz 30)).alloc (.cells #[.string ⟨#[97,47,49]⟩,.string ⟨#[97,98,99]⟩,.int .i64 19700,.int .i64 19700,.string ⟨#[49,48]⟩,.string ⟨#[49,48,48]⟩,.string ⟨#[]⟩,.string ⟨#[98,47,49]⟩,.string ⟨#[97,98,99]⟩,.int .i64 19710,.int .i64 19710,.string ⟨#[49,48]⟩,.string ⟨#[49,53,48]⟩,.string ⟨#[]⟩] 62));have hs2:(Tryz.prog.info? 30).map (·.size)=some fL.size:=by kernel_rfl
 have hth:World.there _ w.heap.size 0 fL.size:=(jE HB.out:World.there _ w.heap.size 0 (xz:Array Value).size);have hoc:fL.all (·.oneCell')=true:=by simp[Value.oneCell']
 have HF:=qh (kw (w:=_) (xs:=xz.toList) (ys:=fL.toList) (show Blk _ _ _ xz.toList.toArray from HB.out) rfl);have HXF:=qh (ext_sets fL.toList 0 _ () HX.out (Nat.le_refl w.heap.size));have HLF:=qh (HL.out.sets_far (g':=w.heap.size) (by omega) fL.toList 0);go_enter Tryz.func53,Tryz.ntmps53;go_wp2_with (first|(refine wpList_store_mid rfl 30 _ _ rfl w.heap.size 0 fL rfl rfl hth hs2 hoc ?_)|fail);refine bodyPost_ret (we rfl _ _ w.heap.size (.slice (some ⟨w.heap.size+1,0,none⟩) 2 2) fL.toList rfl rfl rfl HF.out) rfl ?_;refine⟨_,rfl,?_,HXF.out⟩;exact⟨rfl,fun _=>⟨_,_,rfl,HLF.out.lt,fun j u hu=>by rw[Nat.zero_add,HLF.out.cell,List.getElem?_toArray];exact hu⟩⟩
def Dl:Prop:=∀W,Env W->Calls Tryz.prog 12 #[] W fun e w'=>e = .returned (.bool true)∧Ext W w'
theorem ye{gs:List GainV}{a b d:Bs}(h:gs.map (fun g=>(g.p,g.c))=[(a,b),(c,d)]):∃x y,gs=[x,y]∧x.p=a∧x.c=b∧y.p=c∧y.c=d:=by
 match gs,h with
 |[x,y],h =>
  simp only[List.map_cons,List.map_nil,List.cons.injEq,Prod.mk.injEq]at h;exact⟨x,y,rfl,h.1.1,h.1.2,h.2.1.1,h.2.1.2⟩
theorem Fg{gs:List LotV}{a b:Bs}(h:gs.map (fun g=>(g.q,g.c))=[(a,b)]):∃x,gs=[x]∧x.q=a∧x.c=b:=by
 match gs,h with
 |[x],h =>
  simp only[List.map_cons,List.map_nil,List.cons.injEq,Prod.mk.injEq]at h;exact⟨x,rfl,h.1.1,h.1.2⟩
theorem Fh(w:World):FactAt w jv [] [] none none 0:=⟨⟨by decide,by decide,by decide,by decide,by decide,by decide,by decide,by decide,by decide,by decide,by decide,by decide,by decide,by decide⟩,Reads.nil,by simp,by decide,by decide,Reads.nil,by simp,by decide⟩
def Dm(w:World)(e:Ending)(w':World):Prop:=∃A n c B d C k l x y,e = .returned (.tuple #[.agg #[.slice A n c,.slice B 2 d,.slice C k l,.slice none 0 0],.int .i64 0])∧jQ w' B [x,y]∧x.p=[49,53,56]∧x.c=[49,48,48]∧y.p=[55,57]∧y.c=[55,53]∧Ext w w'
theorem Dn(A:Option Addr)(w:World)(hE:Env w)(hA:aG w A ju):Calls Tryz.prog 13 #[.slice A 2 2,.agg fL,.int .i64 1] w (Dm w):=by
 have h:Calls Tryz.prog 13 #[.slice A 2 2,.agg fL,.int .i64 1] w (fw (bP ju jv 1 []) (aP ju jv 1 []) (iZ ju jv 1 []) w) :=
  tw ju A 2 jv [] [] none none 0 0 1 w hE hA (Fh w) Fe (by decide) (by decide) Iz
 refine h.mono ?_;obtain⟨x,y,e1,h1,h2,h3,h4⟩:=ye (gs:=aP ju jv 1 []) (a:=[49,53,56]) (b:=[49,48,48]) (c:=[55,57]) (d:=[55,53]) (by decide +kernel);rw[e1];rintro e w'⟨A1,c1,B1,d1,C1,k1,rfl,_,r2,_,hx⟩;exact⟨A1,_,c1,B1,d1,C1,_,k1,x,y,rfl,r2,h1,h2,h3,h4,hx⟩
def Dp(w:World)(e:Ending)(w':World):Prop:=∃A c B d C k l x y z,e = .returned (.tuple #[.agg #[.slice A 1 c,.slice B 2 d,.slice C k l,.slice none 0 0],.int .i64 0])∧aG w' A [z]∧jQ w' B [x,y]∧x.c=[49,50,53]∧y.c=[54,50]∧z.q=[53]∧z.c=[54,51]∧Ext w w'
theorem Dq(A:Option Addr)(w:World)(hE:Env w)(hA:aG w A ju):Calls Tryz.prog 13 #[.slice A 2 2,.agg fL,.int .i64 6] w (Dp w):=by
 have h:Calls Tryz.prog 13 #[.slice A 2 2,.agg fL,.int .i64 6] w (fw (bP ju jv 6 []) (aP ju jv 6 []) (iZ ju jv 6 []) w) :=
  tw ju A 2 jv [] [] none none 0 0 6 w hE hA (Fh w) Fe (by decide) (by decide) Iz
 refine h.mono ?_;obtain⟨x,y,e1,_,h2,_,h4⟩:=ye (gs:=aP ju jv 6 []) (a:=[49,53,56]) (b:=[49,50,53]) (c:=[55,57]) (d:=[54,50]) (by decide +kernel);obtain⟨z,e2,h5,h6⟩:=Fg (gs:=bP ju jv 6 []) (a:=[53]) (b:=[54,51]) (by decide +kernel);rw[e1,e2];rintro e w'⟨A1,c1,B1,d1,C1,k1,rfl,r1,r2,_,hx⟩;exact⟨A1,c1,B1,d1,C1,_,k1,x,y,z,rfl,r1,r2,h2,h4,h5,h6,hx⟩
theorem dp:Dl:=by
 intro w hE;have HE:=qh hE;clear hE;go_enter Tryz.func12,Tryz.ntmps12;go_wp2_with fail;refine(wg _).mono ?_;rintro e w1⟨A,rfl,hA,hx1⟩;have HZ:=qh (Blk.new w1 30 xz);have HX:=qh (hx1.trans (ext_sets fL.toList 0 _ () (Ext.new w1 (.cells xz 30)) (Nat.le_refl w1.heap.size)));have HX1:=qh (ext_sets fL.toList 0 _ () (Ext.new w1 (.cells xz 30)) (Nat.le_refl w1.heap.size));have HA:=qh (hA.ext HX1.out);have HF:Hid (Blk _ w1.heap.size 30 fL):=qh (kw (w:=_) (xs:=xz.toList) (ys:=fL.toList) (show Blk _ _ _ xz.toList.toArray from HZ.out) rfl);have hs2:(Tryz.prog.info? 30).map (·.size)=some fL.size:=by kernel_rfl
 have hs1:(Tryz.prog.info? 30).map (·.size)=some fL.toList.length:=by kernel_rfl
 have hth:World.there _ w1.heap.size 0 fL.size:=(jE HZ.out:World.there _ w1.heap.size 0 (xz:Array Value).size);have hoc:fL.all (·.oneCell')=true:=by simp[Value.oneCell']
 clear hA hx1 HX1 HZ;go_wp2_with (first|(refine wpList_store_mid rfl 30 _ _ rfl w1.heap.size 0 fL rfl rfl hth hs2 hoc ?_;refine gU ?_)|fail);refine fG ?_;clear hth hoc hs2;generalize ((w1.alloc (.cells xz 30)).setCells w1.heap.size 0 fL.toList)=w2 at *;generalize w1.heap.size=G2 at *;have hrg:=aE HF.out;go_wp2_with (first|refine wpList_load_mid rfl 30 _ rfl G2 0 rfl _ _ hrg Tryz.underlying30 rfl hs1 ?_|fail);refine(Dn A w2 (HE.out.ext HX.out) HA.out).mono ?_;rintro e w3⟨Aa,na,ca,Ab,cb,Ac,nc,cc,x,y,rfl,hr,h1,h2,h3,h4,hx1⟩;have hx2:=hx1.trans (Ext.new w3 (.cells #[.slice Aa na ca,.slice Ab 2 cb,.slice Ac nc cc,.slice none 0 0] 39));have HR:=qh (Blk.new w3 39 #[.slice Aa na ca,.slice Ab 2 cb,.slice Ac nc cc,.slice none 0 0]);have HG:=qh (hr.ext (Ext.new w3 (.cells #[.slice Aa na ca,.slice Ab 2 cb,.slice Ac nc cc,.slice none 0 0] 39)));replace HX:=HX.qt hx2;replace HF:=qh (HF.out.ext hx2);replace HA:=qh (HA.out.ext hx2);clear hx1 hx2 hr hrg;go_upto_region 3 with fail;generalize w3.alloc (.cells #[.slice Aa na ca,.slice Ab 2 cb,.slice Ac nc cc,.slice none 0 0] 39)=W3 at *;generalize w3.heap.size=G3 at *;have hrg:=aE HF.out;go_wp2_with (first|refine wpList_load_mid rfl 30 _ rfl G2 0 rfl _ _ hrg Tryz.underlying30 rfl hs1 ?_|fail);refine(Dq A W3 (HE.out.ext HX.out) HA.out).mono ?_;rintro e w4⟨Ba,ba,Bb,bb,Bc,mc,bc,x',y',z',rfl,hl,hr,h5,h6,h7,h8,hx1⟩;have hx2:=hx1.trans (Ext.new w4 (.cells #[.slice Ba 1 ba,.slice Bb 2 bb,.slice Bc mc bc,.slice none 0 0] 39));have HR4:=qh (Blk.new w4 39 #[.slice Ba 1 ba,.slice Bb 2 bb,.slice Bc mc bc,.slice none 0 0]);have HG4:=qh (hr.ext (Ext.new w4 (.cells #[.slice Ba 1 ba,.slice Bb 2 bb,.slice Bc mc bc,.slice none 0 0] 39)));have HL4:=qh (hl.ext (Ext.new w4 (.cells #[.slice Ba 1 ba,.slice Bb 2 bb,.slice Bc mc bc,.slice none 0 0] 39)));replace HX:=HX.qt hx2;replace HR:=qh (HR.out.ext hx2);replace HG:=qh (HG.out.ext hx2);clear hx1 hx2 hr hl hrg HF HA;go_upto_region 4 with fail;generalize w4.alloc (.cells #[.slice Ba 1 ba,.slice Bb 2 bb,.slice Bc mc bc,.slice none 0 0] 39)=W4 at *;generalize w4.heap.size=G4 at *;obtain⟨r0,r1,r2,r3⟩:=jr HR.out (Ext.refl _);obtain⟨q0,q1,q2,q3⟩:=jr HR4.out (Ext.refl _);obtain⟨b,o,rfl,hb,_,_,_,_,_,_,a6,a7,_,_⟩:=HG.out.at_ (k:=0) (by simp);obtain⟨b2,o2,e2,_,_,_,_,_,_,_,c6,c7,_,_⟩:=HG.out.at_ (k:=1) (by simp);injection e2 with e2
 injection e2 with e3 e4 _
 subst e3;subst e4;obtain⟨b5,o5,rfl,hb5,_,_,_,_,_,_,_,d7,_,_⟩:=HG4.out.at_ (k:=0) (by simp);obtain⟨b2,o2,e2,_,_,_,_,_,_,_,_,f7,_,_⟩:=HG4.out.at_ (k:=1) (by simp);injection e2 with e2
 injection e2 with e3 e4 _
 subst e3;subst e4;obtain⟨b6,o6,rfl,hb6,_,_,_,_,l4,l5,_⟩:=HL4.out.at_ (k:=0) (by simp);simp only[List.getElem_cons_zero,List.getElem_cons_succ,Nat.zero_mul,Nat.add_zero,Nat.one_mul,h1,h2,h3,h4,h5,h6,h7,h8]at a6 a7 c6 c7 d7 f7 l4 l5;clear HG HG4 HL4 HR HR4 h1 h2 h3 h4 h5 h6 h7 h8;go_wp2_with fail;go_ret;exact⟨rfl,HX.out⟩
end
section
open Go.ChangeShapes Go.WideShapes Go.ChangeAt Go.RowKit Go.Deep Go.Joins
theorem Dr{α:Type} [Inhabited α] (n:Nat) (Q:Nat->α->Prop) (h:∀i,i<n->∃a,Q i a):∃xs:List α,xs.length=n∧∀(i:Nat) (hi:i<xs.length),Q i (xs[i]'hi):=by
 induction n with
 |zero=>exact⟨[],rfl,fun i hi=>absurd hi (by simp)⟩
 |succ n ih =>
  obtain⟨xs,hl,hx⟩:=ih (fun i hi=>h i (by omega));obtain⟨a,ha⟩:=h n (by omega);refine⟨xs++[a],by simp[hl],fun i hi=>?_⟩;rcases Nat.lt_or_ge i xs.length with h1|h1
  ·rw[List.getElem_append_left h1];exact hx i h1
  ·have:i=n:=by simp at hi;omega
   subst this
   rw[List.getElem_append_right h1];simpa[hl] using ha
section
variable {H:Type} {enc:TypeId × Value->H} {P:Program} {w:World} {base:Nat} {spare:Nat->Bool} {held:Bool}
theorem mB{α:Type} [Inhabited α] (f:α->List Value) (k:Nat) (hk:0<k) (hf:∀a,(f a).length=k) {t e:TypeId}  {cs:List Value} {x:DataW H × List MemPlace} (ht:P.underlying t=some (.slice e)) (hC:P.cellsOf e=k)
  (ho:∀n cs' y,DataW.trod enc P w base spare held n e cs'=some y->∃a,cs'=f a) (h:DataW.trod enc P w base spare held fuel t cs=some x) :
  ∃(A:Option Addr) (c:Nat) (xs:List α),cs=[.slice A xs.length c]∧Reads w k A xs.length (xs.flatMap f)∧xs.length<=c∧(xs=[]∨∃el sp,x.1 = .slice el sp∧el.length=xs.length):=by
 rcases open_slice ht h with ⟨rfl,_⟩ | ⟨a,len,cap,m,n,D,Pl,rfl,_,hlc,_,hm,hx,hi⟩
 ·exact⟨none,0,[],rfl,Reads.nil,Nat.le_refl _,.inl rfl⟩
 ·have hml:len<=m:=by rw[hm];split <;> omega
  obtain⟨xs,hl,hq⟩:=Dr len (fun i b=>∀j,j<k->w.cell? (a.add (i*k+j))=(f b)[j]?) (fun i hlt=>by
   obtain⟨cs',hc,ht'⟩:=hi i (by omega);obtain⟨b,rfl⟩:=ho _ _ _ ht';obtain⟨_,hcl,hat⟩:=World.cells?_some hc;rw[hC]at hat;exact⟨b,fun j hj=>by rw[←hat j hj,Go.Deep.add_add]⟩)
  subst hl;refine⟨some a,cap,xs,rfl,⟨nL f k hf xs,fun hn=>?_⟩,hlc,.inr ⟨_,_,by rw[hx],by simp⟩⟩;have h00:=hq 0 hn 0 hk;rw[Nat.zero_mul,Nat.zero_add]at h00;have h0:w.cell? a=(f (xs[0]'hn))[0]? := h00;have hl0:0<(f (xs[0]'hn)).length:=by rw[hf];exact hk
  rw[List.getElem?_eq_getElem hl0]at h0;obtain⟨b,o,sp⟩:=a
  have hsp:sp=none∧b<w.heap.size:=by
   unfold World.cell? at h0
   cases hb:w.heap[b]? with
   |none=>simp[hb]at h0
   |some ob =>
    have hlt:=(Array.getElem?_eq_some_iff.1 hb).1
    cases sp with
    |none=>exact⟨rfl,hlt⟩
    |some q =>
     exfalso
     simp only[hb]at h0
     cases ob <;> simp at h0
  obtain⟨rfl,hlt⟩:=hsp;refine⟨b,o,rfl,hlt,fun j u hu=>?_⟩
  have hj:j<xs.length*k:=by
   have:=(List.getElem?_eq_some_iff.1 hu).1;rw[nL f k hf xs]at this;exact this
  have hjk:j / k<xs.length:=(Nat.div_lt_iff_lt_mul hk).2 hj;have he:j=(j / k)*k+j % k:=by have:=Nat.div_add_mod j k;rw[Nat.mul_comm]at this;omega
  have h1:=iK f k hf xs (j / k) (j % k) hjk (Nat.mod_lt _ hk);rw[←he,hu]at h1;have h2:=hq (j / k) hjk (j % k) (Nat.mod_lt _ hk);rw[←he,←h1]at h2;rw[←h2];unfold Addr.add;rcases Nat.eq_zero_or_pos j with h0|h0
  ·subst h0;rfl
  ·rw[if_neg (by omega)]
end
theorem ma{H:Type}{enc:TypeId × Value->H}{P:Program}(hl:laidOutB P=true)(hb:Below W.heap.size W W'){sp:Nat->Bool} :
  ∀ {ts:List TypeId} {vs:List Value} {ds:List (DataW H)} {ps:List MemPlace},(ts.all fun t=>P.readableRec t && decide (t<P.types.size))=true->DataW.TrodAll enc P W 0 (fun _=>true) true ts vs ds ps->(∀p ∈ ps,p.block<W.heap.size)->(∀p ∈ ps,sp p.block=true) ->
    DataW.TrodAll enc P W' 0 sp true ts vs ds ps
 |[],vs,ds,ps,_,h,_,_=>by
  obtain⟨rfl,rfl,rfl⟩:=trodAll_nil h;exact trodAll_mk0
 |t :: ts,vs,ds,ps,hr,h,h1,h2=>by
  obtain⟨v0,vs0,d0,ds0,p0,q0,rfl,rfl,rfl,h0,r0⟩:=trodAll_cons h;simp only[List.all_cons,Bool.and_eq_true,decide_eq_true_eq]at hr;refine trodAll_cons_mk (WideElems.Trod_stays hl hr.1.1 hr.1.2 h0 (fun x hx=>hb.same (h1 x (by simp[hx]))) (fun x hx=>h2 x (by simp[hx]))) ?_;exact ma hl hb (by simpa using hr.2) r0 (fun p hp=>h1 p (by simp[hp])) (fun p hp=>h2 p (by simp[hp]))
theorem post_law{H:Type}{enc:TypeId × Value->H}{P:Program}{f:Func}{s:ChangeSpec}{apart fresh handsOn again:Bool}{args:Array Value}{tb:TypeId}{ds gs:List (DataW H)}{before:List MemPlace}
  (hl:laidOutB P=true) (hts:(f.params.toList.all fun t=>P.readableRec t && decide (t<P.types.size))=true) (hrt:f.resultTypes=#[tb]) (hbt:P.underlying tb=some .bool) (hvs:s.vars=[])
  (hW:DataW.Whole enc P f.params.toList s.vars apart W args.toList ds gs before) (hsr:(s.fn H (ds++gs)).results=[.lit (.bool true)]) (hsa:(s.fn H (ds++gs)).args=ds) (hsv:(s.fn H (ds++gs)).vars=[]) (hb:Below W.heap.size W W') :
  s.post enc P f apart fresh handsOn again W args (.bool true) W':=by
 have hlt:∀p ∈ before,p.block<W.heap.size:=fun p hp=>hW.lt p hp
 have hold:∀p ∈ before,(fun b=>decide (b<W.heap.size)) p.block=true:=fun p hp=>by simpa using hlt p hp
 have hW0:=hW;obtain⟨pa,pv,hA,hV,hpp,hz,hn⟩:=hW0;rw[hvs]at hV;obtain⟨rfl,rfl⟩:=trodVars_none hV;rw[List.append_nil]at hpp;subst hpp
 have hres:∀(b:Nat) (sp:Nat->Bool) (hd:Bool),DataW.TrodAll enc P W' b sp hd f.resultTypes.toList ((Value.bool true).resultList f.resultTypes.size) (s.fn H (ds++[])).results []:=by
  intro b sp hd;rw[hrt,hsr];exact trodAll_cons_mk (shut_bool hbt _) trodAll_mk0
 have hargs:∀sp:Nat->Bool,(∀p ∈ before,sp p.block=true)->DataW.TrodAll enc P W' 0 sp true f.params.toList args.toList (s.fn H (ds++[])).args before:=by
  intro sp hsp;rw[hsa];exact ma hl hb hts hA hlt hsp
 have hvars:∀sp:Nat->Bool,DataW.TrodVars enc P W' sp s.vars (s.fn H (ds++[])).vars []:=by
  intro sp;rw[hvs,hsv];exact rfl
 have hok:∀(j:Nat) (t:TypeId) (r:Value),f.resultTypes[j]? = some t->((Value.bool true).resultList f.resultTypes.size)[j]? = some r->Value.okWide P W' .any 0 t r :=
  ok_one hrt rfl (okWide_bool_mk hbt _)
 refine⟨ds,[],before,[],before,[],hW,hres _ _ _,hargs _ hold,hvars _,World.keptBut_mono (fun p hp=>⟨hp,Or.inr (by simpa using hp)⟩) (hb.frame (· ∈ before)),fun _=>⟨hok,_,_,([]++before)++[],⟨[]++before,[],trodAll_append (hargs _ (fun _ _=>rfl)) (hres _ _ _),hvars _,rfl,?_,?_⟩,?_⟩⟩
 ·intro b off hp;have hin:MemPlace.cell b off ∈ before:=by simpa using hp
  rw[hb.frozen (hlt _ hin)];exact hz b off hin
 ·intro ha;simpa using hn ha
 ·intro p hp _;simpa using hp
section
variable {P:Program} {w:World} {base:Nat} {spare:Nat->Bool} {held:Bool} {H:Type} {enc:TypeId × Value->H}
theorem AK{t t0 t1 t2 t3 t4 t5 t6:TypeId}{cs:List Value}{y:DataW H × List MemPlace}{f0 f1 f2 f3 f4 f5 f6:Field}(hs:P.underlying t=some (.struct #[f0,f1,f2,f3,f4,f5,f6]))(hone:oneCellFields P #[f0,f1,f2,f3,f4,f5,f6]=true)(hC:P.cellsOf t=7)
  (h0:f0.type=t0) (h1:f1.type=t1) (h2:f2.type=t2) (h3:f3.type=t3) (h4:f4.type=t4) (h5:f5.type=t5) (h6:f6.type=t6)
  (u0:P.underlying t0=some .string) (u1:P.underlying t1=some .string) (u2:P.underlying t2=some (.int .i64)) (u3:P.underlying t3=some (.int .i64)) (u4:P.underlying t4=some .string) (u5:P.underlying t5=some .string) (u6:P.underlying t6=some .string) (h:DataW.trod enc P w base spare held n t cs=some y) :
  ∃a:LotV,cs=lotCells a:=by
 obtain⟨xs,n,_,_,hlen,hl,hg⟩:=DataW.trod_struct hs h;rw[hC]at hlen;obtain⟨o0,k0⟩:=hone_of hone 0 f0 rfl;obtain⟨o1,k1⟩:=hone_of hone 1 f1 rfl;obtain⟨o2,k2⟩:=hone_of hone 2 f2 rfl;obtain⟨o3,k3⟩:=hone_of hone 3 f3 rfl;obtain⟨o4,k4⟩:=hone_of hone 4 f4 rfl;obtain⟨o5,k5⟩:=hone_of hone 5 f5 rfl;obtain⟨o6,k6⟩:=hone_of hone 6 f6 rfl;match cs,hlen,xs,hl with
 |[c0,c1,c2,c3,c4,c5,c6],_,[y0,y1,y2,y3,y4,y5,y6],_ =>
  have g0:=hg 0 f0 rfl;rw[o0,k0,h0]at g0;have g1:=hg 1 f1 rfl;rw[o1,k1,h1]at g1;have g2:=hg 2 f2 rfl;rw[o2,k2,h2]at g2;have g3:=hg 3 f3 rfl;rw[o3,k3,h3]at g3;have g4:=hg 4 f4 rfl;rw[o4,k4,h4]at g4;have g5:=hg 5 f5 rfl;rw[o5,k5,h5]at g5;have g6:=hg 6 f6 rfl;rw[o6,k6,h6]at g6;obtain⟨s0,e0,_⟩:=DataW.trod_string u0 (x:=y0) (by simpa using g0);obtain⟨s1,e1,_⟩:=DataW.trod_string u1 (x:=y1) (by simpa using g1);obtain⟨s2,e2,_⟩:=DataW.trod_int u2 (x:=y2) (by simpa using g2);obtain⟨s3,e3,_⟩:=DataW.trod_int u3 (x:=y3) (by simpa using g3);obtain⟨s4,e4,_⟩:=DataW.trod_string u4 (x:=y4) (by simpa using g4);obtain⟨s5,e5,_⟩:=DataW.trod_string u5 (x:=y5) (by simpa using g5);obtain⟨s6,e6,_⟩:=DataW.trod_string u6 (x:=y6) (by simpa using g6);simp at e0 e1 e2 e3 e4 e5 e6;subst e0;subst e1;subst e2;subst e3;subst e4;subst e5;subst e6;exact⟨⟨L s0,L s1,s2,s3,L s4,L s5,L s6⟩,by simp[lotCells,bs_L]⟩
end
theorem lW{H:Type}{P:Program}{t e:TypeId}{α:Type}{xs:List α}{d:DataW H}(ht:P.underlying t=some (.slice e))(hb:0<P.bytesOf e)(hw:(d.weights P t).all (·<=reachBytes)=true)(hx:xs=[]∨∃el sp,d = .slice el sp∧el.length=xs.length):xs.length<=4611686018427387904:=by
 rcases hx with rfl | ⟨el,sp,rfl,hl⟩
 ·simp
 ·simp only[DataW.weights,ht,List.all_cons,Bool.and_eq_true,decide_eq_true_eq]at hw;have h1:el.length*1<=(el.length+sp.length)*P.bytesOf e:=Nat.mul_le_mul (by omega) hb;have h2:reachBytes<=4611686018427387904:=by decide
  omega
theorem open_lots{H:Type}{enc:TypeId × Value->H}{r:Reach}{base:Nat}{spare:Nat->Bool}{held:Bool}{v:Value}{d:DataW H}{p:List MemPlace}(hv:Value.okWide Tryz.prog W r b0 22 v)(h:DataW.Trod enc Tryz.prog W base spare held 22 v d p)
  (hw:(d.weights Tryz.prog 22).all (·<=reachBytes)=true) :
  ∃(ls:List LotV) (A:Option Addr) (c:Nat),v = .slice A ls.length c∧aG W A ls∧ls.length<=c∧ls.length<=4611686018427387904:=by
 obtain⟨a,n,c,rfl⟩:=okWide_slice Tryz.underlying22 hv;obtain⟨fuel,hf⟩:=h;obtain⟨A,c',ls,e,hr,hlc,hx⟩:=mB (α:=LotV) lotCells 7 (by decide) aN Tryz.underlying22 (by kernel_rfl) (fun n cs y hy=>AK Tryz.underlying62 (by kernel_rfl) (by kernel_rfl) rfl rfl rfl rfl rfl rfl rfl Tryz.underlying9 Tryz.underlying9 Tryz.underlying23 Tryz.underlying23 Tryz.underlying24 Tryz.underlying24 Tryz.underlying24 hy) hf;simp only[Value.cells,List.cons.injEq,and_true]at e;rw[e];exact⟨ls,A,c',rfl,hr,hlc,lW Tryz.underlying22 (by rw[show Tryz.prog.bytesOf 62=96 by kernel_rfl];decide) hw hx⟩
theorem own:ownKnob Tryz.prog.godebug=none:=by kernel_rfl
theorem laidOut:laidOutB Tryz.prog=true:=by kernel_rfl
theorem Fi : "*" ++ "errors.errorString" = "*errors.errorString":=by decide
theorem yf(u:TypeId)(h:Tryz.prog.typeName? 3 u=some "*errors.errorString"):u=338 :=
 typeName_ptr_named (nm := "errors.errorString") (by rw[Fi];kernel_rfl) (by kernel_rfl) (by decide) u (by rw[Fi];exact h)
theorem mb{w:World}{p:Addr}{u:Value}(h:w.cell? p=some u):p.block<w.heap.size:=by
 unfold World.cell? at h
 cases hb:w.heap[p.block]? with
 |none=>simp[hb]at h
 |some o=>exact(Array.getElem?_eq_some_iff.1 hb).1
theorem env_of{x y u:String × DataW Unit}{rest:List (String × DataW Unit)}(h:laidMet Tryz.prog (x :: y :: ("internal/strconv.uint64pow10",Rows.laid_internal_strconv_uint64pow10) :: u :: ("strconv.ErrRange",Rows.laid_strconv_ErrRange) :: ("strconv.ErrSyntax",Rows.laid_strconv_ErrSyntax) :: rest) W)(hsh:W.ShapedOpen Tryz.prog):Env W:=by
 have h1:Lib.TabIs Tryz.prog W "internal/strconv.uint64pow10" .u64 Lib.pow10Tab :=
  Lib.tabIs_of_head (g:=2) (by kernel_rfl) (by kernel_rfl) Tryz.underlying325 Tryz.underlying173 (by kernel_rfl) (by kernel_rfl) h.tail.tail
 have h2:∃m,W.cell? ⟨3,0,none⟩=some (.int .i64 m) :=
  cell_of_shapedOpen_int (zero:=#[.int .i64 0]) hsh (by decide +kernel) (by kernel_rfl) (by kernel_rfl) (by kernel_rfl) (by kernel_rfl) Tryz.underlying3
 have h3:=h1.cell (g:=2) (by kernel_rfl) 0 (by decide);have gR:Tryz.prog.globalNamed "strconv.ErrRange"=some 1:=by kernel_rfl
 have gS:Tryz.prog.globalNamed "strconv.ErrSyntax"=some 0:=by kernel_rfl
 obtain⟨a1,s1,v1,_,_,_⟩:=laid_sentinel h.tail.tail.tail.tail gR (by kernel_rfl) Tryz.underlying175 yf Tryz.underlying338 Tryz.underlying340 rfl rfl Tryz.underlying9 (by kernel_rfl) (by kernel_rfl);obtain⟨a2,s2,v2,_,_,_⟩:=laid_sentinel h.tail.tail.tail.tail.tail gS (by kernel_rfl) Tryz.underlying175 yf Tryz.underlying338 Tryz.underlying340 rfl rfl Tryz.underlying9 (by kernel_rfl) (by kernel_rfl);refine⟨h1,h2,⟨mb h3,?_⟩,⟨_,World.var?_cell gS v2 0,.inr ⟨_,_,rfl⟩⟩,⟨_,World.var?_cell gR v1 0,.inr ⟨_,_,rfl⟩⟩⟩;obtain⟨m,hm⟩:=h2;exact mb hm
end
end Go.Proofs.YtaegjkllenlfpaaGreatDoor
