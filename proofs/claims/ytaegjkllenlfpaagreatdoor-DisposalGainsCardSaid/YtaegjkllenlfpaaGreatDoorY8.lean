/- The seat's texts, part Y8. -/
import Derived.Test.YtaegjkllenlfpaaGreatDoorY7
import Derived.Lib.SplitLaws
import Derived.RangeFuncNested
import Derived.RangeFuncBound
import Derived.Shelf.RegionOpen
import Derived.OwnWalkIn
import Derived.LoopNIn
import Derived.LoopIn
import Derived.WideMake
set_option maxRecDepth 100000
set_option maxHeartbeats 8000000
namespace Go.Proofs.YtaegjkllenlfpaaGreatDoor
open Tryz
abbrev OL:=@World.putObj_heap_other
abbrev PK:=@World.putObj_heap_same
abbrev Qk:=@callsIn_of_wp_marks
abbrev QN:=@run_takeDeferred
abbrev QT:=@wpListIn_append_own
variable {w' W W':World}{A:Option Addr}{k gf r d i id:Nat}{args tmps0 lb cs:Array Value}{R:Ending->World->Prop}{rb:Loop}
section
open Go.RowKit Go.Shelf
attribute [local go_sem] size_bs toList_bs
theorem yI(l:Bs):(Lib.cut l [47]).1=(cut47 l).1∧(Lib.cut l [47]).2.1=(cut47 l).2:=by
 unfold Lib.cut;rw[Lib.index_one]
 have key:∀l:Bs,(Lib.indexByte l 47 = -1∧cut47 l=(l,[]))∨∃k:Nat,Lib.indexByte l 47=(k:Int)∧cut47 l=(l.take k,l.drop (k+1)):=by
  intro l;induction l with
  |nil=>left;exact⟨rfl,rfl⟩
  |cons x r ih =>
   by_cases h:x=47
   ·right;refine⟨0,by simp[Lib.indexByte,h],by simp[cut47,h]⟩
   ·rcases ih with ⟨h1,h2⟩ | ⟨k,h1,h2⟩
    ·left;exact⟨by simp[Lib.indexByte,h,h1],by simp[cut47,h,h2]⟩
    ·right
     have:¬ ((k:Nat):Int) = -1:=by omega
     exact⟨k+1,by simp[Lib.indexByte,h,h1,this],by simp[cut47,h,h2]⟩
 rcases key l with ⟨h1,h2⟩ | ⟨k,h1,h2⟩
 ·rw[h1,h2];exact⟨rfl,rfl⟩
 ·rw[h1,h2,Mq (by omega),NP];exact⟨rfl,rfl⟩
theorem m9(l:Bs):(cut47 l).1.length<=l.length∧(cut47 l).2.length<=l.length:=by
 induction l with
 |nil=>exact⟨Mn _,Mn _⟩
 |cons x r ih =>
  unfold cut47;split
  ·simp
  ·simp only[MG];omega
theorem px(l:Bs)(w:World)(hl:l.length<=1000000)(hE:Env w) :
  Calls prog 185 #[.string (bs l),.string { data:=#[47] }] w fun e w'=>(∃b,e = .returned (.tuple #[.string (bs (cut47 l).1),.string (bs (cut47 l).2),.bool b]))∧Ext w w':=by
 obtain⟨m,hm⟩:=hE.len;refine(strings_Cut (bs l) (bs [47]) m w (by rw[size_bs];omega) hm).mono ?_;rintro e w'⟨rfl,n,rfl⟩;refine⟨⟨(Lib.cut l [47]).2.2,?_⟩,(iD w).drewN n⟩;have h:=yI l;rw[data_bs,data_bs,←h.1,←h.2];rfl
theorem sB(w:World)(t:TypeId)(b:ByteArray):Ext w (Lib.bytesWorld w t b) :=
 ⟨rfl,rfl,rfl,by rw[QS];omega,fun k hk=>RF w t b k hk⟩
theorem rj(t:Bs)(v:Int)(h:Lib.atoiAll t = .ok v)(ht:t.length<=1000000)(w:World) :
  Calls prog 186 #[.string (bs t)] w fun e w'=>e = .returned (.tuple #[.int .i64 v,.nilIface])∧Ext w w':=by
 refine(strconv_Atoi_ok (bs t) (by rw[size_bs];omega) v (by rw[data_bs];exact h) w).mono ?_;rintro e w'⟨rfl,rfl | ⟨q,rfl⟩⟩
 ·exact⟨rfl,iD _⟩
 ·exact⟨rfl,sB _ _ _⟩
theorem rm(t:Bs)(h:∀v,Lib.atoiAll t ≠ .ok v)(ht:t.length<=1000000)(w:World)(hE:Env w) :
  Calls prog 186 #[.string (bs t)] w fun e w'=>(∃n p,e = .returned (.tuple #[.int .i64 n,.iface 286 p]))∧Ext w w':=by
 cases k:Lib.atoiAll t
 ·exact absurd k (h _)
 ·obtain⟨ev,hv,hev⟩:=hE.syn
  have hs:Calls prog 186 #[.string (bs t)] w fun e w'=>∃N,e = .returned (.tuple #[.int .i64 0,.iface 286 (.pointer (some ⟨N,0,none⟩))])∧w.heap.size<=N∧w'.heap[N]? = some (.cells #[.string ⟨#[65,116,111,105]⟩,.string (bs t),ev] 321 (0,0))∧Below w.heap.size w w' :=
   Go.Proofs.Any.strconv_Atoi_syntax laysC172 (bs t) (by rw[size_bs];omega) (by rw[data_bs];exact k) ev w hv hev
  refine hs.mono ?_;rintro e w'⟨N,rfl,_,_,hb⟩;exact⟨⟨_,_,rfl⟩,hb⟩
 ·obtain⟨ev,hv,hev⟩:=hE.rng;refine(strconv_Atoi_range (bs t) (by rw[size_bs];omega) (by rw[data_bs];exact k) ev w hv hev).mono ?_;rintro e w'⟨N,rfl,_,_,hb⟩;exact⟨⟨_,_,rfl⟩,hb⟩
theorem ET(l:Bs)(hl:l.length<=100000):bJ 123 #[.string (bs l)] (.bool (isId l)):=by
 intro w hE;have HE:=qh hE;have hcl:=m9 l;have HC:=qh (fun W h=>px l W (by omega) h);have HN:=qh (fun W=>gc (cut47 l).1 W (by omega));unfold isId;rcases NZ (∃v,Lib.atoiAll (cut47 l).2 = .ok v) with ⟨v,hk⟩|hk
 ·have HA:=qh (fun W=>rj (cut47 l).2 v hk (by omega) W);have HP:=qh (numOK_prog hk);rw[HP.out];generalize (cut47 l).1=nm at *;generalize (cut47 l).2=nu at *;generalize isName nm=ok at *;clear hk hcl hE HP;by_cases h1:1<=v
  ·by_cases h2:v<=9999
   ·have HI:=qh (fun W h=>itoa_any v W (by omega) (by omega) h);generalize Lib.itoa v=it at *;have g1:decide (1<=v)=true:=by simpa using h1
    have g2:decide (v<=9999)=true:=by simpa using h2
    by_cases h3:it=nu
    focus
     have g3:(it == nu)=true:=by simpa using h3
     have H3:Hid (ok=(ok && (decide (1<=v) && decide (v<=9999) && (it == nu)))):=qh (by rw[g1,g2,g3];simp);rw[←H3.out];clear h3;go_enter func123,ntmps123;go_wp2_with fail;refine(HC.out _ HE.out).mono ?_;rintro e w1⟨⟨b,rfl⟩,hx1⟩;have HX:=qh hx1;clear hx1;go_wp2_with fail;refine(HA.out _).mono ?_;rintro e w2⟨rfl,hx1⟩;replace HX:=HX.qt hx1;clear hx1;go_wp2_with fail;refine(HI.out _ (HE.out.ext HX.out)).mono ?_;rintro e w3⟨rfl,hx1⟩;replace HX:=HX.qt hx1;clear hx1;go_wp2_with fail;refine(HN.out _).mono ?_;rintro e w4⟨rfl,hx1⟩
    rotate_left
    focus
     have g3:(it == nu)=false:=by simpa using h3
     have H3:Hid (false=(ok && (decide (1<=v) && decide (v<=9999) && (it == nu)))):=qh (by rw[g1,g2,g3];simp);rw[←H3.out];clear h3;go_enter func123,ntmps123;go_wp2_with fail;refine(HC.out _ HE.out).mono ?_;rintro e w1⟨⟨b,rfl⟩,hx1⟩;have HX:=qh hx1;clear hx1;go_wp2_with fail;refine(HA.out _).mono ?_;rintro e w2⟨rfl,hx1⟩;replace HX:=HX.qt hx1;clear hx1;go_wp2_with fail;refine(HI.out _ (HE.out.ext HX.out)).mono ?_;rintro e w3⟨rfl,hx1⟩
    all_goals
     replace HX:=HX.qt hx1;clear hx1;go_wp2_with fail;go_ret;exact⟨rfl,HX.out⟩
   ·have g1:decide (1<=v)=true:=by simpa using h1
    have g2:decide (v<=9999)=false:=by simpa using h2
    generalize Lib.itoa v=it at *;have H3:Hid (false=(ok && (decide (1<=v) && decide (v<=9999) && (it == nu)))):=qh (by rw[g1,g2];simp);rw[←H3.out];go_enter func123,ntmps123;go_wp2_with fail;refine(HC.out _ HE.out).mono ?_;rintro e w1⟨⟨b,rfl⟩,hx1⟩;have HX:=qh hx1;clear hx1;go_wp2_with fail;refine(HA.out _).mono ?_;rintro e w2⟨rfl,hx1⟩;replace HX:=HX.qt hx1;clear hx1;go_wp2_with fail;go_ret;exact⟨rfl,HX.out⟩
  ·have g1:decide (1<=v)=false:=by simpa using h1
   generalize Lib.itoa v=it at *;have H3:Hid (false=(ok && (decide (1<=v) && decide (v<=9999) && (it == nu)))):=qh (by rw[g1];simp);rw[←H3.out];go_enter func123,ntmps123;go_wp2_with fail;refine(HC.out _ HE.out).mono ?_;rintro e w1⟨⟨b,rfl⟩,hx1⟩;have HX:=qh hx1;clear hx1;go_wp2_with fail;refine(HA.out _).mono ?_;rintro e w2⟨rfl,hx1⟩;replace HX:=HX.qt hx1;clear hx1;go_wp2_with fail;go_ret;exact⟨rfl,HX.out⟩
 ·have hk':∀v,Lib.atoiAll (cut47 l).2 ≠ .ok v:=fun v h=>hk ⟨v,h⟩
  have HA:=qh (fun W h=>rm (cut47 l).2 hk' (by omega) W h);rw[numOK_bad hk',SF];generalize (cut47 l).1=nm at *;generalize (cut47 l).2=nu at *;clear hk hk' hcl hE HN;go_enter func123,ntmps123;go_wp2_with fail;refine(HC.out _ HE.out).mono ?_;rintro e w1⟨⟨b,rfl⟩,hx1⟩;have HX:=qh hx1;clear hx1;go_wp2_with fail;refine(HA.out _ (HE.out.ext HX.out)).mono ?_;rintro e w2⟨⟨n,p,rfl⟩,hx1⟩;replace HX:=HX.qt hx1;clear hx1;go_wp2_with fail;go_ret;exact⟨rfl,HX.out⟩
theorem tJ(d:Int)(w:World):Calls prog 124 #[.int .i64 d] w fun e w'=>e = .returned (.bool (dayOK d))∧w=w':=by
 unfold dayOK;by_cases h : -25567<=d
 focus
  have g:decide (-25567<=d)=true:=by simpa using h
  rw[g,Oq]
 rotate_left
 focus
  have g:decide (-25567<=d)=false:=by simpa using h
  rw[g,OT]
 all_goals
  go_enter func124,ntmps124;go_wp2_with fail;go_ret;exact⟨rfl,rfl⟩
abbrev lv(x:LotV):Value := .agg #[.string (bs x.id),.string (bs x.ins),.int .i64 x.acq,.int .i64 x.opn,.string (bs x.q),.string (bs x.c),.string (bs x.u)]
abbrev lc(x:LotV):Array Value:=#[.string (bs x.id),.string (bs x.ins),.int .i64 x.acq,.int .i64 x.opn,.string (bs x.q),.string (bs x.c),.string (bs x.u)]
theorem ap{w:World}{g:Nat}{x:LotV}(h:Blk w g 62 (lc x))(hx:Ext w w'):w'.cell? ⟨g,0,none⟩=some (.string (bs x.id))∧w'.cell? ⟨g,1,none⟩=some (.string (bs x.ins))∧w'.cell? ⟨g,2,none⟩=some (.int .i64 x.acq)∧w'.cell? ⟨g,3,none⟩=some (.int .i64 x.opn)∧w'.cell? ⟨g,4,none⟩=some (.string (bs x.q))∧w'.cell? ⟨g,5,none⟩=some (.string (bs x.c))∧w'.cell? ⟨g,6,none⟩=some (.string (bs x.u)):=by
 have k:=h.ext hx;have h0:=k.cell 0;have h1:=k.cell 1;have h2:=k.cell 2;have h3:=k.cell 3;have h4:=k.cell 4;have h5:=k.cell 5;have h6:=k.cell 6;simp only[Mk,Mm,Ms]at h0 h1 h2 h3 h4 h5 h6;exact⟨h0,h1,h2,h3,h4,h5,h6⟩
structure CkL (x:LotV) (r:Int):Prop where
 k1:isId x.id=false->r=23
 k2:isId x.id=true->isName x.ins=false->r=23
 k3:isId x.id=true->isName x.ins=true->dayOK x.acq=false->r=13
 k4:isId x.id=true->isName x.ins=true->dayOK x.acq=true->dayOK x.opn=false->r=13
 k5:isId x.id=true->isName x.ins=true->dayOK x.acq=true->dayOK x.opn=true->x.opn<x.acq->r=8
 k6:isId x.id=true->isName x.ins=true->dayOK x.acq=true->dayOK x.opn=true->¬ x.opn<x.acq->(checkI x.q≠0∨checkI x.c≠0∨checkI x.u≠0)->r=1
 k7:isId x.id=true->isName x.ins=true->dayOK x.acq=true->dayOK x.opn=true->¬ x.opn<x.acq->¬ (checkI x.q≠0∨checkI x.c≠0∨checkI x.u≠0)->(valI x.q<=0∨valI x.c<0∨(x.u≠[]∧x.u≠x.q))->r=2
 k8:isId x.id=true->isName x.ins=true->dayOK x.acq=true->dayOK x.opn=true->¬ x.opn<x.acq->¬ (checkI x.q≠0∨checkI x.c≠0∨checkI x.u≠0)->¬ (valI x.q<=0∨valI x.c<0∨(x.u≠[]∧x.u≠x.q))->r=0
theorem L8(x:LotV):CkL x (checkL x):=by
 unfold checkL;constructor
 ·intro h;simp[h]
 ·intro h1 h2;simp[h1,h2]
 ·intro h1 h2 h3;simp[h1,h2,h3]
 ·intro h1 h2 h3 h4;simp[h1,h2,h3,h4]
 ·intro h1 h2 h3 h4 h5;simp[h1,h2,h3,h4,h5]
 ·intro h1 h2 h3 h4 h5 h6;rw[Mj (by simp[h1,h2]),Mj (by simp[h3,h4]),Mj h5,Mq h6]
 ·intro h1 h2 h3 h4 h5 h6 h7;rw[Mj (by simp[h1,h2]),Mj (by simp[h3,h4]),Mj h5,Mj h6,Mq h7]
 ·intro h1 h2 h3 h4 h5 h6 h7;rw[Mj (by simp[h1,h2]),Mj (by simp[h3,h4]),Mj h5,Mj h6,Mj h7]
theorem Eg{w:World}{g:Nat}{a b c:Value}(h:Blk w g 24 #[a,b,c])(hx:Ext w w'):w'.cell? ⟨g,0,none⟩=some a∧w'.cell? ⟨g,1,none⟩=some b∧w'.cell? ⟨g,2,none⟩=some c:=by
 have k:=h.ext hx;have h0:=k.cell 0;have h1:=k.cell 1;have h2:=k.cell 2;simp only[Mk,Mm,Ms]at h0 h1 h2;exact⟨h0,h1,h2⟩
theorem tK(x:LotV)(hs:SmallL x):bJ 52 #[lv x] (.int .i64 (checkL x)):=by
 intro w hE;obtain⟨s1,s2,s3,s4,s5⟩:=hs;have HE:=qh hE;have HK:=qh (L8 x);generalize checkL x=r at *;have H1:=qh (ET x.id (by omega));have H2:=qh (fun W=>gc x.ins W (by omega));have H3:=qh (dq x.q (by omega));have H4:=qh (dq x.c (by omega));have H5:=qh (dq x.u (by omega));have H6:=qh (gK x.q (by omega));have H7:=qh (gK x.c (by omega));clear hE s1 s2 s3 s4 s5;have HB:=qh (ID w 62 (lc x));have HX:Hid (Ext w (w.alloc (.cells (lc x) 62))):=qh (Id _ _);obtain⟨xi,xn,xa,xo,xq,xc,xu⟩:=x;simp only at *;go_enter func52,ntmps52;go_wp2_with fail;refine(H1.out _ (HE.out.ext HX.out)).mono ?_;rintro e w1⟨rfl,hx1⟩;obtain⟨p0,p1,p2,p3,p4,p5,p6⟩:=ap HB.out hx1;replace HB:=qh (HB.out.ext hx1);replace HX:=HX.qt hx1;clear hx1
 cases hb1:isId xi
 ·have HR:=qh (HK.out.k1 hb1);clear hb1 HK;go_wp2_with fail;go_ret;exact⟨by rw[HR.out];rfl,HX.out⟩
 ·have B1:=qh hb1;clear hb1;go_wp2_with fail;refine(H2.out _).mono ?_;rintro e w2⟨rfl,hx1⟩;obtain⟨p0,p1,p2,p3,p4,p5,p6⟩:=ap HB.out hx1;replace HB:=qh (HB.out.ext hx1);replace HX:=HX.qt hx1;clear hx1
  cases hb2:isName xn
  ·have HR:=qh (HK.out.k2 B1.out hb2);clear hb2 HK;go_wp2_with fail;go_ret;exact⟨by rw[HR.out];rfl,HX.out⟩
  ·have B2:=qh hb2;clear hb2;go_wp2_with fail;refine(tJ xa _).mono ?_;rintro e w3⟨rfl,rfl⟩
   cases hb3:dayOK xa
   ·have HR:=qh (HK.out.k3 B1.out B2.out hb3);clear hb3 HK;go_wp2_with fail;go_ret;exact⟨by rw[HR.out];rfl,HX.out⟩
   ·have B3:=qh hb3;clear hb3;go_wp2_with fail;refine(tJ xo _).mono ?_;rintro e w4⟨rfl,rfl⟩
    cases hb4:dayOK xo
    ·have HR:=qh (HK.out.k4 B1.out B2.out B3.out hb4);clear hb4 HK;go_wp2_with fail;go_ret;exact⟨by rw[HR.out];rfl,HX.out⟩
    ·have B4:=qh hb4;clear hb4;by_cases hb5:xo<xa
     ·have HR:=qh (HK.out.k5 B1.out B2.out B3.out B4.out hb5);have g5:decide (xo<xa)=true:=by simpa using hb5
      clear HK;go_wp2_with fail;go_ret;exact⟨by rw[HR.out];rfl,HX.out⟩
     ·have B5:=qh hb5;have g5:decide (xo<xa)=false:=by simpa using hb5
      have HS:=qh (ID w2 24 #[.string (bs xq),.string (bs xc),.string (bs xu)]);go_wp2_with fail;have HXW:Hid (Ext w2 (w2.alloc (.cells #[.string (bs xq),.string (bs xc),.string (bs xu)] 24))):=qh (Id _ _);replace HB:=qh (HB.out.ext HXW.out);replace HX:=qh (HX.out.trans HXW.out);clear HXW;generalize hgs:w2.heap.size=gs at *;generalize w2.alloc (.cells #[.string (bs xq),.string (bs xc),.string (bs xu)] 24)=W2 at *;clear hgs;obtain⟨s0,s1,s2⟩:=Eg HS.out (iD W2);refine N4 4 ?_;rw[NN];go_wp2_with fail;refine(H3.out _ (HE.out.ext HX.out)).mono ?_;rintro e w5⟨rfl,hx1⟩;obtain⟨p0,p1,p2,p3,p4,p5,p6⟩:=ap HB.out hx1;replace HB:=qh (HB.out.ext hx1);obtain⟨s0,s1,s2⟩:=Eg HS.out hx1;replace HS:=qh (HS.out.ext hx1);replace HX:=HX.qt hx1;clear hx1;by_cases hq:checkI xq=0
      ·rw[hq];have Q1:=qh hq;clear hq;go_wp2_with fail;rw[NN];go_wp2_with fail;refine(H4.out _ (HE.out.ext HX.out)).mono ?_;rintro e w6⟨rfl,hx1⟩;obtain⟨p0,p1,p2,p3,p4,p5,p6⟩:=ap HB.out hx1;replace HB:=qh (HB.out.ext hx1);obtain⟨s0,s1,s2⟩:=Eg HS.out hx1;replace HS:=qh (HS.out.ext hx1);replace HX:=HX.qt hx1;clear hx1;by_cases hc:checkI xc=0
       ·rw[hc];have Q2:=qh hc;clear hc;go_wp2_with fail;rw[NN];go_wp2_with fail;refine(H5.out _ (HE.out.ext HX.out)).mono ?_;rintro e w7⟨rfl,hx1⟩;obtain⟨p0,p1,p2,p3,p4,p5,p6⟩:=ap HB.out hx1;replace HB:=qh (HB.out.ext hx1);obtain⟨s0,s1,s2⟩:=Eg HS.out hx1;replace HS:=qh (HS.out.ext hx1);replace HX:=HX.qt hx1;clear hx1;by_cases hu:checkI xu=0
        ·rw[hu];have Q3:=qh hu;clear hu;go_wp2_with fail;rw[NN]
         have HQ:Hid (¬ (checkI xq≠0∨checkI xc≠0∨checkI xu≠0)):=qh (by
          rintro(h|h|h)
          ·exact h Q1.out
          ·exact h Q2.out
          ·exact h Q3.out)
         have HK7:=qh (HK.out.k7 B1.out B2.out B3.out B4.out (Pk.2 B5.out) HQ.out);have HK8:=qh (HK.out.k8 B1.out B2.out B3.out B4.out (Pk.2 B5.out) HQ.out);clear HK hb5 g5 HQ;go_wp2_with fail;refine(H6.out _ (HE.out.ext HX.out)).mono ?_;rintro e w8⟨rfl,hx1⟩;obtain⟨p0,p1,p2,p3,p4,p5,p6⟩:=ap HB.out hx1;replace HB:=qh (HB.out.ext hx1);replace HX:=HX.qt hx1;clear hx1;by_cases hv:valI xq<=0
         ·have g7:decide (cmpI (valI xq) 0<=0)=true:=by
           rw[MA];have:=bA (x:=valI xq) (y:=0);omega
          have HR:=qh (HK7.out (.inl hv));generalize cmpI (valI xq) 0=cc at *;clear hv HK7 HK8;go_wp2_with fail;go_ret;exact⟨by rw[HR.out];rfl,HX.out⟩
         ·have g7:decide (cmpI (valI xq) 0<=0)=false:=by
           rw[Mi];have:=bA (x:=valI xq) (y:=0);omega
          generalize cmpI (valI xq) 0=cc at *;have V1:=qh hv;clear hv;go_wp2_with fail;refine(H7.out _ (HE.out.ext HX.out)).mono ?_;rintro e w9⟨rfl,hx1⟩;obtain⟨p0,p1,p2,p3,p4,p5,p6⟩:=ap HB.out hx1;replace HB:=qh (HB.out.ext hx1);replace HX:=HX.qt hx1;clear hx1;by_cases hv2:valI xc<0
          ·have g8:decide (cmpI (valI xc) 0<0)=true:=by rw[MA,cX];exact hv2
           have HR:=qh (HK7.out (.inr (.inl hv2)));generalize cmpI (valI xc) 0=cd at *;clear hv2 HK7 HK8;go_wp2_with fail;go_ret;exact⟨by rw[HR.out];rfl,HX.out⟩
          ·have g8:decide (cmpI (valI xc) 0<0)=false:=by rw[Mi,cX];exact hv2
           generalize cmpI (valI xc) 0=cd at *;have V2:=qh hv2;clear hv2;by_cases hu0:xu=[]
           ·have g9:(!xu.isEmpty)=false:=by rw[hu0];rfl
            have HR:=qh (HK8.out (by
             rintro(h|h|h)
             ·have:=V1.out;omega
             ·have:=V2.out;omega
             ·exact h.1 hu0))
            clear hu0 HK7 HK8;go_wp2_with fail;go_ret;exact⟨by rw[HR.out];rfl,HX.out⟩
           ·have g9:(!xu.isEmpty)=true:=by simpa using hu0
            by_cases hu1:xu=xq
            ·have g10:(xu != xq)=false:=by rw[OV];exact hu1
             have g11:(xu == xq)=true:=by rw[Np];exact hu1
             have HR:=qh (HK8.out (by
              rintro(h|h|h)
              ·have:=V1.out;omega
              ·have:=V2.out;omega
              ·exact h.2 hu1))
             clear hu0 hu1 HK7 HK8;go_wp2_with fail;go_ret;exact⟨by rw[HR.out];rfl,HX.out⟩
            ·have g10:(xu != xq)=true:=by rw[Nc];exact hu1
             have g11:(xu == xq)=false:=by rw[Mt];exact hu1
             have HR:=qh (HK7.out (.inr (.inr ⟨hu0,hu1⟩)));clear hu0 hu1 HK7 HK8;go_wp2_with fail;go_ret;exact⟨by rw[HR.out];rfl,HX.out⟩
        ·have HR:=qh (HK.out.k6 B1.out B2.out B3.out B4.out (Pk.2 B5.out) (.inr (.inr hu)));have g6:(checkI xu != 0)=true:=by rw[Nc];exact hu
         clear HK hu hb5;go_wp2_with fail;go_ret;exact⟨by rw[HR.out];rfl,HX.out⟩
       ·have HR:=qh (HK.out.k6 B1.out B2.out B3.out B4.out (Pk.2 B5.out) (.inr (.inl hc)));have g6:(checkI xc != 0)=true:=by rw[Nc];exact hc
        clear HK hc hb5;go_wp2_with fail;go_ret;exact⟨by rw[HR.out];rfl,HX.out⟩
      ·have HR:=qh (HK.out.k6 B1.out B2.out B3.out B4.out (Pk.2 B5.out) (.inl hq));have g6:(checkI xq != 0)=true:=by rw[Nc];exact hq
       clear HK hq hb5;go_wp2_with fail;go_ret;exact⟨by rw[HR.out];rfl,HX.out⟩
end
section
open Go.RowKit
def scells(ls:List Bs):List Value:=ls.map fun l => .string (bs l)
theorem ik{α:Type}(f:α->List Value)(n:Nat)(hf:∀a,(f a).length=n):∀(l:List α) (k j:Nat) (h:k<l.length),j<n->(l.flatMap f)[k*n+j]? = (f (l[k]'h))[j]? := by
 intro l;induction l with
 |nil=>intro k j h;simp at h
 |cons a r ih =>
  intro k j h hj;rw[OD]
  cases k with
  |zero=>rw[O6,MV,OY (by rw[hf];exact hj)];rfl
  |succ k =>
   rw[NK (by rw[hf,Ss];omega),hf,show(k+1)*n+j-n=k*n+j by rw[Ss];omega];exact ih k j (by simpa using h) hj
theorem py{α:Type}(f:α->List Value)(n:Nat)(hf:∀a,(f a).length=n):∀(l:List α),(l.flatMap f).length=l.length*n:=by
 intro l;induction l with
 |nil=>simp
 |cons a r ih=>rw[OD,Mp,hf,ih,MG,Ss];omega
def RdS(w:World)(A:Option Addr)(ls:List Bs):Prop:=Reads w 1 A ls.length (scells ls)
theorem RdS.ext{w:World}{ls:List Bs}(h:RdS w A ls)(he:Ext w w'):RdS w' A ls:=Reads.ext h he
theorem RdS.at_{w:World}{ls:List Bs}(h:RdS w A ls)(hk:k<ls.length) :
  ∃b o,A=some ⟨b,o,none⟩∧b<w.heap.size∧w.cell? ⟨b,o+k,none⟩=some (.string (bs (ls[k]'hk))):=by
 obtain⟨b,o,rfl,hb⟩:=Reads.at_ h (by omega);exact⟨b,o,rfl,hb,Reads.cell h (by simp[scells,hk])⟩
end
section
open Go Go.RowKit Go.Shelf
section
variable {F:Fence} {n m:Nat} {P:Program}
def nf(l:Nat)(rec:Loop)(R:Ending->World->Prop):Exit->Act->World->Prop
 |.normal,_,W=>W.heap[l]? = some (.loop { rec with state := .busy })∧R (.returned (.bool true)) (W.putObj l (.loop { rec with state := .ready,pending:=none }))
 |.ret,_,W=>W.heap[l]? = some (.loop { rec with state := .busy })∧R (.returned (.bool false)) (W.putObj l (.loop { rec with state := .done,pending:=some .ret }))
 |.exit _,_,_=>False
 |.goto _,_,_=>False
 |.panic _,_,_=>False
 |.outgrown,_,_=>False
theorem vJ{l:Nat}{rec:Loop}(hl:W.heap[l]? = some (.loop rec))(hs:rec.state = .ready)(hps:args.size=rec.params.size)(hfn:F.fn rec.fn)
  (h:rec.assign.wpIn (F.inRound l) m P (Exit.then (fun a1 Wa=>Wa.heap[l]? = some (.loop rec)∧rec.body.wpIn (F.inRound l) m P (nf l rec R) a1 (Wa.putObj l (.loop { rec with state := .busy }))) (fun _ _ _=>False))
   { tmps:=(rec.params.zip args).foldl (fun tmps (t,a)=>tmps.setIfInBounds t a) rec.tmps,defers:=[] } W) :
  YieldAt F m P l args W R:=by
 refine⟨_,_,_,_,run_yield hl hps,roundIn_of_wpIn hfn (wpIn_mono h ?_)⟩;intro e a1 Wa hp
 cases e with
 |normal =>
  obtain⟨hla,hb⟩:=hp;refine⟨_,run_beginRound hla hs,wpIn_mono hb ?_⟩;intro e a2 W2 hq
  cases e with
  |normal =>
   obtain⟨h2,hR⟩:=hq;exact⟨_,_,run_endRound none h2,hR⟩
  |ret =>
   obtain⟨h2,hR⟩:=hq;exact⟨_,_,run_endRound (some .ret) h2,hR⟩
  |exit id=>exact hq.elim
  |goto t=>exact hq.elim
  |panic c=>exact hq.elim
  |outgrown=>exact hq.elim
 |ret=>exact hp.elim
 |exit id=>exact hp.elim
 |goto t=>exact hp.elim
 |panic c=>exact hp.elim
 |outgrown=>exact hp.elim
theorem iM{l:Nat}{rec:Loop}(hl:W.heap[l]? = some (.loop rec))(hs:rec.state = .ready)(hps:args.size=rec.params.size)(hfn:F.fn rec.fn)
  {assign body:Code} {tmps:Array Value} {ps:Array Tmp} (ha:rec.assign=assign) (hb:rec.body=body) (hp:rec.params=ps) (ht0:rec.tmps=tmps0) (ht:(ps.zip args).foldl (fun tmps (t,a)=>tmps.setIfInBounds t a) tmps0=tmps)  (hrb:{ rec with state := .busy }=rb)
  (h:assign.wpIn (F.inRound l) m P (Exit.then (fun a1 Wa=>Wa.heap[l]? = some (.loop rec)∧body.wpIn (F.inRound l) m P (nf l rec R) a1 (Wa.putObj l (.loop rb))) (fun _ _ _=>False)) { tmps,defers:=[] } W) :
  YieldAt F m P l args W R:=by
 subst ha;subst hb;subst hp;subst ht0;subst ht;subst hrb;exact vJ hl hs hps hfn h
def gL(fn:FuncId)(a:Act)(ps:Array Tmp)(assign body:Code)(D:Nat):Loop:={ state := .ready,pending:=none,fn,tmps:=a.tmps,params:=ps,assign,body,defers:=D }
theorem vK{g:Operand}{ps:Array Tmp}{assign body:Code}{Q:Exit->Act->World->Prop}{a:Act}{w:World}(hro:F.round=none)(h1:1<=n)
  (hg:a.eval g = .func (.func gf) #[] lb) (hFg:F.fn gf) (eg:∀args w,(callFunc gf args).run P w = .ok (.enter gf args) w)
  (h:∀fn,F.fn fn->CallsIn F (n-1) P gf (#[.func (.yield (w.heap.size+1)) #[] #[]]++lb) ((w.alloc (.deferred (some []))).alloc (.loop (gL fn a ps assign body w.heap.size)))
   (fun e W=>(∃v,e = .returned v) ∧
    ((W.heap[w.heap.size+1]? = some (.loop (gL fn a ps assign body w.heap.size))∧Q .normal { a with defers:={ target := .collected w.heap.size,args:=#[] } :: a.defers } (W.putObj (w.heap.size+1) (.loop { gL fn a ps assign body w.heap.size with state := .exhausted }))) ∨
     (W.heap[w.heap.size+1]? = some (.loop { gL fn a ps assign body w.heap.size with state := .done,pending:=some .ret })∧Code.ret.wpIn F n P Q { a with defers:={ target := .collected w.heap.size,args:=#[] } :: a.defers } (W.putObj (w.heap.size+1) (.loop { gL fn a ps assign body w.heap.size with state := .exhausted,pending:=some .ret })))))) :
  (Code.rangeFunc g ps assign body).wpIn F n P Q a w:=by
 refine wpIn_rangeFunc ?_;intro fn hfn;rw[hro];obtain⟨W1,hW1⟩:∃W1,(w.alloc (.deferred (some []))).alloc (.loop (gL fn a ps assign body w.heap.size))=W1:=⟨_,rfl⟩
 refine⟨w.heap.size+1,[{ target := .collected w.heap.size,args:=#[] }],W1,{ target := .fn (.func gf) lb,args:=#[.func (.yield (w.heap.size+1)) #[] #[]] },W1,gf,
  #[.func (.yield (w.heap.size+1)) #[] #[]]++lb,W1,?_,?_,?_,?_,fun _=>h1,?_⟩
 ·rw[←hW1];exact run_enterLoop_outer _ _ _ _ _
 ·simp only[resolve,hg];simp[go_sem]
 ·intro f' hf';simp[Target.leads]at hf';subst hf';exact hFg
 ·simp[invoke,go_sem,eg]
 ·rw[←hW1];refine(h fn hfn).mono ?_;rintro e W⟨⟨v,rfl⟩,(⟨hl,hq⟩ | ⟨hl,hq⟩)⟩
  ·exact⟨none,_,run_endLoop hl (by simp[gL]),hq⟩
  ·exact⟨some .ret,_,run_endLoop hl (by simp),hq⟩
theorem fI{g:Operand}{ps:Array Tmp}{assign body:Code}{Q:Exit->Act->World->Prop}{a:Act}{w:World}(hro:F.round=none)(h1:1<=n)(D:Nat)(hD:w.heap.size=D)
  (hg:a.eval g = .func (.func gf) #[] lb) (hFg:F.fn gf) (eg:∀args w,(callFunc gf args).run P w = .ok (.enter gf args) w)
  (h:∀fn rec W1,rec=gL fn a ps assign body D->W1=(w.alloc (.deferred (some []))).alloc (.loop rec)->F.fn fn->CallsIn F (n-1) P gf (#[.func (.yield (D+1)) #[] #[]]++lb) W1
   (fun e W=>(∃v,e = .returned v) ∧
    ((W.heap[D+1]? = some (.loop rec)∧Q .normal { a with defers:={ target := .collected D,args:=#[] } :: a.defers } (W.putObj (D+1) (.loop { rec with state := .exhausted }))) ∨
     (W.heap[D+1]? = some (.loop { rec with state := .done,pending:=some .ret })∧Code.ret.wpIn F n P Q { a with defers:={ target := .collected D,args:=#[] } :: a.defers } (W.putObj (D+1) (.loop { rec with state := .exhausted,pending:=some .ret })))))) :
  (Code.rangeFunc g ps assign body).wpIn F n P Q a w:=by
 subst hD;exact vK hro h1 hg hFg eg (fun fn hfn=>h fn _ _ rfl rfl hfn)
end
end
section
open Go.RowKit
theorem Ext.putObj{a b:World}(h:Ext a b)(hr:a.heap.size<=r)(o:Obj):Ext a (b.putObj r o) :=
 ⟨h.os,h.tape,h.output,by have:=h.size;simpa using this,fun i hi=>(OL (by omega)).trans (h.block i hi)⟩
theorem Blk.put{w:World}{g:Nat}{t:TypeId}{l:Nat}(h:Blk w g t cs)(o:Obj)(hne:g≠l):Blk (w.putObj l o) g t cs:=(OL (by omega)).trans h
theorem Mf(w:World)(t:TypeId)(cs:Array Value)(g:Nat)(hg:w.heap.size=g):Blk (w.alloc (.cells cs t)) g t cs:=by subst hg;exact ID w t cs
theorem newAt(w:World)(o:Obj)(g:Nat)(hg:w.heap.size=g):(w.alloc o).heap[g]? = some o:=by subst hg;exact M4 w o
theorem qc{w:World}{o o':Obj}{g:Nat}(h:w.heap[g]? = some o):(w.alloc o').heap[g]? = some o:=(Below.heap_alloc w o' g (MD.1 h).1).trans h
theorem eM{g:Nat}{o:Obj}{u:Value}(h:W.heap[d]? = some o)(hne:d≠g):(W.setCell ⟨g,i,none⟩ u).heap[d]? = some o:=(Px W ⟨g,i,none⟩ u d hne).trans h
theorem yJ{o:Obj}(h:W.heap[d]? = some o):W.drew.heap[d]? = some o:=h
theorem eB{o:Obj}(h:W.heap[d]? = some o)(hx:Ext W W'):W'.heap[d]? = some o:=(hx.block d (MD.1 h).1).trans h
theorem mz{l:Nat}{o o':Obj}(h:W.heap[d]? = some o)(hne:d≠l):(W.putObj l o').heap[d]? = some o:=(OL (by omega)).trans h
theorem GF(p:Tmp)(x:Value)(T:Array Value):((#[p]:Array Tmp).zip #[x]).foldl (fun tmps (t,a)=>tmps.setIfInBounds t a) T=T.setIfInBounds p x:=by simp[Array.zip]
theorem GG(p q:Tmp)(x y:Value)(T:Array Value):((#[p,q]:Array Tmp).zip #[x,y]).foldl (fun tmps (t,a)=>tmps.setIfInBounds t a) T=(T.setIfInBounds p x).setIfInBounds q y:=by simp[Array.zip]
theorem Reads.put{w:World}{size n:Nat}{xs:List Value}(h:Reads w size A n xs){l:Nat}{o:Obj}(hl:w.heap[l]? = some o)(ho:∀cs t z,o ≠ .cells cs t z)(h0:0<xs.length)(o':Obj):Reads (w.putObj l o') size A n xs:=by
 refine⟨h.1,fun hn=>?_⟩;obtain⟨b,off,rfl,hb,hc⟩:=h.2 hn
 have hne:b≠l:=by
  rintro rfl;have h1:=hc 0 (xs[0]'h0) (Mr h0);unfold World.cell? at h1;simp only[hl]at h1
  cases o <;> simp_all
 refine⟨b,off,rfl,by simpa using hb,fun j u hu=>?_⟩;rw[←hc j u hu];unfold World.cell?;rw[OL (by simpa using hne)]
end
section
open Go.RowKit Go.Shelf
attribute [local go_sem] size_bs toList_bs
theorem aM(x:LotV):(lotCells x).length=7:=rfl
def aK(w:World)(A:Option Addr)(ls:List LotV):Prop:=Reads w 7 A ls.length (ls.flatMap lotCells)
theorem aK.ext{w:World}{ls:List LotV}(h:aK w A ls)(he:Ext w w'):aK w' A ls:=Reads.ext h he
theorem aK.at_{w:World}{ls:List LotV}(h:aK w A ls)(hk:k<ls.length) :
  ∃b o,A=some ⟨b,o,none⟩∧b<w.heap.size∧w.cell? ⟨b,o+k*7,none⟩=some (.string (bs (ls[k]'hk).id))∧w.cell? ⟨b,o+k*7+1,none⟩=some (.string (bs (ls[k]'hk).ins))∧w.cell? ⟨b,o+k*7+2,none⟩=some (.int .i64 (ls[k]'hk).acq)∧w.cell? ⟨b,o+k*7+3,none⟩=some (.int .i64 (ls[k]'hk).opn) ∧
    w.cell? ⟨b,o+k*7+4,none⟩=some (.string (bs (ls[k]'hk).q))∧w.cell? ⟨b,o+k*7+5,none⟩=some (.string (bs (ls[k]'hk).c))∧w.cell? ⟨b,o+k*7+6,none⟩=some (.string (bs (ls[k]'hk).u)):=by
 obtain⟨b,o,rfl,hb⟩:=Reads.at_ h (by omega)
 have key:∀j (_:j<7),w.cell? ⟨b,o+k*7+j,none⟩=(lotCells (ls[k]'hk))[j]? := fun j hj=>by
  have h1:=ik lotCells 7 aM ls k j hk hj;have hl:j<(lotCells (ls[k]'hk)).length:=by rw[aM];exact hj
  rw[Mr hl]at h1 ⊢;have h2:=Reads.cell h h1;rw[←Pg]at h2;exact h2
 exact⟨b,o,rfl,hb,key 0 (by decide),key 1 (by decide),key 2 (by decide),key 3 (by decide),key 4 (by decide),key 5 (by decide),key 6 (by decide)⟩
section
variable {P:Program} {w:World}
theorem EU(mty kt et:TypeId)(r clock:Nat)(es:Array MapEntry)(s:ByteArray)(val:Value)(hm:P.underlying mty=some (.map kt et))(hk:P.underlying kt=some .string)(hb:w.heap[r]? = some (.map es clock))
  (hf:Instr.findNow .string (.string s) es.toList 0=some none) :
  (Instr.mapUpdate mty (.map (some r)) (.string s) val).run P w = .ok () (w.putObj r (.map (es.push { key := .string s,val:=val,born:=clock }) (clock+1))):=by
 have hc:(Instr.checkKey false 10000 kt (.string s)).run P w = .ok () w:=RP (k := .string s) hk (by simp[MapKept.IsKey]) false 9999;simp[Instr.mapUpdate,Ri hm,Rr hb,hc,RT hk hf,MapKept.run_setObj_map _ hb,Result.andThen,World.putObj]
theorem Bv(mty kt et:TypeId)(r clock:Nat)(es:Array MapEntry)(s:ByteArray)(i:Nat)(val:Value)(hm:P.underlying mty=some (.map kt et))(hk:P.underlying kt=some .string)(hb:w.heap[r]? = some (.map es clock))
  (hf:Instr.findNow .string (.string s) es.toList 0=some (some (i,val))) :
  (Instr.lookup mty (.map (some r)) (.string s) false).run P w = .ok val w:=by
 have hc:(Instr.checkKey es.isEmpty 10000 kt (.string s)).run P w = .ok () w:=RP (k := .string s) hk (by simp[MapKept.IsKey]) es.isEmpty 9999;simp[Instr.lookup,Ri hm,Rr hb,hc,RT hk hf,Result.andThen]
theorem vL(mty kt et:TypeId)(r clock:Nat)(es:Array MapEntry)(s:ByteArray)(z:Value)(hm:P.underlying mty=some (.map kt et))(hk:P.underlying kt=some .string)(hb:w.heap[r]? = some (.map es clock))
  (hf:Instr.findNow .string (.string s) es.toList 0=some none) (hz:(zeroValue et).run P w = .ok z w) :
  (Instr.lookup mty (.map (some r)) (.string s) false).run P w = .ok z w:=by
 have hc:(Instr.checkKey es.isEmpty 10000 kt (.string s)).run P w = .ok () w:=RP (k := .string s) hk (by simp[MapKept.IsKey]) es.isEmpty 9999;simp[Instr.lookup,Ri hm,Rr hb,hc,RT hk hf,hz,Result.andThen]
end
def gg:List Bs->Nat->List MapEntry
 |[],_=>[]
 |s :: r,i=>{ key := .string (bs s),val := .bool true,born:=i } :: gg r (i+1)
theorem xE(l:List Bs)(s:Bs)(i:Nat):gg (l++[s]) i=gg l i++[{ key := .string (bs s),val := .bool true,born:=i+l.length }]:=by
 induction l generalizing i with
 |nil=>rfl
 |cons a r ih=>simp only[MZ,gg,ih,MG];rw[show i+1+r.length=i+(r.length+1) by omega]
theorem tL(a b:Bs):((bs a:ByteArray) == bs b)=decide (a=b):=by
 rw[QV,MapKept.bytes_beq,MA];constructor
 ·intro h;have:=M6 (fun b=>b.data.toList) h;simpa[bs] using this
 ·intro h;rw[h]
theorem wD(s:Bs):∀(l:List Bs) (i n:Nat),s ∈ l->∃k,Instr.findNow .string (.string (bs s)) (gg l i) n=some (some (k,.bool true))
 |[],_,_,h=>by simp at h
 |a :: r,i,n,h=>by
  by_cases e:s=a
  ·exact⟨n,by simp[gg,Instr.findNow,Instr.sameNow,tL,e]⟩
  ·obtain⟨k,hk⟩:=wD s r (i+1) (n+1) (by simpa[e] using h);exact⟨k,by simp[gg,Instr.findNow,Instr.sameNow,tL,e,hk]⟩
theorem tM(s:Bs):∀(l:List Bs) (i n:Nat),s ∉ l->Instr.findNow .string (.string (bs s)) (gg l i) n=some none
 |[],_,_,_=>rfl
 |a :: r,i,n,h=>by
  have e:s≠a:=by rintro rfl;simp at h
  have:=tM s r (i+1) (n+1) (by simp at h;exact h.2);simp[gg,Instr.findNow,Instr.sameNow,tL,e,this]
def Eh(W:World)(r:Nat)(ids:List Bs):Prop:=W.heap[r]? = some (.map (gg ids 0).toArray ids.length)
structure GainV where
 cause:Bs
 lot:Bs
 ins:Bs
 acq:Int
 clo:Int
 q:Bs
 p:Bs
 c:Bs
 d:Bs
 r:Bs
def bj(g:GainV):List Value:=[.string (bs g.cause),.string (bs g.lot),.string (bs g.ins),.int .i64 g.acq,.int .i64 g.clo,.string (bs g.q),.string (bs g.p),.string (bs g.c),.string (bs g.d),.string (bs g.r)]
abbrev dr(g:GainV):Array Value:=#[.string (bs g.cause),.string (bs g.lot),.string (bs g.ins),.int .i64 g.acq,.int .i64 g.clo,.string (bs g.q),.string (bs g.p),.string (bs g.c),.string (bs g.d),.string (bs g.r)]
abbrev kB(g:GainV):Value := .agg (dr g)
theorem lD(x:GainV):(bj x).length=10:=rfl
theorem nh(g:GainV):∀u ∈ bj g,u.oneCell'=true:=by
 intro u hu;simp only[bj,MS,N7,Qg]at hu;rcases hu with h|h|h|h|h|h|h|h|h|h <;> (subst h;rfl)
structure StepV where
 cause:Bs
 frm:Bs
 to_:Bs
 q:Bs
 made:Bs
 c:Bs
def cT(g:StepV):List Value:=[.string (bs g.cause),.string (bs g.frm),.string (bs g.to_),.string (bs g.q),.string (bs g.made),.string (bs g.c)]
theorem GH(g:StepV):∀u ∈ cT g,u.oneCell'=true:=by
 intro u hu;simp only[cT,MS,N7,Qg]at hu;rcases hu with h|h|h|h|h|h <;> (subst h;rfl)
def dM(w:World)(A:Option Addr)(gs:List GainV):Prop:=Reads w 10 A gs.length (gs.flatMap bj)
theorem dM.ext{w:World}{gs:List GainV}(h:dM w A gs)(he:Ext w w'):dM w' A gs:=Reads.ext h he
theorem dM.at_{w:World}{gs:List GainV}(h:dM w A gs)(hk:k<gs.length) :
  ∃b o,A=some ⟨b,o,none⟩∧b<w.heap.size∧w.cell? ⟨b,o+k*10,none⟩=some (.string (bs (gs[k]'hk).cause))∧w.cell? ⟨b,o+k*10+1,none⟩=some (.string (bs (gs[k]'hk).lot))∧w.cell? ⟨b,o+k*10+2,none⟩=some (.string (bs (gs[k]'hk).ins))∧w.cell? ⟨b,o+k*10+3,none⟩=some (.int .i64 (gs[k]'hk).acq) ∧
    w.cell? ⟨b,o+k*10+4,none⟩=some (.int .i64 (gs[k]'hk).clo)∧w.cell? ⟨b,o+k*10+5,none⟩=some (.string (bs (gs[k]'hk).q))∧w.cell? ⟨b,o+k*10+6,none⟩=some (.string (bs (gs[k]'hk).p))∧w.cell? ⟨b,o+k*10+7,none⟩=some (.string (bs (gs[k]'hk).c))∧w.cell? ⟨b,o+k*10+8,none⟩=some (.string (bs (gs[k]'hk).d)) ∧
    w.cell? ⟨b,o+k*10+9,none⟩=some (.string (bs (gs[k]'hk).r)):=by
 obtain⟨b,o,rfl,hb⟩:=Reads.at_ h (by omega)
 have key:∀j (_:j<10),w.cell? ⟨b,o+k*10+j,none⟩=(bj (gs[k]'hk))[j]? := fun j hj=>by
  have h1:=ik bj 10 lD gs k j hk hj;have hl:j<(bj (gs[k]'hk)).length:=by rw[lD];exact hj
  rw[Mr hl]at h1 ⊢;have h2:=Reads.cell h h1;rw[←Pg]at h2;exact h2
 exact⟨b,o,rfl,hb,key 0 (by decide),key 1 (by decide),key 2 (by decide),key 3 (by decide),key 4 (by decide),key 5 (by decide),key 6 (by decide),key 7 (by decide),key 8 (by decide),key 9 (by decide)⟩
def oS(w:World)(A:Option Addr)(gs:List StepV):Prop:=Reads w 6 A gs.length (gs.flatMap cT)
theorem ax{w:World}{g:Nat}{x:GainV}(h:Blk w g 60 (dr x))(hx:Ext w w') :
  w'.cell? ⟨g,0,none⟩=some (.string (bs x.cause))∧w'.cell? ⟨g,1,none⟩=some (.string (bs x.lot))∧w'.cell? ⟨g,2,none⟩=some (.string (bs x.ins))∧w'.cell? ⟨g,3,none⟩=some (.int .i64 x.acq)∧w'.cell? ⟨g,4,none⟩=some (.int .i64 x.clo)∧w'.cell? ⟨g,5,none⟩=some (.string (bs x.q)) ∧
  w'.cell? ⟨g,6,none⟩=some (.string (bs x.p))∧w'.cell? ⟨g,7,none⟩=some (.string (bs x.c))∧w'.cell? ⟨g,8,none⟩=some (.string (bs x.d))∧w'.cell? ⟨g,9,none⟩=some (.string (bs x.r)):=by
 have k:=h.ext hx;exact⟨k.cell 0,k.cell 1,k.cell 2,k.cell 3,k.cell 4,k.cell 5,k.cell 6,k.cell 7,k.cell 8,k.cell 9⟩
theorem kC:(prog.info? 60).map (fun i=>(i.zero,i.size,i.bytes))=some (some (.agg #[.string ⟨#[]⟩,.string ⟨#[]⟩,.string ⟨#[]⟩,.int .i64 0,.int .i64 0,.string ⟨#[]⟩,.string ⟨#[]⟩,.string ⟨#[]⟩,.string ⟨#[]⟩,.string ⟨#[]⟩]),10,144):=by kernel_rfl
theorem Bw:(prog.info? 70).map (fun i=>(i.zero,i.size,i.bytes))=some (some (.agg #[.string ⟨#[]⟩,.string ⟨#[]⟩,.string ⟨#[]⟩,.string ⟨#[]⟩,.string ⟨#[]⟩,.string ⟨#[]⟩]),6,96):=by kernel_rfl
theorem lU(gs:List GainV)(g:GainV):(gs++[g]).flatMap bj=gs.flatMap bj++bj g:=by simp
theorem EV(gs:List StepV)(g:StepV):(gs++[g]).flatMap cT=gs.flatMap cT++cT g:=by simp
end
section
open Go.RowKit Go.Shelf
attribute [local go_sem] size_bs toList_bs Oper.semAt_some
theorem Ei(A:Option Addr)(n c:Nat)(ins:Bs)(w:World) :
  Calls prog 60 #[.slice A n c,.string (bs ins)] w fun e w'=>e = .returned (.func (.func 126) #[] #[.pointer (some ⟨w.heap.size,0,none⟩),.pointer (some ⟨w.heap.size+1,0,none⟩)])∧w'=(w.alloc (.cells #[.slice A n c] 22)).alloc (.cells #[.string (bs ins)] 9):=by
 go_enter func60,ntmps60;go_wp2_with fail;go_ret;exact⟨rfl,rfl⟩
def EW(J:Nat->World->Prop)(k:Nat)(e:Ending)(W':World):Prop:=e = .returned (.bool true)∧J (k+1) W'
theorem yK(n l B:Nat)(w:World)(ls:List LotV)(A:Option Addr)(c:Nat)(ins:Bs)(hA:aK w A ls)(hn:ls.length<=1000000)(J:Nat->World->Prop)
  (hJ:∀k W,J k W->Ext w W∧Blk W B 22 #[.slice A ls.length c]∧Blk W (B+1) 9 #[.string (bs ins)]) (hX:∀k W W',J k W->Ext W W'->J k W')
  (hY:∀k (hk:k<ls.length) W,(ls[k]'hk).ins=ins->J k W->YieldAt Fence.wide (n-1) prog l #[lv (ls[k]'hk)] W (EW J k))
  (hS:∀k (hk:k<ls.length) W,(ls[k]'hk).ins≠ins->J k W->J (k+1) W) (W:World) (h0:J 0 W) :
  CallsIn Fence.wide n prog 126 #[.func (.yield l) #[] #[],.pointer (some ⟨B,0,none⟩),.pointer (some ⟨B+1,0,none⟩)] W fun e W'=>(∃v,e = .returned v)∧J ls.length W':=by
 have hfn:∀k,Fence.wide.fn k:=fun _=>trivial
 have hdp:Fence.wide.depth.isSome=false:=rfl;have HA:=qh hA;have HJ:=qh hJ;have HX:=qh hX;have HY:=qh hY;have HS:=qh hS;have H0:=qh h0;clear hA hJ hX hY hS h0;obtain⟨e0,b0,b1⟩:=HJ.out 0 W H0.out;have q0:=b0.cell 0;simp only[Mk,Mm]at q0;clear e0 b0 b1;refine Sd func126 rfl trivial ?_ rfl;simp only[ntmps126,Nh,MG,Ns,Nat.reduceAdd,Nat.reduceSub,Ov,Ow,OU,OA,ML,MZ];gi_wp2
 gi_loopw [8,5] (fun i _ wr=>∃k:Nat,k<=ls.length∧i = .int .i64 k∧J k wr) (fun i _ _=>ls.length-(intOf i).toNat)
 case atStart=>exact⟨0,by omega,rfl,H0.out⟩
 case round =>
  clear H0 q0;obtain⟨k,hk,rfl,h⟩:=hrel;obtain⟨hx,b0,b1⟩:=HJ.out k wr h;by_cases hlt:k<ls.length
  ·obtain⟨b,o,rfl,hb,c0,c1,c2,c3,c4,c5,c6⟩:=(HA.out.ext hx).at_ hlt;have HN:=qh (HX.out k wr (wr.alloc (.cells (lc (ls[k]'hlt)) 62)) h (Id _ _));have q1:=(b1.alloc (.cells (lc (ls[k]'hlt)) 62)).cell 0;have hlb:=b1.lt;simp only[Mk,Mm]at q1;by_cases hin:(ls[k]'hlt).ins=ins
   focus
    obtain⟨fn,tmps,assign,body,hy,hR⟩:=HY.out k hlt _ hin HN.out;have hbin:((ls[k]'hlt).ins == ins)=true:=by rw[Np];exact hin
    have HR:=qh hR;clear hR hin h hx b0 b1 HN;generalize ls[k]'hlt=x at *;obtain⟨xi,xn,xa,xo,xq,xc,xu⟩:=x;gi_wp2
    refine HR.out.mono ?_;rintro e W3⟨rfl,hJ3⟩;have HJ3:=qh hJ3;clear hJ3 hy HR
   rotate_left
   focus
    have hbin:((ls[k]'hlt).ins == ins)=false:=by rw[Mt];exact hin
    have HJ3:=qh (HS.out k hlt _ hin HN.out);clear hin h hx b0 b1 HN;generalize ls[k]'hlt=x at *;obtain⟨xi,xn,xa,xo,xq,xc,xu⟩:=x
   all_goals
    gi_wp2
    go_roundw
    case rel=>exact⟨k+1,by omega,by go_num,HJ3.out⟩
    case measure=>simp[intOf];omega
  ·obtain rfl:k=ls.length:=by omega
   have HH:=qh h;clear h b0 b1 hx;gi_wp2
   go_end0
   exact⟨⟨_,rfl⟩,HH.out⟩
end
section
open Go Go.RowKit
section
variable {P:Program} {Q:Exit->Act->World->Prop} {ops:Array Oper} {md:Region.Mode} {l n:Nat}
def kj:Op->Bool | .defer _=>false | _=>true
theorem oT{o:Oper}(h:kj o.op=true)(ro:Option Nat)(ρ:Operand->Value):o.semAt ro ρ=execOp ρ o:=by
 unfold Oper.semAt
 cases ro with
 |none=>rfl
 |some l =>
  split
  ·rename_i c _ he;rw[he]at h;simp[kj]at h
  ·rfl
theorem EX{o:Oper}{a:Act}{K K':Act->World->Prop}(hK:∀a w,K a w->K' a w)(r:Result Next)(h:o.upon P a K Q r):o.uponIn (Fence.wide.inRound l) n P a K' Q r:=by
 cases r with
 |ok nx w' =>
  cases nx with
  |value v=>exact hK _ _ h
  |skip=>exact hK _ _ h
  |defer d=>exact hK _ _ h
  |enter f args =>
   refine⟨(fun h=>by cases h),CallsIn.inRound l (Nu.2 (Calls.mono h ?_))⟩;intro e w'' k
   cases e with
   |returned v=>exact hK _ _ k
   |panicked c=>exact k
   |outgrown=>exact k
  |row row args =>
   refine⟨(fun h=>by cases h),?_⟩;intro c cs _;obtain⟨v,w2,hv,hs⟩:=h c cs;exact⟨v,w2,hK _ _ hv,stepsIn_wide.2 hs⟩
  |_=>exact(h:False).elim
 |halt x w' =>
  cases x with
  |panic v=>exact h
  |_=>exact(h:False).elim
theorem I5{a:Act}{w:World}{K K':Act->World->Prop}(hK:∀a w,K a w->K' a w)(hd:∀o ∈ ops,kj o.op=true)(hlo:¬ LetsOut Q)(h:wpOp P ops Q i K a w):wpOpIn (Fence.wide.inRound l) n P ops Q i K' a w:=by
 unfold wpOp at h;unfold wpOpIn
 cases ho:ops[i]? with
 |none=>rw[ho]at h;exact hK _ _ h
 |some o =>
  rw[ho]at h;simp only at h ⊢;have hp:=hd o (Array.mem_of_getElem? ho);split at h
  ·rename_i hw
   rw[Mq hw];rcases h with h|h
   ·refine⟨fun _ _=>trivial,?_⟩;rw[oT hp];exact EX hK _ h
   ·exact absurd h.2 hlo
  ·rename_i hw
   rw[Mj hw];exact⟨fun _ _=>trivial,hK _ _ h⟩
theorem yL(hd:∀o ∈ ops,kj o.op=true)(hlo:¬ LetsOut Q):∀(fuel:Nat) (listed:Array Bool) (a:Act) (w:World),wpAny P md ops Q fuel listed a w->wpAnyIn (Fence.wide.inRound l) n P md ops Q fuel listed a w
 |0,_,_,_,h=>h
 |fuel+1,_,_,_,h=>⟨h.1,fun i hi=>I5 (fun a w k=>yL hd hlo fuel _ a w k) hd hlo (h.2 i hi)⟩
theorem yM{S:World->Prop}{a:Act}{w:World}(hm:P.follows .mixedOrders=true)(hd:∀o ∈ ops,kj o.op=true)(hlo:¬ LetsOut Q)(hS:S w.drew)
  (h:S w.drew->wpAnyH P .any ops Q S ops.size (Array.replicate ops.size false) a w.drew):(Code.region id ops true).wpIn (Fence.wide.inRound l) n P Q a w :=
 wpIn_region_any hm (yL hd hlo _ _ _ _ (wpAny_of_held _ _ _ _ (h hS)))
theorem rt{l:Nat}{rec:Loop}:¬ LetsOut (Exit.inBlock k (nf l rec R)):=by
 rintro⟨a,w,h⟩;exact h
end
end
end Go.Proofs.YtaegjkllenlfpaaGreatDoor
