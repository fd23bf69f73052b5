/- The seat's texts, part YB. -/
import Derived.Test.YtaegjkllenlfpaaGreatDoorYA
set_option maxRecDepth 100000
set_option maxHeartbeats 8000000
namespace Go.Proofs.YtaegjkllenlfpaaGreatDoor
open Go.Proofs.Tryz
variable {gs:List GainV}{k c b0:Nat}{fr to_:Int}{w' W:World}{a b:Value}
section
open Go.RowKit Go.Shelf
attribute [local go_sem] size_bs toList_bs
theorem kh{fn:Func}{t u v x:Tmp}(h:fn.results=#[.tmp t,.tmp u,.tmp v,.tmp x])(tmps:Array Value)(P:Program)(w:World) :
  (results fn tmps).run P w = .ok (.tuple #[tmps.getD t undef,tmps.getD u undef,tmps.getD v undef,tmps.getD x undef]) w:=by
 simp[results,h]
def dS(g:GainV):Bool:=aR g != 0
theorem Gc(g:GainV)(hs:SmallG g)(w:World)(hE:Env w):Calls prog 111 (#[kB g]++#[]) w fun e w'=>e = .returned (.bool (dS g))∧Ext w w':=by
 have HE:=qh hE;have HC:=qh (oG g hs);have HWR:Hid ((aR g != 0)=dS g):=qh rfl;have HB:=qh (ID w 60 (dr g));have HX:Hid (Ext w (w.alloc (.cells (dr g) 60))):=qh (Id _ _);obtain⟨g0,g1,g2,g3,g4,g5,g6,g7,g8,g9⟩:=ax HB.out (iD _);clear hE hs;generalize dS g=b at *;generalize aR g=z at *;obtain⟨gk,gl,gi,ga,gc',gq,gp,gco,gd,gr⟩:=g;simp only at *;go_enter func111,ntmps111;go_wp2_with fail;refine(HC.out _ (HE.out.ext HX.out)).mono ?_;rintro e w1⟨rfl,hx1⟩;replace HX:=HX.qt hx1;clear hx1;go_wp2_with fail;go_ret;exact⟨by rw[←HWR.out];rfl,HX.out⟩
theorem vt(gs:List GainV)(A:Option Addr)(c:Nat)(w:World)(hE:Env w)(hA:dM w A gs)(hs:∀g ∈ gs,SmallG g)(hn:gs.length<=100000) :
  Calls prog 31 #[.slice A gs.length c,.func (.func 111) #[] #[]] w fun e w'=>e = .returned (.bool (gs.any dS))∧Ext w w' :=
 AV 111 #[] (fun _ _=>by rfl) dS gs A c w hA (by omega) (fun x hx W hxx=>Gc x (hs x hx) W (hE.ext hxx))
def mX(g:GainV):Bs:=ofI (valI g.p-valI g.c+valI g.d)
def lu(g:GainV):Value:=if aR g≠0 then .tuple #[.string ⟨#[]⟩,.int .i64 1] else .tuple #[.string (bs (mX g)),.int .i64 0]
theorem I0(g:GainV)(hs:SmallG g):bJ 44 #[kB g] (lu g):=by
 intro w hE;have HE:=qh hE;have HC:=qh (oG g hs);have hl:=jg (x:=g.p) (y:=g.c) (L:=1000) hs.p hs.c;have C1:=qh (lC g.p g.c (by have:=hs.p;omega) (by have:=hs.c;omega));have c2:=iL (ofI (valI g.p-valI g.c)) g.d (by omega) (by have:=hs.d;omega);rw[valI_ofI,show ofI (valI g.p-valI g.c+valI g.d)=mX g from rfl]at c2;have C2:=qh c2;have HV:Hid (lu g=if aR g≠0 then .tuple #[.string ⟨#[]⟩,.int .i64 1] else .tuple #[.string (bs (mX g)),.int .i64 0]):=qh rfl;have HB:=qh (ID w 60 (dr g));have HX:Hid (Ext w (w.alloc (.cells (dr g) 60))):=qh (Id _ _);obtain⟨g0,g1,g2,g3,g4,g5,g6,g7,g8,g9⟩:=ax HB.out (iD _);clear hE hs hl c2;generalize lu g=rv at *;generalize mX g=rb at *;generalize ofI (valI g.p-valI g.c)=sb at *;generalize aR g=z at *;obtain⟨gk,gl,gi,ga,gc',gq,gp,gco,gd,gr⟩:=g;simp only at *;go_enter func44,ntmps44;go_wp2_with fail;refine(HC.out _ (HE.out.ext HX.out)).mono ?_;rintro e w1⟨rfl,hx1⟩;replace HB:=qh (HB.out.ext hx1);replace HX:=HX.qt hx1;clear hx1 g0 g1 g2 g3 g4 g5 g6 g7 g8 g9;obtain⟨_,_,_,_,_,_,g6,g7,g8,_⟩:=ax HB.out (iD _);by_cases hz:z=0
 ·have hv:=HV.out;rw[Mj (by simpa using hz)]at hv;subst hv hz;clear HV HC;go_upto_region 3 with fail;generalize hG:w.heap.size=G at *;have HD:Hid (Ext w1 w1.drew):=qh (iD w1).drew
  go_region_held3 (fun w'=>w'.cell? ⟨G,6,none⟩=some (.string (bs gp))∧w'.cell? ⟨G,7,none⟩=some (.string (bs gco))∧w'.cell? ⟨G,8,none⟩=some (.string (bs gd)))
   (go_keep)
   (first
    |(go_at_call 18;((with_reducible refine(C1.out _ (HE.out.ext (HX.out.trans HD.out))).mono ?_);rintro e w5⟨rfl,hx⟩);(replace HD:=HD.qt hx);(obtain⟨_,_,_,_,_,_,g6,g7,g8,_⟩:=ax HB.out HD.out);clear hx)
    |(go_at_call 19;((with_reducible refine(C2.out _ (HE.out.ext (HX.out.trans HD.out))).mono ?_);rintro e w5⟨rfl,hx⟩);(replace HD:=HD.qt hx);(obtain⟨_,_,_,_,_,_,g6,g7,g8,_⟩:=ax HB.out HD.out);clear hx)
    |fail)
  all_goals
   go_wp2_with fail;go_ret2;exact⟨rfl,HX.out.trans HD.out⟩
 ·have hv:=HV.out;rw[Mq hz]at hv;subst hv;have hz2:(z != 0)=true:=by rw[Nc];exact hz
  clear HV HC hz;go_wp2_with fail;go_ret2;exact⟨rfl,HX.out⟩
def nO(gs:List GainV):Value:=if gs.any dS=true then .tuple #[.string ⟨#[]⟩,.string ⟨#[]⟩,.string ⟨#[]⟩,.int .i64 1] else .tuple #[.string (bs (ofI (aZ (·.p) gs))),.string (bs (ofI (aZ (·.c) gs))),.string (bs (ofI (aZ (·.d) gs))),.int .i64 0]
theorem Gd(gs:List GainV)(A:Option Addr)(c:Nat)(w:World)(hE:Env w)(hA:dM w A gs)(hs:∀g ∈ gs,SmallG g)(hn:gs.length<=100000) :
  Calls prog 37 #[.slice A gs.length c] w fun e w'=>e = .returned (nO gs)∧Ext w w':=by
 have HC:=qh (vt gs A c w hE hA hs hn);have HE:=qh hE;have HA:=qh hA;have HS:=qh hs;have HV:Hid (nO gs=if gs.any dS=true then .tuple #[.string ⟨#[]⟩,.string ⟨#[]⟩,.string ⟨#[]⟩,.int .i64 1] else .tuple #[.string (bs (ofI (aZ (·.p) gs))),.string (bs (ofI (aZ (·.c) gs))),.string (bs (ofI (aZ (·.d) gs))),.int .i64 0]):=qh rfl;have HL1:=qh (jt (f:=(·.p)) (L:=1000) (fun g hg=>(hs g hg).p) hn);have HL2:=qh (jt (f:=(·.c)) (L:=1000) (fun g hg=>(hs g hg).c) hn);have HL3:=qh (jt (f:=(·.d)) (L:=1000) (fun g hg=>(hs g hg).d) hn);clear hE hA hs;generalize nO gs=tv at *;generalize gs.any dS=b at *;go_enter func37,ntmps37;go_wp2_with fail;refine HC.out.mono ?_;rintro e w1⟨rfl,hx1⟩;have HX0:=qh hx1;clear hx1 HC
 cases b;rotate_left
 ·have hv:=HV.out;rw[Mq rfl]at hv;subst hv;go_wp2_with fail;refine MI (kh rfl _ _ _) rfl ?_;exact⟨rfl,HX0.out⟩
 have hv:=HV.out;rw[Mj (by decide)]at hv;subst hv;clear HV;go_wp2_with fail;go_loopw [15,6,7,8] (fun i v6 v7 v8 wr=>∃k:Nat,k<=gs.length∧i = .int .i64 k∧v6 = .string (bs (ofI (aZ (·.p) (gs.take k))))∧v7 = .string (bs (ofI (aZ (·.c) (gs.take k))))∧v8 = .string (bs (ofI (aZ (·.d) (gs.take k))))∧Ext w wr) (fun i _ _ _ _=>gs.length-(intOf i).toNat)
 case atStart=>exact⟨0,by omega,rfl,by simp[aZ,cK.2 rfl];rfl,by simp[aZ,cK.2 rfl];rfl,by simp[aZ,cK.2 rfl];rfl,HX0.out⟩
 case round =>
  obtain⟨k,hk,rfl,rfl,rfl,rfl,hx⟩:=hrel;have HX:=qh hx;clear hx;by_cases hlt:k<gs.length
  ·obtain⟨b,o,rfl,hb,c0,c1,c2,c3,c4,c5,c6,c7,c8,c9⟩:=(HA.out.ext HX.out).at_ hlt;have hki:(k:Int)<(gs.length:Int):=by omega
   have hk0:(0:Int)<=(k:Int):=by omega
   have hsm:=HS.out _ (Ml hlt);have l1:=HL1.out k;have l2:=HL2.out k;have l3:=HL3.out k;have a1:=iL (ofI (aZ (·.p) (gs.take k))) (gs[k]'hlt).p (by omega) (by have:=hsm.p;omega);have a2:=iL (ofI (aZ (·.c) (gs.take k))) (gs[k]'hlt).c (by omega) (by have:=hsm.c;omega);have a3:=iL (ofI (aZ (·.d) (gs.take k))) (gs[k]'hlt).d (by omega) (by have:=hsm.d;omega);rw[valI_ofI,←iG (f:=(·.p)) hlt]at a1;rw[valI_ofI,←iG (f:=(·.c)) hlt]at a2;rw[valI_ofI,←iG (f:=(·.d)) hlt]at a3;have A1:=qh a1;have A2:=qh a2;have A3:=qh a3;clear hsm l1 l2 l3 a1 a2 a3;have HG:=qh (ID wr 60 (dr (gs[k]'hlt)));replace HX:=qh (HX.out.alloc (.cells (dr (gs[k]'hlt)) 60));generalize (gs[k]'hlt)=x at *;generalize hq1:ofI (aZ (·.p) (gs.take (k+1)))=q1 at *;generalize hq2:ofI (aZ (·.c) (gs.take (k+1)))=q2 at *;generalize hq3:ofI (aZ (·.d) (gs.take (k+1)))=q3 at *;have HQ1:=qh hq1;have HQ2:=qh hq2;have HQ3:=qh hq3;clear hq1 hq2 hq3;generalize ofI (aZ (·.p) (gs.take k))=z1 at *;generalize ofI (aZ (·.c) (gs.take k))=z2 at *;generalize ofI (aZ (·.d) (gs.take k))=z3 at *;obtain⟨gk,gl,gi,ga,gc',gq,gp,gco,gd,gr⟩:=x;simp only at *;go_upto_region 7 with fail;clear c0 c1 c2 c3 c4 c5 c6 c7 c8 c9;generalize wr.alloc (.cells #[.string (bs gk),.string (bs gl),.string (bs gi),.int .i64 ga,.int .i64 gc',.string (bs gq),.string (bs gp),.string (bs gco),.string (bs gd),.string (bs gr)] 60)=W at *;generalize wr.heap.size=G at *;obtain⟨_,_,_,_,_,_,p6,p7,p8,_⟩:=ax HG.out (iD _);have HD:Hid (Ext W W.drew):=qh (iD W).drew
   go_region_held3 (fun w'=>w'.cell? ⟨G,6,none⟩=some (.string (bs gp))∧w'.cell? ⟨G,7,none⟩=some (.string (bs gco))∧w'.cell? ⟨G,8,none⟩=some (.string (bs gd)))
    (go_keep)
    (first
     |(go_at_call 19;((with_reducible refine(A1.out _ (HE.out.ext (HX.out.trans HD.out))).mono ?_);rintro e w5⟨rfl,hx⟩);(replace HD:=HD.qt hx);(obtain⟨_,_,_,_,_,_,p6,p7,p8,_⟩:=ax HG.out HD.out);clear hx)
     |(go_at_call 19;((with_reducible refine(A2.out _ (HE.out.ext (HX.out.trans HD.out))).mono ?_);rintro e w5⟨rfl,hx⟩);(replace HD:=HD.qt hx);(obtain⟨_,_,_,_,_,_,p6,p7,p8,_⟩:=ax HG.out HD.out);clear hx)
     |(go_at_call 19;((with_reducible refine(A3.out _ (HE.out.ext (HX.out.trans HD.out))).mono ?_);rintro e w5⟨rfl,hx⟩);(replace HD:=HD.qt hx);(obtain⟨_,_,_,_,_,_,p6,p7,p8,_⟩:=ax HG.out HD.out);clear hx)
     |fail)
   all_goals
    go_wp2_with fail;exact⟨⟨k+1,by omega,by go_num,by rw[HQ1.out],by rw[HQ2.out],by rw[HQ3.out],HX.out.trans HD.out⟩,by simp[intOf];omega⟩
  ·have hkk:k=gs.length:=by omega
   subst hkk;rw[MK];go_wp2_with fail;refine MI (kh rfl _ _ _) rfl ?_;exact⟨rfl,HX.out⟩
def lQ(w:World)(base:Nat)(v:Value)(gs:List GainV):Prop:=w.ownsRow base 60 10 v gs.length (gs.flatMap bj)
def AW(gs:List GainV)(w:World)(e:Ending)(w':World):Prop:=∃A c,e = .returned (.slice A gs.length c)∧dM w' A gs∧Ext w w'
def gw(gs:List GainV)(ins:Bs):List GainV:=gs.filter (fun x=>decide (x.ins=ins))
theorem jA{p:GainV->Bool}(hk:k<gs.length)(h:p (gs[k]'hk)=true):(gs.take (k+1)).filter p=(gs.take k).filter p++[gs[k]'hk]:=by
 rw[Mo hk,PM];simp[h]
theorem jb{p:GainV->Bool}(hk:k<gs.length)(h:p (gs[k]'hk)=false):(gs.take (k+1)).filter p=(gs.take k).filter p:=by
 rw[Mo hk,PM];simp[h]
theorem L0(gs:List GainV)(A:Option Addr)(c:Nat)(ins:Bs)(w:World)(hA:dM w A gs)(hn:gs.length<=100000) :
  Calls prog 42 #[.slice A gs.length c,.string (bs ins)] w (AW (gw gs ins) w):=by
 have HA:=qh hA;obtain⟨i0,hI,hz0,hz1,hz2⟩:=Ny kC;have HI:=qh hI;clear hA hI;go_enter func42,ntmps42;go_wp2_with fail;go_loopw [10,5] (fun i v wr=>∃k A5 c5,k<=gs.length∧i = .int .i64 (k:Nat)∧v = .slice A5 (gw (gs.take k) ins).length c5∧lQ wr w.heap.size v (gw (gs.take k) ins)∧Ext w wr) (fun i _ _=>gs.length-(intOf i).toNat)
 case atStart=>exact⟨0,none,0,by omega,rfl,rfl,NF _ _ _ _,iD _⟩
 case round =>
  obtain⟨k,A5,c5,hk,rfl,rfl,ho,hx⟩:=hrel;have HX:=qh hx;have HO:=qh ho;clear hx ho;by_cases hlt:k<gs.length
  ·obtain⟨b,o,rfl,hb,d0,d1,d2,d3,d4,d5,d6,d7,d8,d9⟩:=(HA.out.ext HX.out).at_ hlt;have hki:(k:Int)<(gs.length:Int):=by omega
   have hk0:(0:Int)<=(k:Int):=by omega
   have hhit:=fun h=>jA (p:=fun x=>decide (x.ins=ins)) hlt h
   have hskip:=fun h=>jb (p:=fun x=>decide (x.ins=ins)) hlt h
   have hkl:(gw (gs.take k) ins).length<=100000:=by
    have h1:(gw (gs.take k) ins).length<=(gs.take k).length:=M8 _ _;rw[Mu]at h1;omega
   generalize (gs[k]'hlt)=x at *;obtain⟨gk,gl,gi,ga,gc',gq,gp,gco,gd,gr⟩:=x;simp only at d0 d1 d2 d3 d4 d5 d6 d7 d8 d9 hhit hskip;have BX:=qh (ID wr 60 (dr ⟨gk,gl,gi,ga,gc',gq,gp,gco,gd,gr⟩));have HX3:=qh (HX.out.trans (Id wr (.cells (dr ⟨gk,gl,gi,ga,gc',gq,gp,gco,gd,gr⟩) 60)));have HO3:=qh (own_ext2 HO.out (Id wr (.cells (dr ⟨gk,gl,gi,ga,gc',gq,gp,gco,gd,gr⟩) 60)));go_upto_region 5 with fail;generalize wr.alloc (.cells #[.string (bs gk),.string (bs gl),.string (bs gi),.int .i64 ga,.int .i64 gc',.string (bs gq),.string (bs gp),.string (bs gco),.string (bs gd),.string (bs gr)] 60)=w5 at *;generalize wr.heap.size=X8 at *;obtain⟨g0,g1,g2,g3,g4,g5,g6,g7,g8,g9⟩:=ax BX.out (iD _);clear d0 d1 d2 d3 d4 d5 d6 d7 d8 d9 HO HX;by_cases hi:gi=ins
   ·have HH:=qh (hhit (by simpa using hi));have hbe:(gi == ins)=true:=by rw[Np];exact hi
    clear hhit hskip hi;have HO4:=qh (own_ext2 HO3.out (Id w5 (.cells #[.string (bs gk),.string (bs gl),.string (bs gi),.int .i64 ga,.int .i64 gc',.string (bs gq),.string (bs gp),.string (bs gco),.string (bs gd),.string (bs gr)] 60)));have HX4:=qh (HX3.out.trans (Id w5 (.cells #[.string (bs gk),.string (bs gl),.string (bs gi),.int .i64 ga,.int .i64 gc',.string (bs gq),.string (bs gp),.string (bs gco),.string (bs gd),.string (bs gr)] 60)));have hsz:=HX4.out.size;have hlow:=iB HO4.out;go_upto_region 6 with fail;go_wp2_with (at_builtin;go_must (refine OE _ rfl (.tmp 18) (.tmp 20) 35 rfl w.heap.size 60 i0 _ 10 144 Pn HI.out hz0 hz1 hz2 rfl (by decide) _ _ _ rfl HO4.out ⟨w5.heap.size,0,none⟩ 1 1 (bj ⟨gk,gl,gi,ga,gc',gq,gp,gco,gd,gr⟩) rfl rfl (M7 (M4 w5 _)) (nh _) (by simp only[maxLen];omega) (by omega) hsz ?_);intro v2 w' hown' hgrow hnil;(obtain⟨A3,c3,rfl⟩:=aF hown');clear hnil;(have HO5:=qh hown');(have HX5:=qh (HX4.out.grown hgrow hlow)));have HE5:Hid (gw (gs.take (k+1)) ins=gw (gs.take k) ins++[⟨gk,gl,gi,ga,gc',gq,gp,gco,gd,gr⟩]):=qh HH.out;go_roundw
    case rel=>exact⟨k+1,A3,c3,by omega,by go_num,by rw[HE5.out,Mp];rfl,by unfold lQ;rw[HE5.out,lU,Mp];exact HO5.out,HX5.out⟩
    case measure=>simp[intOf];omega
   ·have HH:=qh (hskip (by simpa using hi));have hbe:(gi == ins)=false:=by rw[Mt];exact hi
    clear hhit hskip hi;have HE5:Hid (gw (gs.take (k+1)) ins=gw (gs.take k) ins):=qh HH.out;go_wp2_with fail;go_roundw
    case rel=>exact⟨k+1,A5,c5,by omega,by go_num,by rw[HE5.out],by rw[HE5.out];exact HO3.out,HX3.out⟩
    case measure=>simp[intOf];omega
  ·have hke:k=gs.length:=by omega
   subst hke;have hki:¬ ((gs.length:Int)<(gs.length:Int)):=by omega
   rw[MK]at HO;go_wp2_with fail;go_ret;exact⟨A5,c5,rfl,Reads.own HO.out,HX.out⟩
def jc(fr to_:Int)(g:GainV):Bool:=decide (fr<=g.clo) && decide (g.clo<to_)
def kT(gs:List GainV)(fr to_:Int):Int:=if gs.any dS=true then 1 else if(dayOK fr && dayOK to_)=false then 13 else if to_<fr then 8 else 0
def mn(gs:List GainV)(fr to_:Int)(w:World)(e:Ending)(w':World):Prop :=
 (kT gs fr to_≠0->e = .returned (.tuple #[.slice none 0 0,.int .i64 (kT gs fr to_)])) ∧
 (kT gs fr to_=0->∃A c,e = .returned (.tuple #[.slice A (gs.filter (jc fr to_)).length c,.int .i64 0])∧dM w' A (gs.filter (jc fr to_)))∧Ext w w'
theorem mY{r:Int}{w:World}(h:kT gs fr to_=r)(hr:r≠0)(hx:Ext w w'):mn gs fr to_ w (.returned (.tuple #[.slice none 0 0,.int .i64 r])) w':=by
 subst h;exact⟨fun _=>rfl,fun h=>absurd h hr,hx⟩
theorem EC{w:World}{A:Option Addr}(h:kT gs fr to_=0)(hr:dM w' A (gs.filter (jc fr to_)))(hx:Ext w w'):mn gs fr to_ w (.returned (.tuple #[.slice A (gs.filter (jc fr to_)).length c,.int .i64 0])) w' :=
 ⟨fun g=>absurd h g,fun _=>⟨A,c,rfl,hr⟩,hx⟩
theorem ki{w:World}{g:Nat}(h:Blk w g 73 #[a,b])(hx:Ext w w'):w'.cell? ⟨g,0,none⟩=some a∧w'.cell? ⟨g,1,none⟩=some b:=by
 have k:=h.ext hx;exact⟨k.cell 0,k.cell 1⟩
theorem DY(gs:List GainV)(A:Option Addr)(c:Nat)(fr to_:Int)(w:World)(hE:Env w)(hA:dM w A gs)(hs:∀g ∈ gs,SmallG g)(hn:gs.length<=100000) :
  Calls prog 39 #[.slice A gs.length c,.agg #[.int .i64 fr,.int .i64 to_]] w (mn gs fr to_ w):=by
 have HC:=qh (fun W (hx:Ext w W)=>vt gs A c W (hE.ext hx) (hA.ext hx) hs hn);have HA:=qh hA;have HV:Hid (kT gs fr to_=if gs.any dS=true then 1 else if(dayOK fr && dayOK to_)=false then 13 else if to_<fr then 8 else 0):=qh rfl;obtain⟨i0,hI,hz0,hz1,hz2⟩:=Ny kC;have HI:=qh hI;have HB:=qh (ID w 73 #[.int .i64 fr,.int .i64 to_]);have HX0:Hid (Ext w (w.alloc (.cells #[.int .i64 fr,.int .i64 to_] 73))):=qh (Id _ _);clear hE hA hs hI;generalize gs.any dS=b at *;go_enter func39,ntmps39;go_wp2_with fail;refine(HC.out _ HX0.out).mono ?_;rintro e w1⟨rfl,hx1⟩;replace HB:=qh (HB.out.ext hx1);replace HX0:=HX0.qt hx1;clear hx1 HC;generalize hF:w.heap.size=F at *
 cases b;rotate_left
 ·have hv:=HV.out;rw[Mq rfl]at hv;have HVV:=qh hv;clear HV hv;go_wp2_with fail;go_ret2;exact mY HVV.out (by decide) HX0.out
 have hv:=HV.out;rw[Mj (by decide)]at hv;obtain⟨p0,p1⟩:=ki HB.out (iD w1);have KD:=qh (xf fr to_ (some ⟨w1.heap.size,0,none⟩) 2 (w1.alloc (.cells #[.int .i64 fr,.int .i64 to_] 23)) (Reads.lit (xs:=[.int .i64 fr,.int .i64 to_]) rfl));have HV2:=qh hv;clear hv HV;generalize (dayOK fr && dayOK to_)=dk at *;go_wp2_with fail;refine KD.out.mono ?_;rintro e w2⟨rfl,hx1⟩;replace hx1:=(Id w1 (.cells #[.int .i64 fr,.int .i64 to_] 23)).trans hx1;replace HB:=qh (HB.out.ext hx1);replace HX0:=HX0.qt hx1;clear hx1 KD p0 p1;obtain⟨p0,p1⟩:=ki HB.out (iD w2)
 cases dk
 ·have hv:=HV2.out;rw[Mq rfl]at hv;have HVV:=qh hv;clear HV2 hv;go_wp2_with fail;go_ret2;exact mY HVV.out (by decide) HX0.out
 have hv:=HV2.out;rw[Mj (by decide)]at hv;clear HV2;by_cases hd:to_<fr
 ·rw[Mq hd]at hv;have HVV:=qh hv;have hd2:decide (to_<fr)=true:=by simpa using hd
  clear hd hv;go_wp2_with fail;go_ret2;exact mY HVV.out (by decide) HX0.out
 rw[Mj hd]at hv;have HVV:=qh hv;clear hv;have hd2:decide (to_<fr)=false:=by simpa using hd
 clear hd;go_wp2_with fail;clear p0 p1;go_loopw [28,6] (fun i v wr=>∃k A5 c5,k<=gs.length∧i = .int .i64 (k:Nat)∧v = .slice A5 ((gs.take k).filter (jc fr to_)).length c5∧lQ wr w2.heap.size v ((gs.take k).filter (jc fr to_))∧Ext w2 wr) (fun i _ _=>gs.length-(intOf i).toNat)
 case atStart=>exact⟨0,none,0,by omega,rfl,rfl,NF _ _ _ _,iD _⟩
 case round =>
  obtain⟨k,A5,c5,hk,rfl,rfl,ho,hx⟩:=hrel;have HX:=qh hx;have HO:=qh ho;clear hx ho;by_cases hlt:k<gs.length
  ·obtain⟨b,o,rfl,hb,d0,d1,d2,d3,d4,d5,d6,d7,d8,d9⟩:=(HA.out.ext (HX0.out.trans HX.out)).at_ hlt;have hki:(k:Int)<(gs.length:Int):=by omega
   have hk0:(0:Int)<=(k:Int):=by omega
   have hhit:=fun h=>jA (p:=jc fr to_) hlt h
   have hskip:=fun h=>jb (p:=jc fr to_) hlt h
   have hkl:((gs.take k).filter (jc fr to_)).length<=100000:=by
    have h1:((gs.take k).filter (jc fr to_)).length<=(gs.take k).length:=M8 _ _;rw[Mu]at h1;omega
   generalize (gs[k]'hlt)=x at *;obtain⟨gk,gl,gi,ga,gc',gq,gp,gco,gd,gr⟩:=x;simp only at d0 d1 d2 d3 d4 d5 d6 d7 d8 d9 hhit hskip;have hin:jc fr to_ ⟨gk,gl,gi,ga,gc',gq,gp,gco,gd,gr⟩=(decide (fr<=gc') && decide (gc'<to_)):=rfl;have BX:=qh (ID wr 60 (dr ⟨gk,gl,gi,ga,gc',gq,gp,gco,gd,gr⟩));have HB3:=qh ((HB.out.ext HX.out).alloc (.cells (dr ⟨gk,gl,gi,ga,gc',gq,gp,gco,gd,gr⟩) 60));have HX3:=qh (HX.out.trans (Id wr (.cells (dr ⟨gk,gl,gi,ga,gc',gq,gp,gco,gd,gr⟩) 60)));have HO3:=qh (own_ext2 HO.out (Id wr (.cells (dr ⟨gk,gl,gi,ga,gc',gq,gp,gco,gd,gr⟩) 60)));go_upto_region 11 with fail;generalize wr.alloc (.cells #[.string (bs gk),.string (bs gl),.string (bs gi),.int .i64 ga,.int .i64 gc',.string (bs gq),.string (bs gp),.string (bs gco),.string (bs gd),.string (bs gr)] 60)=w5 at *;generalize wr.heap.size=X8 at *;obtain⟨g0,g1,g2,g3,g4,g5,g6,g7,g8,g9⟩:=ax BX.out (iD _);obtain⟨p0,p1⟩:=ki HB3.out (iD _);clear d0 d1 d2 d3 d4 d5 d6 d7 d8 d9 HO HX;by_cases h1:fr<=gc'
   ·have e1:decide (fr<=gc')=true:=by simpa using h1
    by_cases h2:gc'<to_
    ·have e2:decide (gc'<to_)=true:=by simpa using h2
     have HH:=qh (hhit (by rw[hin,e1,e2];rfl));clear hhit hskip hin h1 h2;have HO4:=qh (own_ext2 HO3.out (Id w5 (.cells #[.string (bs gk),.string (bs gl),.string (bs gi),.int .i64 ga,.int .i64 gc',.string (bs gq),.string (bs gp),.string (bs gco),.string (bs gd),.string (bs gr)] 60)));have HX4:=qh (HX3.out.trans (Id w5 (.cells #[.string (bs gk),.string (bs gl),.string (bs gi),.int .i64 ga,.int .i64 gc',.string (bs gq),.string (bs gp),.string (bs gco),.string (bs gd),.string (bs gr)] 60)));have hsz:=HX4.out.size;have hlow:=iB HO4.out;go_upto_region 12 with fail;go_wp2_with (at_builtin;go_must (refine OE _ rfl (.tmp 44) (.tmp 46) 35 rfl w2.heap.size 60 i0 _ 10 144 Pn HI.out hz0 hz1 hz2 rfl (by decide) _ _ _ rfl HO4.out ⟨w5.heap.size,0,none⟩ 1 1 (bj ⟨gk,gl,gi,ga,gc',gq,gp,gco,gd,gr⟩) rfl rfl (M7 (M4 w5 _)) (nh _) (by simp only[maxLen];omega) (by omega) hsz ?_);intro v2 w' hown' hgrow hnil;(obtain⟨A3,c3,rfl⟩:=aF hown');clear hnil;(have HO5:=qh hown');(have HX5:=qh (HX4.out.grown hgrow hlow)));go_roundw
     case rel=>exact⟨k+1,A3,c3,by omega,by go_num,by rw[HH.out,Mp];rfl,by unfold lQ;rw[HH.out,lU,Mp];exact HO5.out,HX5.out⟩
     case measure=>simp[intOf];omega
    ·have e2:decide (gc'<to_)=false:=by simpa using h2
     have HH:=qh (hskip (by rw[hin,e1,e2];rfl));clear hhit hskip hin h1 h2;go_wp2_with fail;go_roundw
     case rel=>exact⟨k+1,A5,c5,by omega,by go_num,by rw[HH.out],by rw[HH.out];exact HO3.out,HX3.out⟩
     case measure=>simp[intOf];omega
   ·have e1:decide (fr<=gc')=false:=by simpa using h1
    have HH:=qh (hskip (by rw[hin,e1];rfl));clear hhit hskip hin h1;go_wp2_with fail;go_roundw
    case rel=>exact⟨k+1,A5,c5,by omega,by go_num,by rw[HH.out],by rw[HH.out];exact HO3.out,HX3.out⟩
    case measure=>simp[intOf];omega
  ·have hke:k=gs.length:=by omega
   subst hke;have hki:¬ ((gs.length:Int)<(gs.length:Int)):=by omega
   rw[MK]at HO;go_wp2_with fail;go_ret2;exact EC HVV.out (Reads.own HO.out) (HX0.out.trans HX.out)
theorem I1(g:GainV)(hs:SmallG g):jw 45 #[kB g] (lu g):=by
 intro w;have HC:=qh (sj g hs);have hl:=jg (x:=g.p) (y:=g.c) (L:=1000) hs.p hs.c;have C1:=qh (IW g.p g.c (by have:=hs.p;omega) (by have:=hs.c;omega));have c2:=yy (ofI (valI g.p-valI g.c)) g.d (by omega) (by have:=hs.d;omega);rw[valI_ofI,show ofI (valI g.p-valI g.c+valI g.d)=mX g from rfl]at c2;have C2:=qh c2;have HV:Hid (lu g=if aR g≠0 then .tuple #[.string ⟨#[]⟩,.int .i64 1] else .tuple #[.string (bs (mX g)),.int .i64 0]):=qh rfl;have HB:=qh (ID w 60 (dr g));have HX:Hid (Ext w (w.alloc (.cells (dr g) 60))):=qh (Id _ _);obtain⟨g0,g1,g2,g3,g4,g5,g6,g7,g8,g9⟩:=ax HB.out (iD _);clear hs hl c2;generalize lu g=rv at *;generalize mX g=rb at *;generalize ofI (valI g.p-valI g.c)=sb at *;generalize aR g=z at *;obtain⟨gk,gl,gi,ga,gc',gq,gp,gco,gd,gr⟩:=g;simp only at *;go_enter func45,ntmps45;go_wp2_with fail;refine(HC.out _).mono ?_;rintro e w1⟨rfl,hx1⟩;replace HB:=qh (HB.out.ext hx1);replace HX:=HX.qt hx1;clear hx1 g0 g1 g2 g3 g4 g5 g6 g7 g8 g9;obtain⟨_,_,_,_,_,_,g6,g7,g8,_⟩:=ax HB.out (iD _);by_cases hz:z=0
 ·have hv:=HV.out;rw[Mj (by simpa using hz)]at hv;subst hv hz;clear HV HC;go_upto_region 3 with fail;generalize hG:w.heap.size=G at *;have HD:Hid (Ext w1 w1.drew):=qh (iD w1).drew
  go_region_held3 (fun w'=>w'.cell? ⟨G,6,none⟩=some (.string (bs gp))∧w'.cell? ⟨G,7,none⟩=some (.string (bs gco))∧w'.cell? ⟨G,8,none⟩=some (.string (bs gd)))
   (go_keep)
   (first
    |(go_at_call 90;((with_reducible refine(C1.out _).mono ?_);rintro e w5⟨rfl,hx⟩);(replace HD:=HD.qt hx);(obtain⟨_,_,_,_,_,_,g6,g7,g8,_⟩:=ax HB.out HD.out);clear hx)
    |(go_at_call 113;((with_reducible refine(C2.out _).mono ?_);rintro e w5⟨rfl,hx⟩);(replace HD:=HD.qt hx);(obtain⟨_,_,_,_,_,_,g6,g7,g8,_⟩:=ax HB.out HD.out);clear hx)
    |fail)
  all_goals
   go_wp2_with fail;go_ret2;exact⟨rfl,HX.out.trans HD.out⟩
 ·have hv:=HV.out;rw[Mq hz]at hv;subst hv;have hz2:(z != 0)=true:=by rw[Nc];exact hz
  clear HV HC hz;go_wp2_with fail;go_ret2;exact⟨rfl,HX.out⟩
def jd:List GainV->Int
 |[]=>0
 |g :: r=>if aR g≠0 then aR g else jd r
theorem vu:∀ {gs:List GainV} {k:Nat} (hk:k<gs.length),(∀x ∈ gs.take k,aR x=0)->aR (gs[k]'hk)≠0->jd gs=aR (gs[k]'hk)
 |g :: r,0,_,_,h=>by simp only[Ps]at h;simp[jd,h]
 |g :: r,k+1,hk,ha,h=>by
  have h0:aR g=0:=ha g (by simp);simp only[Qz]at h ⊢;rw[jd,Mj (by simp[h0]),vu (by simpa using hk) (fun x hx=>ha x (by simp[hx])) h]
theorem xm:∀ {gs:List GainV},(∀x ∈ gs,aR x=0)->jd gs=0
 |[],_=>rfl
 |g :: r,h=>by rw[jd,Mj (by simp[h g (by simp)]),xm (fun x hx=>h x (by simp[hx]))]
theorem pU:∀(gs:List GainV),(jd gs != 0)=gs.any dS
 |[]=>rfl
 |g :: r=>by
  rw[List.any_cons,←pU r];rw[show jd (g :: r)=if aR g≠0 then aR g else jd r from rfl];unfold dS;by_cases h:aR g=0
  ·rw[Mj (by simp[h])];simp[h]
  ·rw[Mq h];simp[h]
theorem qV(gs:List GainV)(A:Option Addr)(c:Nat)(w:World)(hA:dM w A gs)(hs:∀g ∈ gs,SmallG g)(hn:gs.length<=100000) :
  Calls prog 112 #[.slice A gs.length c] w fun e w'=>e = .returned (.int .i64 (jd gs))∧Ext w w':=by
 have HA:=qh hA;have HS:=qh (fun g hg=>sj g (hs g hg));clear hA hs;go_enter func112,ntmps112;go_wp2_with fail;go_loopw [3] (fun i wr=>∃k:Nat,k<=gs.length∧i = .int .i64 k∧(∀x ∈ gs.take k,aR x=0)∧Ext w wr) (fun i _=>gs.length-(intOf i).toNat)
 case atStart=>exact⟨0,by omega,rfl,by simp,iD _⟩
 case round =>
  obtain⟨k,hk,rfl,hz,hx⟩:=hrel;have HZ:=qh hz;have HX:=qh hx;clear hz hx;by_cases hlt:k<gs.length
  ·obtain⟨b,o,rfl,hb,c0,c1,c2,c3,c4,c5,c6,c7,c8,c9⟩:=(HA.out.ext HX.out).at_ hlt;have hki:(k:Int)<(gs.length:Int):=by omega
   have hk0:(0:Int)<=(k:Int):=by omega
   have HC:=qh (HS.out _ (Ml hlt))
   have HN:Hid (aR (gs[k]'hlt)=0->∀x ∈ gs.take (k+1),aR x=0):=qh (fun h x hx=>by
    rw[Mo hlt]at hx;rcases MN.1 hx with hx|hx
    ·exact HZ.out x hx
    ·simp at hx;rw[hx];exact h)
   have HI:Hid (aR (gs[k]'hlt)≠0->jd gs=aR (gs[k]'hlt)):=qh (fun h=>vu hlt HZ.out h);generalize (gs[k]'hlt)=x at *;generalize aR x=z at *;go_wp2_with fail;refine(HC.out _).mono ?_;rintro e w1⟨rfl,hx1⟩;replace HX:=HX.qt hx1;clear hx1;by_cases hz:z=0
   ·have HN1:=qh (HN.out hz);subst hz;clear HN HI;go_wp2_with fail;go_roundw
    case rel=>exact⟨k+1,by omega,by go_num,HN1.out,HX.out⟩
    case measure=>simp[intOf];omega
   ·have HI1:=qh (HI.out hz);have hz2:(z != 0)=true:=by rw[Nc];exact hz
    clear HN HI hz;go_wp2_with fail;go_ret;exact⟨by rw[HI1.out];rfl,HX.out⟩
  ·have HI:Hid (jd gs=0):=qh (xm (by have:=HZ.out;rwa[Mv (by omega)]at this));go_wp2_with fail;go_ret;exact⟨by rw[HI.out];rfl,HX.out⟩
theorem Gf(gs:List GainV)(A:Option Addr)(c:Nat)(w:World)(hA:dM w A gs)(hs:∀g ∈ gs,SmallG g)(hn:gs.length<=100000) :
  Calls prog 38 #[.slice A gs.length c] w fun e w'=>e = .returned (nO gs)∧Ext w w':=by
 have HC:=qh (qV gs A c w hA hs hn);have HA:=qh hA;have HS:=qh hs;have HV:Hid (nO gs=if gs.any dS=true then .tuple #[.string ⟨#[]⟩,.string ⟨#[]⟩,.string ⟨#[]⟩,.int .i64 1] else .tuple #[.string (bs (ofI (aZ (·.p) gs))),.string (bs (ofI (aZ (·.c) gs))),.string (bs (ofI (aZ (·.d) gs))),.int .i64 0]):=qh rfl;rw[←pU]at HV;have HL1:=qh (jt (f:=(·.p)) (L:=1000) (fun g hg=>(hs g hg).p) hn);have HL2:=qh (jt (f:=(·.c)) (L:=1000) (fun g hg=>(hs g hg).c) hn);have HL3:=qh (jt (f:=(·.d)) (L:=1000) (fun g hg=>(hs g hg).d) hn);clear hA hs;generalize nO gs=tv at *;generalize jd gs=z at *;go_enter func38,ntmps38;go_wp2_with fail;refine HC.out.mono ?_;rintro e w1⟨rfl,hx1⟩;have HX0:=qh hx1;clear hx1 HC;by_cases hz:z=0;rotate_left
 ·have hz2:(z != 0)=true:=by rw[Nc];exact hz
  have hv:=HV.out;rw[Mq hz2]at hv;subst hv;clear hz HV;go_wp2_with fail;refine MI (kh rfl _ _ _) rfl ?_;exact⟨rfl,HX0.out⟩
 subst hz;have hv:=HV.out;rw[Mj (by decide)]at hv;subst hv;clear HV;go_wp2_with fail;go_loopw [9,6,7,8] (fun i v6 v7 v8 wr=>∃k:Nat,k<=gs.length∧i = .int .i64 k∧v6 = .string (bs (ofI (aZ (·.p) (gs.take k))))∧v7 = .string (bs (ofI (aZ (·.c) (gs.take k))))∧v8 = .string (bs (ofI (aZ (·.d) (gs.take k))))∧Ext w wr) (fun i _ _ _ _=>gs.length-(intOf i).toNat)
 case atStart=>exact⟨0,by omega,rfl,by simp[aZ,cK.2 rfl];rfl,by simp[aZ,cK.2 rfl];rfl,by simp[aZ,cK.2 rfl];rfl,HX0.out⟩
 case round =>
  obtain⟨k,hk,rfl,rfl,rfl,rfl,hx⟩:=hrel;have HX:=qh hx;clear hx;by_cases hlt:k<gs.length
  ·obtain⟨b,o,rfl,hb,c0,c1,c2,c3,c4,c5,c6,c7,c8,c9⟩:=(HA.out.ext HX.out).at_ hlt;have HAT:=qh (fun W (h:Ext wr W)=>(HA.out.ext (HX.out.trans h)).at_ hlt);have hki:(k:Int)<(gs.length:Int):=by omega
   have hk0:(0:Int)<=(k:Int):=by omega
   have hsm:=HS.out _ (Ml hlt);have l1:=HL1.out k;have l2:=HL2.out k;have l3:=HL3.out k;have a1:=yy (ofI (aZ (·.p) (gs.take k))) (gs[k]'hlt).p (by omega) (by have:=hsm.p;omega);have a2:=yy (ofI (aZ (·.c) (gs.take k))) (gs[k]'hlt).c (by omega) (by have:=hsm.c;omega);have a3:=yy (ofI (aZ (·.d) (gs.take k))) (gs[k]'hlt).d (by omega) (by have:=hsm.d;omega);rw[valI_ofI,←iG (f:=(·.p)) hlt]at a1;rw[valI_ofI,←iG (f:=(·.c)) hlt]at a2;rw[valI_ofI,←iG (f:=(·.d)) hlt]at a3;have A1:=qh a1;have A2:=qh a2;have A3:=qh a3
   have HX7:Hid (∀W,Ext wr W->W.cell? ⟨b,o+k*10+7,none⟩=some (.string (bs (gs[k]'hlt).c))):=qh (fun W h=>by
    obtain⟨b',o',e',_,_,_,_,_,_,_,_,d7,d8,_⟩:=HAT.out W h;injection e' with e'
    injection e' with e1 e2
    subst e1 e2;exact d7)
   have HX8:Hid (∀W,Ext wr W->W.cell? ⟨b,o+k*10+8,none⟩=some (.string (bs (gs[k]'hlt).d))):=qh (fun W h=>by
    obtain⟨b',o',e',_,_,_,_,_,_,_,_,d7,d8,_⟩:=HAT.out W h;injection e' with e'
    injection e' with e1 e2
    subst e1 e2;exact d8)
   clear hsm l1 l2 l3 a1 a2 a3 HAT;generalize (gs[k]'hlt)=x at *;generalize hq1:ofI (aZ (·.p) (gs.take (k+1)))=q1 at *;generalize hq2:ofI (aZ (·.c) (gs.take (k+1)))=q2 at *;generalize hq3:ofI (aZ (·.d) (gs.take (k+1)))=q3 at *;have HQ1:=qh hq1;have HQ2:=qh hq2;have HQ3:=qh hq3;clear hq1 hq2 hq3;generalize ofI (aZ (·.p) (gs.take k))=z1 at *;generalize ofI (aZ (·.c) (gs.take k))=z2 at *;generalize ofI (aZ (·.d) (gs.take k))=z3 at *;go_wp2_with fail;refine(A1.out _).mono ?_;rintro e w2⟨rfl,hx1⟩;have HD:=qh hx1;clear hx1 c0 c1 c2 c3 c4 c5 c6 c7 c8 c9;have c7:=HX7.out _ HD.out;go_wp2_with fail;refine(A2.out _).mono ?_;rintro e w3⟨rfl,hx1⟩;replace HD:=HD.qt hx1;clear hx1 c7;have c8:=HX8.out _ HD.out;go_wp2_with fail;refine(A3.out _).mono ?_;rintro e w4⟨rfl,hx1⟩;replace HD:=HD.qt hx1;clear hx1 c8;go_wp2_with fail;go_roundw
   case rel=>exact⟨k+1,by omega,by go_num,by rw[HQ1.out],by rw[HQ2.out],by rw[HQ3.out],HX.out.trans HD.out⟩
   case measure=>simp[intOf];omega
  ·have hkk:k=gs.length:=by omega
   subst hkk;rw[MK];go_wp2_with fail;refine MI (kh rfl _ _ _) rfl ?_;exact⟨rfl,HX.out⟩
theorem L4(gs:List GainV)(A:Option Addr)(c:Nat)(ins:Bs)(w:World)(hA:dM w A gs)(hn:gs.length<=100000) :
  Calls prog 43 #[.slice A gs.length c,.string (bs ins)] w (AW (gw gs ins) w):=by
 have HA:=qh hA;obtain⟨i0,hI,hz0,hz1,hz2⟩:=Ny kC;have HI:=qh hI;have HS0:Hid (lQ (w.alloc (.cells #[] 60)) w.heap.size (.slice (some ⟨w.heap.size,0,none⟩) 0 0) []):=qh (World.ownsRow_lit w #[] 0 (Mn _) (Om _) rfl);have HXS:Hid (Ext w (w.alloc (.cells #[] 60))):=qh (Id _ _);clear hA hI;go_enter func43,ntmps43;go_wp2_with fail;go_loopw [6,5] (fun i v wr=>∃k A5 c5,k<=gs.length∧i = .int .i64 (k:Nat)∧v = .slice A5 (gw (gs.take k) ins).length c5∧lQ wr w.heap.size v (gw (gs.take k) ins)∧Ext w wr) (fun i _ _=>gs.length-(intOf i).toNat)
 case atStart=>exact⟨0,_,_,by omega,rfl,rfl,HS0.out,HXS.out⟩
 case round =>
  obtain⟨k,A5,c5,hk,rfl,rfl,ho,hx⟩:=hrel;have HX:=qh hx;have HO:=qh ho;clear hx ho HS0 HXS;by_cases hlt:k<gs.length
  ·obtain⟨b,o,rfl,hb,d0,d1,d2,d3,d4,d5,d6,d7,d8,d9⟩:=(HA.out.ext HX.out).at_ hlt;have hki:(k:Int)<(gs.length:Int):=by omega
   have hk0:(0:Int)<=(k:Int):=by omega
   have hhit:=fun h=>jA (p:=fun x=>decide (x.ins=ins)) hlt h
   have hskip:=fun h=>jb (p:=fun x=>decide (x.ins=ins)) hlt h
   have hkl:(gw (gs.take k) ins).length<=100000:=by
    have h1:(gw (gs.take k) ins).length<=(gs.take k).length:=M8 _ _;rw[Mu]at h1;omega
   generalize (gs[k]'hlt)=x at *;obtain⟨gk,gl,gi,ga,gc',gq,gp,gco,gd,gr⟩:=x;simp only at d0 d1 d2 d3 d4 d5 d6 d7 d8 d9 hhit hskip;by_cases hi:gi=ins
   ·have HH:=qh (hhit (by simpa using hi));have hbe:(gi == ins)=true:=by rw[Np];exact hi
    clear hhit hskip hi;have HO4:=qh (own_ext2 HO.out (Id wr (.cells #[.string (bs gk),.string (bs gl),.string (bs gi),.int .i64 ga,.int .i64 gc',.string (bs gq),.string (bs gp),.string (bs gco),.string (bs gd),.string (bs gr)] 60)));have HX4:=qh (HX.out.trans (Id wr (.cells #[.string (bs gk),.string (bs gl),.string (bs gi),.int .i64 ga,.int .i64 gc',.string (bs gq),.string (bs gp),.string (bs gco),.string (bs gd),.string (bs gr)] 60)));have hsz:=HX4.out.size;have hlow:=iB HO4.out;go_upto_region 6 with fail;go_wp2_with (at_builtin;go_must (refine OE _ rfl (.tmp 21) (.tmp 26) 35 rfl w.heap.size 60 i0 _ 10 144 Pn HI.out hz0 hz1 hz2 rfl (by decide) _ _ _ rfl HO4.out ⟨wr.heap.size,0,none⟩ 1 1 (bj ⟨gk,gl,gi,ga,gc',gq,gp,gco,gd,gr⟩) rfl rfl (M7 (M4 wr _)) (nh _) (by simp only[maxLen];omega) (by omega) hsz ?_);intro v2 w' hown' hgrow hnil;(obtain⟨A3,c3,rfl⟩:=aF hown');clear hnil;(have HO5:=qh hown');(have HX5:=qh (HX4.out.grown hgrow hlow)));have HE5:Hid (gw (gs.take (k+1)) ins=gw (gs.take k) ins++[⟨gk,gl,gi,ga,gc',gq,gp,gco,gd,gr⟩]):=qh HH.out;go_roundw
    case rel=>exact⟨k+1,A3,c3,by omega,by go_num,by rw[HE5.out,Mp];rfl,by unfold lQ;rw[HE5.out,lU,Mp];exact HO5.out,HX5.out⟩
    case measure=>simp[intOf];omega
   ·have HH:=qh (hskip (by simpa using hi));have hbe:(gi == ins)=false:=by rw[Mt];exact hi
    clear hhit hskip hi;have HE5:Hid (gw (gs.take (k+1)) ins=gw (gs.take k) ins):=qh HH.out;go_wp2_with fail;go_roundw
    case rel=>exact⟨k+1,A5,c5,by omega,by go_num,by rw[HE5.out],by rw[HE5.out];exact HO.out,HX.out⟩
    case measure=>simp[intOf];omega
  ·have hke:k=gs.length:=by omega
   subst hke;have hki:¬ ((gs.length:Int)<(gs.length:Int)):=by omega
   rw[MK]at HO;go_wp2_with fail;go_ret;exact⟨A5,c5,rfl,Reads.own HO.out,HX.out⟩
structure FineG (g:GainV):Prop where
 q:g.q.length<=13
 p:g.p.length<=13
 c:g.c.length<=13
 d:g.d.length<=13
 r:g.r.length<=13
 cause:g.cause.length<=24
 lot:g.lot.length<=30
 ins:g.ins.length<=24
theorem FineG.small{g:GainV}(h:FineG g):SmallG g:=⟨by have:=h.cause;omega,by have:=h.lot;omega,by have:=h.ins;omega,by have:=h.q;omega,by have:=h.p;omega,by have:=h.c;omega,by have:=h.d;omega,by have:=h.r;omega⟩
def Gg(gs:List GainV)(w:World)(e:Ending)(w':World):Prop:=(∃b,e = .returned (.bool b)∧(b=false->gs.length<=12∧∀g ∈ gs,FineG g))∧Ext w w'
theorem AX(gs:List GainV)(A:Option Addr)(c:Nat)(w:World)(hA:dM w A gs)(hn:gs.length<=4611686018427387904) :
  Calls prog 36 #[.slice A gs.length c] w (Gg gs w):=by
 have HA:=qh hA;clear hA;go_enter func36,ntmps36;go_wp2_with fail;go_loopw [3] (fun i wr=>∃k:Nat,k<=gs.length∧i = .int .i64 k∧(∀x ∈ gs.take k,FineG x)∧Ext w wr) (fun i _=>gs.length-(intOf i).toNat)
 case atStart=>exact⟨0,by omega,rfl,by simp,iD _⟩
 case round =>
  obtain⟨k,hk,rfl,hz,hx⟩:=hrel;have HZ:=qh hz;have HX:=qh hx;clear hz hx;by_cases hlt:k<gs.length
  ·obtain⟨b,o,rfl,hb,c0,c1,c2,c3,c4,c5,c6,c7,c8,c9⟩:=(HA.out.ext HX.out).at_ hlt;have hki:(k:Int)<(gs.length:Int):=by omega
   have hk0:(0:Int)<=(k:Int):=by omega
   have HT:Hid (FineG (gs[k]'hlt)->∀x ∈ gs.take (k+1),FineG x):=qh (by
    intro hf x hx;rw[Mo hlt]at hx;rcases MN.1 hx with h|h
    ·exact HZ.out x h
    ·rw[Pd.1 h];exact hf)
   generalize (gs[k]'hlt)=x at *;obtain⟨gk,gl,gi,ga,gc',gq,gp,gco,gd,gr⟩:=x;simp only at c0 c1 c2 c3 c4 c5 c6 c7 c8 c9;have BX:=qh (ID wr 60 (dr ⟨gk,gl,gi,ga,gc',gq,gp,gco,gd,gr⟩));replace HX:=qh (HX.out.trans (Id wr (.cells (dr ⟨gk,gl,gi,ga,gc',gq,gp,gco,gd,gr⟩) 60)));go_upto_region 5 with fail;generalize wr.alloc (.cells #[.string (bs gk),.string (bs gl),.string (bs gi),.int .i64 ga,.int .i64 gc',.string (bs gq),.string (bs gp),.string (bs gco),.string (bs gd),.string (bs gr)] 60)=w5 at *;generalize wr.heap.size=X8 at *;obtain⟨g0,g1,g2,g3,g4,g5,g6,g7,g8,g9⟩:=ax BX.out (iD _);clear c0 c1 c2 c3 c4 c5 c6 c7 c8 c9;go_wp2_with fail;refine(ix gq _).mono ?_;rintro e wy⟨hy1,hy2⟩;subst hy1;subst hy2
   cases n1:decide (13<(gq.length:Int));rotate_left
   ·go_wp2_with fail;go_ret;exact⟨⟨true,rfl,fun h=>by cases h⟩,HX.out⟩
   go_wp2_with fail;refine(ix gp _).mono ?_;rintro e wy⟨hy1,hy2⟩;subst hy1;subst hy2
   cases n2:decide (13<(gp.length:Int));rotate_left
   ·go_wp2_with fail;go_ret;exact⟨⟨true,rfl,fun h=>by cases h⟩,HX.out⟩
   go_wp2_with fail;refine(ix gco _).mono ?_;rintro e wy⟨hy1,hy2⟩;subst hy1;subst hy2
   cases n3:decide (13<(gco.length:Int));rotate_left
   ·go_wp2_with fail;go_ret;exact⟨⟨true,rfl,fun h=>by cases h⟩,HX.out⟩
   go_wp2_with fail;refine(ix gd _).mono ?_;rintro e wy⟨hy1,hy2⟩;subst hy1;subst hy2
   cases n4:decide (13<(gd.length:Int));rotate_left
   ·go_wp2_with fail;go_ret;exact⟨⟨true,rfl,fun h=>by cases h⟩,HX.out⟩
   go_wp2_with fail;refine(ix gr _).mono ?_;rintro e wy⟨hy1,hy2⟩;subst hy1;subst hy2
   cases n5:decide (13<(gr.length:Int));rotate_left
   ·go_wp2_with fail;go_ret;exact⟨⟨true,rfl,fun h=>by cases h⟩,HX.out⟩
   cases n6:decide (24<(gk.length:Int));rotate_left
   ·go_wp2_with fail;go_ret;exact⟨⟨true,rfl,fun h=>by cases h⟩,HX.out⟩
   cases n7:decide (30<(gl.length:Int));rotate_left
   ·go_wp2_with fail;go_ret;exact⟨⟨true,rfl,fun h=>by cases h⟩,HX.out⟩
   cases n8:decide (24<(gi.length:Int));rotate_left
   ·go_wp2_with fail;go_ret;exact⟨⟨true,rfl,fun h=>by cases h⟩,HX.out⟩
   have hf:FineG ⟨gk,gl,gi,ga,gc',gq,gp,gco,gd,gr⟩:=by
    rw[Mi]at n1 n2 n3 n4 n5 n6 n7 n8;exact⟨by show gq.length<=13;omega,by show gp.length<=13;omega,by show gco.length<=13;omega,by show gd.length<=13;omega,by show gr.length<=13;omega,by show gk.length<=24;omega,by show gl.length<=30;omega,by show gi.length<=24;omega⟩
   have HU:=qh (HT.out hf);clear hf;go_wp2_with fail;go_roundw
   case rel=>exact⟨k+1,by omega,by go_num,HU.out,HX.out⟩
   case measure=>simp[intOf];omega
  ·have hke:k=gs.length:=by omega
   subst hke;have hki:¬ ((gs.length:Int)<(gs.length:Int)):=by omega
   rw[MK]at HZ
   cases n9:decide (12<(gs.length:Int))
   ·go_wp2_with fail;go_ret;exact⟨⟨false,rfl,fun _=>⟨by rw[Mi]at n9;omega,HZ.out⟩⟩,HX.out⟩
   ·go_wp2_with fail;go_ret;exact⟨⟨true,rfl,fun h=>by cases h⟩,HX.out⟩
theorem AY(hs:List GainV)(A A':Option Addr)(c c':Nat)(w:World)(hA:dM w A hs)(hA':dM w A' hs)(hn:hs.length<=100000) :
  Calls prog 41 #[.slice A hs.length c,.slice A' hs.length c'] w fun e w'=>e = .returned (.bool true)∧Ext w w':=by
 have HA:=qh hA;have HA':=qh hA';clear hA hA';have hbl:((hs.length:Int) != (hs.length:Int))=false:=by simp
 go_enter func41,ntmps41;go_wp2_with fail;go_loopw [5] (fun i wr=>∃k:Nat,k<=hs.length∧i = .int .i64 k∧Ext w wr) (fun i _=>hs.length-(intOf i).toNat)
 case atStart=>exact⟨0,by omega,rfl,iD _⟩
 case round =>
  obtain⟨k,hk,rfl,hx⟩:=hrel;have HX:=qh hx;clear hx;by_cases hlt:k<hs.length
  ·obtain⟨b,o,rfl,hb,c0,c1,c2,c3,c4,c5,c6,c7,c8,c9⟩:=(HA.out.ext HX.out).at_ hlt;obtain⟨b',o',rfl,hb',d0,d1,d2,d3,d4,d5,d6,d7,d8,d9⟩:=(HA'.out.ext HX.out).at_ hlt;generalize (hs[k]'hlt)=h at *;go_wp2_with fail;go_quiet (fail);go_wp2_with fail;go_roundw
   case rel=>exact⟨k+1,by omega,by go_num,HX.out.drewN _⟩
   case measure=>simp[intOf];omega
  ·go_wp2_with fail;go_ret;exact⟨rfl,HX.out⟩
theorem DZ(gs:List GainV)(A:Option Addr)(c:Nat)(fr to_:Int)(w:World)(hA:dM w A gs)(hs:∀g ∈ gs,SmallG g)(hn:gs.length<=100000) :
  Calls prog 40 #[.slice A gs.length c,.agg #[.int .i64 fr,.int .i64 to_]] w (mn gs fr to_ w):=by
 have HC:=qh (fun W (hx:Ext w W)=>qV gs A c W (hA.ext hx) hs hn);have HA:=qh hA;have HV:Hid (kT gs fr to_=if gs.any dS=true then 1 else if(dayOK fr && dayOK to_)=false then 13 else if to_<fr then 8 else 0):=qh rfl;rw[←pU]at HV;obtain⟨i0,hI,hz0,hz1,hz2⟩:=Ny kC;have HI:=qh hI;have HB:=qh (ID w 73 #[.int .i64 fr,.int .i64 to_]);have HX0:Hid (Ext w (w.alloc (.cells #[.int .i64 fr,.int .i64 to_] 73))):=qh (Id _ _);clear hA hs hI;generalize jd gs=z at *;go_enter func40,ntmps40;go_wp2_with fail;refine(HC.out _ HX0.out).mono ?_;rintro e w1⟨rfl,hx1⟩;replace HB:=qh (HB.out.ext hx1);replace HX0:=HX0.qt hx1;clear hx1 HC;generalize hF:w.heap.size=F at *;by_cases hz:z=0;rotate_left
 ·have hz2:(z != 0)=true:=by rw[Nc];exact hz
  have hv:=HV.out;rw[Mq hz2]at hv;have HVV:=qh hv;clear HV hv hz;go_wp2_with fail;go_ret2;exact mY HVV.out (by decide) HX0.out
 subst hz;have hv:=HV.out;rw[Mj (by decide)]at hv;obtain⟨p0,p1⟩:=ki HB.out (iD w1);have KA:=qh (fun W=>kg (oI fr W));have KB:=qh (fun W=>kg (oI to_ W));have ha2:=oJ (d:=fr);have hb2:=oJ (d:=to_);generalize ju fr=ea at *;generalize ju to_=eb at *;have HV2:=qh hv;clear hv HV;generalize dayOK fr=da at *;generalize dayOK to_=db at *;go_wp2_with fail;refine(KA.out _).mono ?_;rintro e w2⟨rfl,hx1⟩;replace HB:=qh (HB.out.ext hx1);replace HX0:=HX0.qt hx1;clear hx1 KA p0 p1;obtain⟨p0,p1⟩:=ki HB.out (iD w2)
 cases da
 ·have hv:=HV2.out;rw[OT,Mq rfl]at hv;have HVV:=qh hv;rw[RV]at ha2;clear HV2 hv;go_wp2_with fail;go_ret2;exact mY HVV.out (by decide) HX0.out
 rw[QP]at ha2;rw[Oq]at HV2;go_wp2_with fail;refine(KB.out _).mono ?_;rintro e w2⟨rfl,hx1⟩;replace HB:=qh (HB.out.ext hx1);replace HX0:=HX0.qt hx1;clear hx1 KB p0 p1;obtain⟨p0,p1⟩:=ki HB.out (iD w2)
 cases db
 ·have hv:=HV2.out;rw[Mq rfl]at hv;have HVV:=qh hv;rw[RV]at hb2;clear HV2 hv;go_wp2_with fail;go_ret2;exact mY HVV.out (by decide) HX0.out
 rw[QP]at hb2;have hv:=HV2.out;rw[Mj (by decide)]at hv;clear HV2;by_cases hd:to_<fr
 ·rw[Mq hd]at hv;have HVV:=qh hv;have hd2:decide (to_<fr)=true:=by simpa using hd
  clear hd hv;go_wp2_with fail;go_ret2;exact mY HVV.out (by decide) HX0.out
 rw[Mj hd]at hv;have HVV:=qh hv;clear hv;have hd2:decide (to_<fr)=false:=by simpa using hd
 clear hd;have HS0:Hid (lQ (w2.alloc (.cells #[] 60)) w2.heap.size (.slice (some ⟨w2.heap.size,0,none⟩) 0 0) []):=qh (World.ownsRow_lit w2 #[] 0 (Mn _) (Om _) rfl);have HXS:Hid (Ext w2 (w2.alloc (.cells #[] 60))):=qh (Id _ _);go_wp2_with fail;clear p0 p1;go_loopw [7,6] (fun i v wr=>∃k A5 c5,k<=gs.length∧i = .int .i64 (k:Nat)∧v = .slice A5 ((gs.take k).filter (jc fr to_)).length c5∧lQ wr w2.heap.size v ((gs.take k).filter (jc fr to_))∧Ext w2 wr) (fun i _ _=>gs.length-(intOf i).toNat)
 case atStart=>exact⟨0,_,_,by omega,rfl,rfl,HS0.out,HXS.out⟩
 case round =>
  obtain⟨k,A5,c5,hk,rfl,rfl,ho,hx⟩:=hrel;have HX:=qh hx;have HO:=qh ho;clear hx ho HS0 HXS;by_cases hlt:k<gs.length
  ·obtain⟨b,o,rfl,hb,d0,d1,d2,d3,d4,d5,d6,d7,d8,d9⟩:=(HA.out.ext (HX0.out.trans HX.out)).at_ hlt;have hki:(k:Int)<(gs.length:Int):=by omega
   have hk0:(0:Int)<=(k:Int):=by omega
   have hhit:=fun h=>jA (p:=jc fr to_) hlt h
   have hskip:=fun h=>jb (p:=jc fr to_) hlt h
   have hkl:((gs.take k).filter (jc fr to_)).length<=100000:=by
    have h1:((gs.take k).filter (jc fr to_)).length<=(gs.take k).length:=M8 _ _;rw[Mu]at h1;omega
   generalize (gs[k]'hlt)=x at *;obtain⟨gk,gl,gi,ga,gc',gq,gp,gco,gd,gr⟩:=x;simp only at d0 d1 d2 d3 d4 d5 d6 d7 d8 d9 hhit hskip;have hin:jc fr to_ ⟨gk,gl,gi,ga,gc',gq,gp,gco,gd,gr⟩=(decide (fr<=gc') && decide (gc'<to_)):=rfl;have HB3:=qh (HB.out.ext HX.out);obtain⟨p0,p1⟩:=ki HB3.out (iD _);by_cases h1:fr<=gc'
   ·have e1:decide (fr<=gc')=true:=by simpa using h1
    by_cases h2:gc'<to_
    ·have e2:decide (gc'<to_)=true:=by simpa using h2
     go_upto_region 11 with fail;go_quiet (fail);have HQ:Hid (Ext wr (wr.drewN nq)):=qh ((iD wr).drewN nq);have HOq:=qh (own_ext2 HO.out HQ.out);have HXq:=qh (HX.out.trans HQ.out);have HH:=qh (hhit (by rw[hin,e1,e2];rfl));clear hhit hskip hin h1 h2;have HO4:=qh (own_ext2 HOq.out (Id (wr.drewN nq) (.cells #[.string (bs gk),.string (bs gl),.string (bs gi),.int .i64 ga,.int .i64 gc',.string (bs gq),.string (bs gp),.string (bs gco),.string (bs gd),.string (bs gr)] 60)));have HX4:=qh (HXq.out.trans (Id (wr.drewN nq) (.cells #[.string (bs gk),.string (bs gl),.string (bs gi),.int .i64 ga,.int .i64 gc',.string (bs gq),.string (bs gp),.string (bs gco),.string (bs gd),.string (bs gr)] 60)));have hsz:=HX4.out.size;have hlow:=iB HO4.out;go_upto_region 12 with fail;go_wp2_with (at_builtin;go_must (refine OE _ rfl (.tmp 51) (.tmp 56) 35 rfl w2.heap.size 60 i0 _ 10 144 Pn HI.out hz0 hz1 hz2 rfl (by decide) _ _ _ rfl HO4.out ⟨(wr.drewN nq).heap.size,0,none⟩ 1 1 (bj ⟨gk,gl,gi,ga,gc',gq,gp,gco,gd,gr⟩) rfl rfl (M7 (M4 (wr.drewN nq) _)) (nh _) (by simp only[maxLen];omega) (by omega) hsz ?_);intro v2 w' hown' hgrow hnil;(obtain⟨A3,c3,rfl⟩:=aF hown');clear hnil;(have HO5:=qh hown');(have HX5:=qh (HX4.out.grown hgrow hlow)));go_roundw
     case rel=>exact⟨k+1,A3,c3,by omega,by go_num,by rw[HH.out,Mp];rfl,by unfold lQ;rw[HH.out,lU,Mp];exact HO5.out,HX5.out⟩
     case measure=>simp[intOf];omega
    ·have e2:decide (gc'<to_)=false:=by simpa using h2
     have HH:=qh (hskip (by rw[hin,e1,e2];rfl));clear hhit hskip hin h1 h2;go_upto_region 11 with fail;go_quiet (fail);go_wp2_with fail;go_roundw
     case rel=>exact⟨k+1,A5,c5,by omega,by go_num,by rw[HH.out],by rw[HH.out];exact own_ext2 HO.out ((iD wr).drewN _),HX.out.drewN _⟩
     case measure=>simp[intOf];omega
   ·have e1:decide (fr<=gc')=false:=by simpa using h1
    have HH:=qh (hskip (by rw[hin,e1];rfl));clear hhit hskip hin h1;go_upto_region 11 with fail;go_quiet (fail);go_wp2_with fail;go_roundw
    case rel=>exact⟨k+1,A5,c5,by omega,by go_num,by rw[HH.out],by rw[HH.out];exact own_ext2 HO.out ((iD wr).drewN _),HX.out.drewN _⟩
    case measure=>simp[intOf];omega
  ·have hke:k=gs.length:=by omega
   subst hke;have hki:¬ ((gs.length:Int)<(gs.length:Int)):=by omega
   rw[MK]at HO;go_wp2_with fail;go_ret2;exact EC HVV.out (Reads.own HO.out) (HX0.out.trans HX.out)
def nP(gs:List GainV)(fr to_:Int):List GainV:=if kT gs fr to_=0 then gs.filter (jc fr to_) else []
theorem AZ{w:World}{e:Ending}(h:mn gs fr to_ w e w'):(∃A c,e = .returned (.tuple #[.slice A (nP gs fr to_).length c,.int .i64 (kT gs fr to_)])∧dM w' A (nP gs fr to_))∧Ext w w':=by
 obtain⟨h1,h2,h3⟩:=h;refine⟨?_,h3⟩;unfold nP;by_cases hz:kT gs fr to_=0
 ·rw[Mq hz,hz];exact h2 hz
 ·rw[Mj hz];exact⟨none,0,h1 hz,Reads.nil⟩
theorem D0(gs:List GainV)(fr to_:Int):(nP gs fr to_).length<=gs.length:=by
 unfold nP;split
 ·exact M8 _ _
 ·simp
theorem D3(g:GainV):∃ra re,lu g = .tuple #[.string (bs ra),.int .i64 re]:=by
 unfold lu;split
 ·exact⟨[],1,rfl⟩
 ·exact⟨_,_,rfl⟩
theorem Gh(gs:List GainV):∃ta tb tc te,nO gs = .tuple #[.string (bs ta),.string (bs tb),.string (bs tc),.int .i64 te]:=by
 unfold nO;split
 ·exact⟨[],[],[],1,rfl⟩
 ·exact⟨_,_,_,_,rfl⟩
theorem D4(gs:List GainV)(A:Option Addr)(c:Nat)(fr to_:Int)(ins:Bs)(w:World)(hE:Env w)(hA:dM w A gs)(hn:gs.length<=4611686018427387904) :
  Calls prog 8 #[.slice A gs.length c,.agg #[.int .i64 fr,.int .i64 to_],.string (bs ins)] w fun e w'=>e = .returned (.bool true)∧Ext w w':=by
 have HE:=qh hE;have HA:=qh hA;have GR:=qh (fun W (hx:Ext w W)=>AX gs A c W (hA.ext hx) hn);have HP:=qh (ID w 73 #[.int .i64 fr,.int .i64 to_]);have HX:Hid (Ext w (w.alloc (.cells #[.int .i64 fr,.int .i64 to_] 73))):=qh (Id _ _);clear hE hA hn;go_enter func8,ntmps8;go_upto_region 1 with fail;generalize w.alloc (.cells #[.int .i64 fr,.int .i64 to_] 73)=w0 at *;generalize hX0:w.heap.size=X at *;go_wp2_with fail;refine(GR.out _ HX.out).mono ?_;rintro e w1⟨⟨b,rfl,hb⟩,hx1⟩;replace HX:=HX.qt hx1;replace HP:=qh (HP.out.ext hx1);clear hx1 GR
 cases b;rotate_left
 ·clear hb;go_wp2_with fail;refine(mj _ (HE.out.ext HX.out)).mono ?_;rintro e v9⟨rfl,hx1⟩;replace HX:=HX.qt hx1;clear hx1;go_wp2_with fail;go_ret;exact⟨rfl,HX.out⟩
 obtain⟨hl12,hfine⟩:=hb rfl;have hsm:∀g ∈ gs,SmallG g:=fun g hg=>(hfine g hg).small
 have CT:=qh (fun W (hx:Ext w W)=>Gd gs A c W (HE.out.ext hx) (HA.out.ext hx) hsm (by omega));have DT:=qh (fun W (hx:Ext w W)=>Gf gs A c W (HA.out.ext hx) hsm (by omega));have CO:=qh (fun W (hx:Ext w W)=>L0 gs A c ins W (HA.out.ext hx) (by omega));have DO:=qh (fun W (hx:Ext w W)=>L4 gs A c ins W (HA.out.ext hx) (by omega));have CD:=qh (fun W (hx:Ext w W)=>DY gs A c fr to_ W (HE.out.ext hx) (HA.out.ext hx) hsm (by omega));have DD:=qh (fun W (hx:Ext w W)=>DZ gs A c fr to_ W (HA.out.ext hx) hsm (by omega));have CR:=qh (fun g hg W (hx:Ext w W)=>I0 g (hsm g hg) W (HE.out.ext hx));have DR:=qh (fun g hg W=>I1 g (hsm g hg) W);have CC:=qh (fun g hg W (hx:Ext w W)=>oG g (hsm g hg) W (HE.out.ext hx));have DC:=qh (fun g hg W=>sj g (hsm g hg) W)
 have HOL:Hid ((gw gs ins).length<=100000):=qh (by
  have h1:(gw gs ins).length<=gs.length:=M8 _ _;omega)
 have HDL:Hid ((nP gs fr to_).length<=100000):=qh (by have:=D0 gs fr to_;omega);clear hb hfine hsm;obtain⟨ta,tb,tc,te,htv⟩:=Gh gs;rw[htv]at CT DT;clear htv;go_wp2_with fail;refine(CT.out _ HX.out).mono ?_;rintro e w2⟨rfl,hx1⟩;replace HX:=HX.qt hx1;replace HP:=qh (HP.out.ext hx1);clear hx1 CT;go_wp2_with fail;refine(DT.out _ HX.out).mono ?_;rintro e w2⟨rfl,hx1⟩;replace HX:=HX.qt hx1;replace HP:=qh (HP.out.ext hx1);clear hx1 DT;obtain⟨p0,p1⟩:=ki HP.out (iD _);go_wp2_with fail;refine(CD.out _ HX.out).mono ?_;intro e w2 hd;obtain⟨⟨A1,c1,rfl,hr1⟩,hx1⟩:=AZ hd;replace HX:=HX.qt hx1;replace HP:=qh (HP.out.ext hx1);have R1:=qh hr1;clear hx1 CD p0 p1 hd hr1;obtain⟨p0,p1⟩:=ki HP.out (iD _);go_wp2_with fail;refine(DD.out _ HX.out).mono ?_;intro e w2 hd;obtain⟨⟨A2,c2,rfl,hr1⟩,hx1⟩:=AZ hd;replace HX:=HX.qt hx1;replace HP:=qh (HP.out.ext hx1);replace R1:=qh (R1.out.ext hx1);have R2:=qh hr1;clear hx1 DD p0 p1 hd hr1;have CS:=qh (AY (nP gs fr to_) A1 A2 c1 c2 w2 R1.out R2.out HDL.out);generalize (nP gs fr to_).length=dl at *;generalize kT gs fr to_=de at *;have s1:(ta == ta)=true:=by simp
 have s2:(tb == tb)=true:=by simp
 have s3:(tc == tc)=true:=by simp
 have s4:(ta != ta)=false:=by simp
 have s5:(tb != tb)=false:=by simp
 have s6:(tc != tc)=false:=by simp
 go_wp2_with fail;refine CS.out.mono ?_;rintro e w3⟨rfl,hx1⟩;replace HX:=HX.qt hx1;replace HP:=qh (HP.out.ext hx1);clear hx1 CS R1 R2;go_wp2_with fail;refine(CO.out _ HX.out).mono ?_;rintro e w4⟨A3,c3,rfl,hr1,hx1⟩;replace HX:=HX.qt hx1;replace HP:=qh (HP.out.ext hx1);have R1:=qh hr1;clear hx1 CO hr1;go_wp2_with fail;refine(DO.out _ HX.out).mono ?_;rintro e w5⟨A4,c4,rfl,hr1,hx1⟩;replace HX:=HX.qt hx1;replace HP:=qh (HP.out.ext hx1);replace R1:=qh (R1.out.ext hx1);have R2:=qh hr1;clear hx1 DO hr1;have CS:=qh (AY (gw gs ins) A3 A4 c3 c4 w5 R1.out R2.out HOL.out);generalize (gw gs ins).length=ol at *;go_wp2_with fail;refine CS.out.mono ?_;rintro e w6⟨rfl,hx1⟩;replace HX:=HX.qt hx1;replace HP:=qh (HP.out.ext hx1);clear hx1 CS R1 R2;go_wp2_with fail;clear s1 s2 s3 s4 s5 s6 HP;go_loopw [95] (fun i wr=>∃k:Nat,k<=gs.length∧i = .int .i64 k∧Ext w wr) (fun i _=>gs.length-(intOf i).toNat)
 case atStart=>exact⟨0,by omega,rfl,HX.out⟩
 case round =>
  obtain⟨k,hk,rfl,hx⟩:=hrel;replace HX:=qh hx;clear hx;by_cases hlt:k<gs.length
  ·obtain⟨b,o,rfl,hb,c0,c1,c2,c3,c4,c5,c6,c7,c8,c9⟩:=(HA.out.ext HX.out).at_ hlt;have hki:(k:Int)<(gs.length:Int):=by omega
   have hk0:(0:Int)<=(k:Int):=by omega
   have hm:=Ml hlt;have K1:=qh (CR.out _ hm);have K2:=qh (DR.out _ hm);have K3:=qh (CC.out _ hm);have K4:=qh (DC.out _ hm);obtain⟨ra,re,hrv⟩:=D3 (gs[k]'hlt);rw[hrv]at K1 K2;clear hm hrv;generalize aR (gs[k]'hlt)=ck at *;generalize (gs[k]'hlt)=x at *;obtain⟨gk,gl,gi,ga,gc',gq,gp,gco,gd,gr⟩:=x;simp only at c0 c1 c2 c3 c4 c5 c6 c7 c8 c9;have BX:=qh (ID wr 60 (dr ⟨gk,gl,gi,ga,gc',gq,gp,gco,gd,gr⟩));replace HX:=qh (HX.out.trans (Id wr (.cells (dr ⟨gk,gl,gi,ga,gc',gq,gp,gco,gd,gr⟩) 60)));go_upto_region 12 with fail;generalize wr.alloc (.cells #[.string (bs gk),.string (bs gl),.string (bs gi),.int .i64 ga,.int .i64 gc',.string (bs gq),.string (bs gp),.string (bs gco),.string (bs gd),.string (bs gr)] 60)=w5 at *;generalize wr.heap.size=G at *;clear c0 c1 c2 c3 c4 c5 c6 c7 c8 c9;obtain⟨g0,g1,g2,g3,g4,g5,g6,g7,g8,g9⟩:=ax BX.out (iD _);go_wp2_with fail;refine(K1.out _ HX.out).mono ?_;rintro e w7⟨rfl,hx1⟩;replace HX:=HX.qt hx1;replace BX:=qh (BX.out.ext hx1);clear hx1 K1 g0 g1 g2 g3 g4 g5 g6 g7 g8 g9;obtain⟨g0,g1,g2,g3,g4,g5,g6,g7,g8,g9⟩:=ax BX.out (iD _);go_wp2_with fail;refine(K2.out _).mono ?_;rintro e w8⟨rfl,hx1⟩;replace HX:=HX.qt hx1;replace BX:=qh (BX.out.ext hx1);clear hx1 K2 g0 g1 g2 g3 g4 g5 g6 g7 g8 g9;obtain⟨g0,g1,g2,g3,g4,g5,g6,g7,g8,g9⟩:=ax BX.out (iD _);have s1:(ra == ra)=true:=by simp
   have s4:(ra != ra)=false:=by simp
   have s5:(re == re)=true:=by simp
   have s6:(re != re)=false:=by simp
   have s7:(ck == ck)=true:=by simp
   have s8:(ck != ck)=false:=by simp
   go_upto_region 14 with fail;have HD:Hid (Ext w8 w8.drew):=qh (iD w8).drew
   go_region_held3 (fun w'=>w'.cell? ⟨G,0,none⟩=some (.string (bs gk))∧w'.cell? ⟨G,1,none⟩=some (.string (bs gl))∧w'.cell? ⟨G,2,none⟩=some (.string (bs gi))∧w'.cell? ⟨G,3,none⟩=some (.int .i64 ga)∧w'.cell? ⟨G,4,none⟩=some (.int .i64 gc')∧w'.cell? ⟨G,5,none⟩=some (.string (bs gq))∧w'.cell? ⟨G,6,none⟩=some (.string (bs gp))∧w'.cell? ⟨G,7,none⟩=some (.string (bs gco))∧w'.cell? ⟨G,8,none⟩=some (.string (bs gd))∧w'.cell? ⟨G,9,none⟩=some (.string (bs gr)))
    (go_keep)
    (first
     |(go_at_call 35;((with_reducible refine(K3.out _ (HX.out.trans HD.out)).mono ?_);rintro e w9⟨rfl,hx⟩);(replace HD:=HD.qt hx);(obtain⟨g0,g1,g2,g3,g4,g5,g6,g7,g8,g9⟩:=ax BX.out HD.out);clear hx)
     |(go_at_call 46;((with_reducible refine(K4.out _).mono ?_);rintro e w9⟨rfl,hx⟩);(replace HD:=HD.qt hx);(obtain⟨g0,g1,g2,g3,g4,g5,g6,g7,g8,g9⟩:=ax BX.out HD.out);clear hx)
     |fail)
   all_goals
    go_wp2_with fail;exact⟨⟨k+1,by omega,by go_num,HX.out.trans HD.out⟩,by simp[intOf];omega⟩
  ·have hke:k=gs.length:=by omega
   subst hke;have hki:¬ ((gs.length:Int)<(gs.length:Int)):=by omega
   go_wp2_with fail;refine(mj _ (HE.out.ext HX.out)).mono ?_;rintro e v9⟨rfl,hx1⟩;replace HX:=HX.qt hx1;clear hx1;go_wp2_with fail;go_ret;exact⟨rfl,HX.out⟩
end
section
open Go.ChangeShapes Go.WideShapes Go.ChangeAt Go.RowKit Go.Deep Go.Joins
section
variable {P:Program} {w:World} {base:Nat} {spare:Nat->Bool} {held:Bool} {H:Type} {enc:TypeId × Value->H}
theorem A6{t t0 t1 t2 t3 t4 t5 t6 t7 t8 t9:TypeId}{n:Nat}{cs:List Value}{y:DataW H × List MemPlace}{f0 f1 f2 f3 f4 f5 f6 f7 f8 f9:Field}(hs:P.underlying t=some (.struct #[f0,f1,f2,f3,f4,f5,f6,f7,f8,f9]))(hone:oneCellFields P #[f0,f1,f2,f3,f4,f5,f6,f7,f8,f9]=true)(hC:P.cellsOf t=10)
  (h0:f0.type=t0) (h1:f1.type=t1) (h2:f2.type=t2) (h3:f3.type=t3) (h4:f4.type=t4) (h5:f5.type=t5) (h6:f6.type=t6) (h7:f7.type=t7) (h8:f8.type=t8) (h9:f9.type=t9)
  (u0:P.underlying t0=some .string) (u1:P.underlying t1=some .string) (u2:P.underlying t2=some .string) (u3:P.underlying t3=some (.int .i64)) (u4:P.underlying t4=some (.int .i64)) (u5:P.underlying t5=some .string) (u6:P.underlying t6=some .string) (u7:P.underlying t7=some .string) (u8:P.underlying t8=some .string) (u9:P.underlying t9=some .string) (h:DataW.trod enc P w base spare held n t cs=some y) :
  ∃a:GainV,cs=bj a:=by
 obtain⟨xs,n,_,_,hlen,hl,hg⟩:=PF hs h;rw[hC]at hlen;obtain⟨o0,k0⟩:=hone_of hone 0 f0 rfl;obtain⟨o1,k1⟩:=hone_of hone 1 f1 rfl;obtain⟨o2,k2⟩:=hone_of hone 2 f2 rfl;obtain⟨o3,k3⟩:=hone_of hone 3 f3 rfl;obtain⟨o4,k4⟩:=hone_of hone 4 f4 rfl;obtain⟨o5,k5⟩:=hone_of hone 5 f5 rfl;obtain⟨o6,k6⟩:=hone_of hone 6 f6 rfl;obtain⟨o7,k7⟩:=hone_of hone 7 f7 rfl;obtain⟨o8,k8⟩:=hone_of hone 8 f8 rfl;obtain⟨o9,k9⟩:=hone_of hone 9 f9 rfl;match cs,hlen,xs,hl with
 |[c0,c1,c2,c3,c4,c5,c6,c7,c8,c9],_,[y0,y1,y2,y3,y4,y5,y6,y7,y8,y9],_ =>
  have g0:=hg 0 f0 rfl;rw[o0,k0,h0]at g0;have g1:=hg 1 f1 rfl;rw[o1,k1,h1]at g1;have g2:=hg 2 f2 rfl;rw[o2,k2,h2]at g2;have g3:=hg 3 f3 rfl;rw[o3,k3,h3]at g3;have g4:=hg 4 f4 rfl;rw[o4,k4,h4]at g4;have g5:=hg 5 f5 rfl;rw[o5,k5,h5]at g5;have g6:=hg 6 f6 rfl;rw[o6,k6,h6]at g6;have g7:=hg 7 f7 rfl;rw[o7,k7,h7]at g7;have g8:=hg 8 f8 rfl;rw[o8,k8,h8]at g8;have g9:=hg 9 f9 rfl;rw[o9,k9,h9]at g9;obtain⟨s0,e0,_⟩:=MX u0 (x:=y0) (by simpa using g0);obtain⟨s1,e1,_⟩:=MX u1 (x:=y1) (by simpa using g1);obtain⟨s2,e2,_⟩:=MX u2 (x:=y2) (by simpa using g2);obtain⟨s3,e3,_⟩:=Pm u3 (x:=y3) (by simpa using g3);obtain⟨s4,e4,_⟩:=Pm u4 (x:=y4) (by simpa using g4);obtain⟨s5,e5,_⟩:=MX u5 (x:=y5) (by simpa using g5);obtain⟨s6,e6,_⟩:=MX u6 (x:=y6) (by simpa using g6);obtain⟨s7,e7,_⟩:=MX u7 (x:=y7) (by simpa using g7);obtain⟨s8,e8,_⟩:=MX u8 (x:=y8) (by simpa using g8);obtain⟨s9,e9,_⟩:=MX u9 (x:=y9) (by simpa using g9);simp at e0 e1 e2 e3 e4 e5 e6 e7 e8 e9;subst e0;subst e1;subst e2;subst e3;subst e4;subst e5;subst e6;subst e7;subst e8;subst e9;exact⟨⟨L s0,L s1,L s2,s3,s4,L s5,L s6,L s7,L s8,L s9⟩,by simp[bj,bs_L]⟩
theorem D5{t t0 t1:TypeId}{n:Nat}{cs:List Value}{y:DataW H × List MemPlace}{f0 f1:Field}(hs:P.underlying t=some (.struct #[f0,f1]))(hone:oneCellFields P #[f0,f1]=true)(hC:P.cellsOf t=2)
  (h0:f0.type=t0) (h1:f1.type=t1)
  (u0:P.underlying t0=some (.int .i64)) (u1:P.underlying t1=some (.int .i64)) (h:DataW.trod enc P w base spare held n t cs=some y) :
  ∃a b:Int,cs=[.int .i64 a,.int .i64 b]:=by
 obtain⟨xs,n,_,_,hlen,hl,hg⟩:=PF hs h;rw[hC]at hlen;obtain⟨o0,k0⟩:=hone_of hone 0 f0 rfl;obtain⟨o1,k1⟩:=hone_of hone 1 f1 rfl;match cs,hlen,xs,hl with
 |[c0,c1],_,[y0,y1],_ =>
  have g0:=hg 0 f0 rfl;rw[o0,k0,h0]at g0;have g1:=hg 1 f1 rfl;rw[o1,k1,h1]at g1;obtain⟨s0,e0,_⟩:=Pm u0 (x:=y0) (by simpa using g0);obtain⟨s1,e1,_⟩:=Pm u1 (x:=y1) (by simpa using g1);simp at e0 e1;subst e0;subst e1;exact⟨s0,s1,rfl⟩
end
instance:Inhabited GainV:=⟨⟨[],[],[],0,0,[],[],[],[],[]⟩⟩
theorem open_gains{H:Type}{enc:TypeId × Value->H}{r:Reach}{base:Nat}{spare:Nat->Bool}{held:Bool}{v:Value}{d:DataW H}{p:List MemPlace}(hv:Value.okWide prog W r b0 35 v)(h:DataW.Trod enc prog W base spare held 35 v d p)
  (hw:(d.weights prog 35).all (·<=reachBytes)=true) :
  ∃(gs:List GainV) (A:Option Addr) (c:Nat),v = .slice A gs.length c∧dM W A gs∧gs.length<=c∧gs.length<=4611686018427387904:=by
 obtain⟨a,n,c,rfl⟩:=okWide_slice Pn hv;obtain⟨fuel,hf⟩:=h;obtain⟨A,c',gs,e,hr,hlc,hx⟩:=ln (α:=GainV) bj 10 (by decide) lD Pn (by kernel_rfl) (fun n cs y hy=>A6 underlying60 (by kernel_rfl) (by kernel_rfl) rfl rfl rfl rfl rfl rfl rfl rfl rfl rfl Nd Nd Nd PG PG NG NG NG NG NG hy) hf;simp only[Value.cells,OX,Qx]at e;rw[e];exact⟨gs,A,c',rfl,hr,hlc,ke Pn (by rw[show prog.bytesOf 60=144 by kernel_rfl];decide) hw hx⟩
theorem open_per1{H:Type}{enc:TypeId × Value->H}{r:Reach}{base:Nat}{spare:Nat->Bool}{held:Bool}{v:Value}{d:DataW H}{p:List MemPlace}(hv:Value.okWide prog W r b0 73 v)(h:DataW.Trod enc prog W base spare held 73 v d p) :
  ∃a b:Int,v = .agg #[.int .i64 a,.int .i64 b]:=by
 obtain⟨cs,rfl,_⟩:=okWide_struct underlying73 hv;obtain⟨fuel,hf⟩:=h;obtain⟨a,b,e⟩:=D5 underlying73 (by kernel_rfl) (by kernel_rfl) rfl rfl PG PG hf;refine⟨a,b,?_⟩;simp only[Value.cells]at e;rw[←Array.toList_inj.1 (e.trans (by simp:[Value.int .i64 a,.int .i64 b]=#[Value.int .i64 a,.int .i64 b].toList))]
end
section
open Go.RowKit Go.Shelf
theorem dlSums(gs:List GainV)(A:Option Addr)(c:Nat)(fr to_:Int)(ins:Bs)(W:World)(hR:dM W A gs)(_:gs.length<=c)(hn:gs.length<=4611686018427387904)(hE:Env W) :
  Calls prog 8 #[.slice A gs.length c,.agg #[.int .i64 fr,.int .i64 to_],.string (bs ins)] W fun e w'=>e = .returned (.bool true)∧Ext W w' :=
 D4 gs A c fr to_ ins W hE hR hn
end
end Go.Proofs.YtaegjkllenlfpaaGreatDoor
