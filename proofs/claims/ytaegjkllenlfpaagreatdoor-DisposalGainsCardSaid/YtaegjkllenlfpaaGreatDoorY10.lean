/- The seat's texts, part Y10. -/
import Derived.Test.YtaegjkllenlfpaaGreatDoorY9
import Derived.Laws.EntriesVeiled
set_option maxRecDepth 100000
set_option maxHeartbeats 8000000
namespace Go.Proofs.YtaegjkllenlfpaaGreatDoor
open Tryz
variable {z d:Int}{g k:Nat}
section
open Go.RowKit
attribute [local go_sem] size_bs toList_bs
abbrev fv(f:Fr):Value := .agg #[.string (bs f.num),.string (bs f.den)]
def dn(f:Fr):Bs:=if valI f.den=0 then [49] else f.den
theorem eN(f:Fr):valI (dn f)=oP f:=by unfold dn oP;split;exact ji;rfl
theorem lW(f:Fr){L:Nat}(h:f.den.length<=L)(h1:1<=L):(dn f).length<=L:=by unfold dn;split;exact h1;exact h
theorem eR{l:Bs}(h:z.natAbs<=(valI l).natAbs){L:Nat}(hl:l.length<=L):(ofI z).length<=L+1:=bz (NY h (aG hl))
theorem ef{fn:Func}{a:Tmp}(h:fn.results=#[.cell a 26])(tmps:Array Value)(w:World)(g:Nat)(x y:Value)(ha:tmps.getD a undef = .pointer (some ⟨g,0,none⟩))(hb:Blk w g 26 #[x,y]) :
  (results fn tmps).run prog w = .ok (.agg #[x,y]) w:=by
 have h0:=hb.cell 0;have h1:=hb.cell 1;simp only[Mk,Mm,Ms]at h0 h1;unfold results;rw[h];simp only[Ob,OG,OO,ha];go_simp
theorem oU{fn:Func}{a b:Tmp}(h:fn.results=#[.cell a 26,.tmp b])(tmps:Array Value)(w:World)(g:Nat)(x y z:Value)(ha:tmps.getD a undef = .pointer (some ⟨g,0,none⟩))(hz:tmps.getD b undef=z)(hb:Blk w g 26 #[x,y]) :
  (results fn tmps).run prog w = .ok (.tuple #[.agg #[x,y],z]) w:=by
 have h0:=hb.cell 0;have h1:=hb.cell 1;simp only[Mk,Mm,Ms]at h0 h1;unfold results;rw[h];simp only[Ob,OG,OO,ha,hz];go_simp
theorem aB{w w':World}{x y:Value}(h:Blk w g 26 #[x,y])(hx:Ext w w'):w'.cell? ⟨g,0,none⟩=some x∧w'.cell? ⟨g,1,none⟩=some y∧w'.frozen? ⟨g,0,none⟩=false∧w'.frozen? ⟨g,1,none⟩=false:=by
 have k:=h.ext hx;have h0:=k.cell 0;have h1:=k.cell 1;simp only[Mk,Mm,Ms]at h0 h1;exact⟨h0,h1,k.frozen 0,k.frozen 1⟩
theorem GK{n:Int}(hd:d≠0):(d<0->fE (-n) (Int.gcd (-n) (-d):Nat)=ky n d∧fE (-d) (Int.gcd (-n) (-d):Nat)=iI n d)∧(¬ d<0->fE n (Int.gcd n d:Nat)=ky n d∧fE d (Int.gcd n d:Nat)=iI n d):=by
 have hg:=wn (n:=n) hd;constructor
 ·intro h;rw[Int.neg_gcd,Int.gcd_neg,gV (by omega),gV (by omega)];unfold ky iI;rw[Mq h];refine⟨rfl,?_⟩;rw[show -d=(d.natAbs:Int) by omega];rfl
 ·intro h;rw[gV (by omega),gV (by omega)];unfold ky iI;rw[Mj h];refine⟨rfl,?_⟩;have e:d=(d.natAbs:Int):=by omega
  generalize Int.gcd n d=g at *;rw[e];simp
theorem xF{n:Int}(hd:d≠0):(Int.gcd n d)<=d.natAbs:=Int.gcd_le_natAbs_right n hd
theorem oV(n d:Bs)(hn:n.length<=90000)(hd:d.length<=90000)(h0:valI d≠0) :
  bJ 261 #[.string (bs n),.string (bs d)] (.tuple #[.string (bs (ofI (ky (valI n) (valI d)))),.string (bs (ofI (iI (valI n) (valI d))))]):=by
 intro w hE;have HE:=qh hE;have HC:=qh (gK d (by omega));have hr:=GK (n:=valI n) h0;have hgp:=wn (n:=valI n) h0;have hgle:=xF (n:=valI n) h0;have hgl:(ofI (Int.gcd (valI n) (valI d):Nat)).length<=90001:=eR (l:=d) (by rw[NL];exact hgle) hd;by_cases hneg:valI d<0
 focus
  have hb:decide (cmpI (valI d) 0<0)=true:=by rw[MA,cmpI];rw[Mq hneg];omega
  have HN1:=qh (xD n (by omega));have HN2:=qh (xD d (by omega));have hl1:(ofI (-(valI n))).length<=90001:=eR (l:=n) (by omega) hn;have hl2:(ofI (-(valI d))).length<=90001:=eR (l:=d) (by omega) hd;have HG:=qh (GJ (ofI (-(valI n))) (ofI (-(valI d))) (by omega) (by omega));rw[valI_ofI,valI_ofI]at HG;have hge:Int.gcd (-(valI n)) (-(valI d))=Int.gcd (valI n) (valI d):=by rw[Int.neg_gcd,Int.gcd_neg]
  have HD1:=qh (pu (ofI (-(valI n))) (ofI (Int.gcd (-(valI n)) (-(valI d)):Nat)) (by omega) (by rw[hge];omega) (by rw[valI_ofI,hge];omega));have HD2:=qh (pu (ofI (-(valI d))) (ofI (Int.gcd (-(valI n)) (-(valI d)):Nat)) (by omega) (by rw[hge];omega) (by rw[valI_ofI,hge];omega));rw[valI_ofI,valI_ofI]at HD1 HD2;rw[(hr.1 hneg).1]at HD1;rw[(hr.1 hneg).2]at HD2;clear hr hgp hgle hgl hl1 hl2 hge hE;generalize ky (valI n) (valI d)=rn at *;generalize iI (valI n) (valI d)=rd at *;generalize gU (-(valI n)) _=m1 at *;generalize gU (-(valI d)) _=m2 at *;generalize ofI (Int.gcd (-(valI n)) (-(valI d)):Nat)=gs at *;generalize ofI (-(valI n))=nn at *;generalize ofI (-(valI d))=dd at *;generalize cmpI (valI d) 0=cc at *;clear h0 hneg hn hd;go_enter func261,ntmps261;go_wp2_with fail;refine(HC.out _ HE.out).mono ?_;rintro e w1⟨rfl,hx1⟩;have HX:=qh hx1;clear hx1;go_wp2_with fail;refine(HN1.out _ (HE.out.ext HX.out)).mono ?_;rintro e w2⟨rfl,hx2⟩;replace HX:=HX.qt hx2;clear hx2;go_wp2_with fail;refine(HN2.out _ (HE.out.ext HX.out)).mono ?_;rintro e w3⟨rfl,hx2⟩;replace HX:=HX.qt hx2;clear hx2
 rotate_left
 focus
  have hb:decide (cmpI (valI d) 0<0)=false:=by rw[Mi,cX];omega
  have HG:=qh (GJ n d (by omega) (by omega));have HD1:=qh (pu n (ofI (Int.gcd (valI n) (valI d):Nat)) (by omega) (by omega) (by rw[valI_ofI];omega));have HD2:=qh (pu d (ofI (Int.gcd (valI n) (valI d):Nat)) (by omega) (by omega) (by rw[valI_ofI];omega));rw[valI_ofI]at HD1 HD2;rw[(hr.2 hneg).1]at HD1;rw[(hr.2 hneg).2]at HD2;clear hr hgp hgle hgl hE;generalize ky (valI n) (valI d)=rn at *;generalize iI (valI n) (valI d)=rd at *;generalize gU (valI n) _=m1 at *;generalize gU (valI d) _=m2 at *;generalize ofI (Int.gcd (valI n) (valI d):Nat)=gs at *;generalize cmpI (valI d) 0=cc at *;clear h0 hneg hn hd;go_enter func261,ntmps261;go_wp2_with fail;refine(HC.out _ HE.out).mono ?_;rintro e w1⟨rfl,hx1⟩;have HX:=qh hx1;clear hx1
 all_goals
  go_wp2_with fail;refine(HG.out _ (HE.out.ext HX.out)).mono ?_;rintro e w4⟨rfl,hx2⟩;replace HX:=HX.qt hx2;clear hx2;go_wp2_with fail;refine(HD1.out _ (HE.out.ext HX.out)).mono ?_;rintro e w5⟨rfl,hx2⟩;replace HX:=HX.qt hx2;clear hx2;go_wp2_with fail;refine(HD2.out _ (HE.out.ext HX.out)).mono ?_;rintro e w6⟨rfl,hx2⟩;replace HX:=HX.qt hx2;clear hx2;go_wp2_with fail;go_ret2;exact⟨rfl,HX.out⟩
theorem mA(n d:Bs)(hn:n.length<=90000)(hd:d.length<=90000)(h0:valI d≠0) :
  bJ 184 #[.string (bs n),.string (bs d)] (fv (bX (Rat.divInt (valI n) (valI d)))):=by
 intro w hE;rw[←EJ h0];have HE:=qh hE;have HR:=qh (oV n d hn hd h0);unfold GC
 have hone:iI (valI n) (valI d)=1↔ofI (iI (valI n) (valI d))=[49]:=by
  rw[←ES];exact⟨fun h=>by rw[h],fun h=>ER h⟩
 generalize ky (valI n) (valI d)=rn at *;generalize iI (valI n) (valI d)=rd at *;clear h0 hn hd hE;have HF1:Hid (rd=1->(⟨ofI rn,if rd=1 then [] else ofI rd⟩:Fr)=⟨ofI rn,[]⟩):=qh (fun h=>by rw[Mq h]);have HF2:Hid (¬ rd=1->(⟨ofI rn,if rd=1 then [] else ofI rd⟩:Fr)=⟨ofI rn,ofI rd⟩):=qh (fun h=>by rw[Mj h]);generalize (⟨ofI rn,if rd=1 then [] else ofI rd⟩:Fr)=r at *;have HB:=qh (ID w 26 #[.string ⟨#[]⟩,.string ⟨#[]⟩]);have HX0:Hid (Ext w (w.alloc (.cells #[.string ⟨#[]⟩,.string ⟨#[]⟩] 26))):=qh (Id _ _);go_enter func184,ntmps184;go_wp2_with fail;refine(HR.out _ (HE.out.ext HX0.out)).mono ?_;rintro e w1⟨rfl,hx1⟩;obtain⟨q0,q1,f0,f1⟩:=aB HB.out hx1;have HB1:=qh (HB.out.ext hx1);have HX:=HX0.qt hx1;clear hx1;by_cases h1:rd=1
 ·have hb:(ofI rd == [49])=true:=by rw[Np];exact hone.1 h1
  have H1:=qh h1;clear hone h1;go_wp2_with fail;refine MI (ef rfl _ _ w.heap.size (.string (bs (ofI rn))) (.string ⟨#[]⟩) rfl ((HB1.out.set_ 0 _).set_ 1 _)) rfl ?_;refine⟨?_,(HX.out.setCell (p:=⟨w.heap.size,0,none⟩) (Mn _) _).setCell (p:=⟨w.heap.size,1,none⟩) (Mn _) _⟩;rw[HF1.out H1.out];rfl
 ·have hb:(ofI rd == [49])=false:=by rw[Mt];exact fun h=>h1 (hone.2 h)
  have H1:=qh h1;clear hone h1;go_wp2_with fail;refine MI (ef rfl _ _ w.heap.size (.string (bs (ofI rn))) (.string (bs (ofI rd))) rfl ((HB1.out.set_ 0 _).set_ 1 _)) rfl ?_;refine⟨?_,(HX.out.setCell (p:=⟨w.heap.size,0,none⟩) (Mn _) _).setCell (p:=⟨w.heap.size,1,none⟩) (Mn _) _⟩;rw[HF2.out H1.out]
theorem jC(f:Fr)(hd:f.den.length<=90000) :
  bJ 262 #[fv f] (.tuple #[.string (bs f.num),.string (bs (dn f))]):=by
 intro w hE;have HE:=qh hE;obtain⟨n,d⟩:=f;have HC:=qh (gK d (by simpa using Mx hd (by omega)));have HF1:Hid (valI d=0->dn ⟨n,d⟩=[49]):=qh (fun h=>by unfold dn;rw[Mq h]);have HF2:Hid (¬ valI d=0->dn ⟨n,d⟩=d):=qh (fun h=>by unfold dn;rw[Mj h]);generalize dn ⟨n,d⟩=r at *;have HB:=qh (ID w 26 #[.string (bs n),.string (bs d)]);have HX0:Hid (Ext w (w.alloc (.cells #[.string (bs n),.string (bs d)] 26))):=qh (Id _ _);clear hE hd;by_cases h0:valI d=0
 ·have hb:(cmpI (valI d) 0 == 0)=true:=by rw[Np,dB];exact h0
  have H0:=qh h0;clear h0;go_enter func262,ntmps262;go_wp2_with fail;refine(HC.out _ (HE.out.ext HX0.out)).mono ?_;rintro e w1⟨rfl,hx1⟩;obtain⟨q0,q1,f0,f1⟩:=aB HB.out hx1;have HX:=HX0.qt hx1;clear hx1;go_wp2_with fail;go_ret2;exact⟨by rw[HF1.out H0.out];rfl,HX.out⟩
 ·have hb:(cmpI (valI d) 0 == 0)=false:=by rw[Mt,Ne,dB];exact h0
  have H0:=qh h0;clear h0;go_enter func262,ntmps262;go_wp2_with fail;refine(HC.out _ (HE.out.ext HX0.out)).mono ?_;rintro e w1⟨rfl,hx1⟩;obtain⟨q0,q1,f0,f1⟩:=aB HB.out hx1;have HX:=HX0.qt hx1;clear hx1;go_wp2_with fail;go_quiet (fail);go_wp2_with fail;go_ret2;exact⟨by rw[HF2.out H0.out];rfl,HX.out.drewN _⟩
theorem GL(n d:Bs)(hd:d.length<=90000)(h0:valI d=0) :
  bJ 309 #[.string (bs n),.string (bs d)] (.tuple #[fv ⟨[],[]⟩,.int .i64 10]):=by
 intro w hE;have HE:=qh hE;have HC:=qh (gK d (by omega));have hb:(cmpI (valI d) 0 == 0)=true:=by rw[Np,dB];exact h0
 have HB:=qh (ID w 26 #[.string ⟨#[]⟩,.string ⟨#[]⟩]);have HX0:Hid (Ext w (w.alloc (.cells #[.string ⟨#[]⟩,.string ⟨#[]⟩] 26))):=qh (Id _ _);generalize cmpI (valI d) 0=cc at *;clear hE hd h0;go_enter func309,ntmps309;go_wp2_with fail;refine(HC.out _ (HE.out.ext HX0.out)).mono ?_;rintro e w1⟨rfl,hx1⟩;obtain⟨q0,q1,f0,f1⟩:=aB HB.out hx1;have HB1:=qh (HB.out.ext hx1);have HX:=HX0.qt hx1;clear hx1;go_wp2_with fail;refine MI (oU rfl _ _ w.heap.size (.string ⟨#[]⟩) (.string ⟨#[]⟩) (.int .i64 10) rfl rfl ((HB1.out.set_ 0 _).set_ 1 _)) rfl ?_;exact⟨rfl,(HX.out.setCell (p:=⟨w.heap.size,0,none⟩) (Mn _) _).setCell (p:=⟨w.heap.size,1,none⟩) (Mn _) _⟩
theorem EY(n d:Bs)(hn:n.length<=90000)(hd:d.length<=90000)(h0:valI d≠0) :
  bJ 309 #[.string (bs n),.string (bs d)] (.tuple #[fv (bX (Rat.divInt (valI n) (valI d))),.int .i64 0]):=by
 intro w hE;have HE:=qh hE;have HC:=qh (gK d (by omega));have hb:(cmpI (valI d) 0 == 0)=false:=by rw[Mt,Ne,dB];exact h0
 have HM:=qh (mA n d hn hd h0);have HB:=qh (ID w 26 #[.string ⟨#[]⟩,.string ⟨#[]⟩]);have HX0:Hid (Ext w (w.alloc (.cells #[.string ⟨#[]⟩,.string ⟨#[]⟩] 26))):=qh (Id _ _);generalize cmpI (valI d) 0=cc at *;generalize bX (Rat.divInt (valI n) (valI d))=r at *;clear hE hn hd h0;go_enter func309,ntmps309;go_wp2_with fail;refine(HC.out _ (HE.out.ext HX0.out)).mono ?_;rintro e w1⟨rfl,hx1⟩;have HB1:=qh (HB.out.ext hx1);have HX:=HX0.qt hx1;clear hx1;go_wp2_with fail;refine(HM.out _ (HE.out.ext HX.out)).mono ?_;rintro e w2⟨rfl,hx1⟩;obtain⟨q0,q1,f0,f1⟩:=aB HB1.out hx1;have HB2:=qh (HB1.out.ext hx1);replace HX:=HX.qt hx1;clear hx1;go_wp2_with fail;refine MI (oU rfl _ _ w.heap.size (.string (bs r.num)) (.string (bs r.den)) (.int .i64 0) rfl rfl ((HB2.out.set_ 0 _).set_ 1 _)) rfl ?_;exact⟨rfl,(HX.out.setCell (p:=⟨w.heap.size,0,none⟩) (Mn _) _).setCell (p:=⟨w.heap.size,1,none⟩) (Mn _) _⟩
theorem yR(a:Bs)(ha:a.length<=90000):bJ 101 #[.string (bs a)] (fv (bX (valI a:Int))):=by
 intro w hE;have HE:=qh hE;have hm:=mA a [49] ha (by simp) (by rw[ji];decide);rw[ji,pZ]at hm;have HM:=qh hm;have HB:=qh (ID w 26 #[.string ⟨#[]⟩,.string ⟨#[]⟩]);have HX0:Hid (Ext w (w.alloc (.cells #[.string ⟨#[]⟩,.string ⟨#[]⟩] 26))):=qh (Id _ _);generalize bX (valI a:Int)=r at *;clear hE hm;go_enter func101,ntmps101;go_wp2_with fail;refine(HM.out _ (HE.out.ext HX0.out)).mono ?_;rintro e w1⟨rfl,hx1⟩;obtain⟨q0,q1,f0,f1⟩:=aB HB.out hx1;have HB1:=qh (HB.out.ext hx1);have HX:=HX0.qt hx1;clear hx1;go_wp2_with fail;refine MI (ef rfl _ _ w.heap.size (.string (bs r.num)) (.string (bs r.den)) rfl ((HB1.out.set_ 0 _).set_ 1 _)) rfl ?_;exact⟨rfl,(HX.out.setCell (p:=⟨w.heap.size,0,none⟩) (Mn _) _).setCell (p:=⟨w.heap.size,1,none⟩) (Mn _) _⟩
theorem xG(f:Fr)(h1:f.num.length<=80000)(h2:f.den.length<=80000):bJ 179 #[fv f] (.tuple #[.string (bs (ofI (ay f).num)),.string (bs (ofI ((ay f).den:Int)))]):=by
 intro w hE;have HE:=qh hE;have HP:=qh (jC f (by omega));have hm:=oV f.num (dn f) (by omega) (lW f (by omega) (by omega)) (by rw[eN];exact iJ f);rw[eN,tG (iJ f),tH (iJ f),show Rat.divInt (valI f.num) (oP f)=ay f from rfl]at hm;have HM:=qh hm;generalize (ay f).num=rn at *;generalize ((ay f).den:Int)=rd at *;generalize dn f=dd at *;obtain⟨n,d⟩:=f;clear hE hm h1 h2;have HX0:Hid (Ext w (w.alloc (.cells #[.string (bs n),.string (bs d)] 26))):=qh (Id _ _);go_enter func179,ntmps179;go_wp2_with fail;refine(HP.out _ (HE.out.ext HX0.out)).mono ?_;rintro e w1⟨rfl,hx1⟩;have HX:=HX0.qt hx1;clear hx1;go_wp2_with fail;refine(HM.out _ (HE.out.ext HX.out)).mono ?_;rintro e w2⟨rfl,hx1⟩;replace HX:=HX.qt hx1;clear hx1;go_wp2_with fail;go_ret2;exact⟨rfl,HX.out⟩
abbrev tQ:Value := .func (.func 264) #[] #[]
abbrev tu(W:World)(g:Nat):Prop:=Blk W g 48 #[tQ]
theorem dI{W:World}(h:tu W g):W.cell? ⟨g,0,none⟩=some tQ:=by
 have:=h.cell 0;simpa using this
abbrev xH(k g:Nat)(a b c d n m:Bs):Prop:=∀W,Env W->tu W g->Calls prog k #[.string (bs a),.string (bs b),.string (bs c),.string (bs d),.pointer (some ⟨g,0,none⟩)] W fun e w'=>e = .returned (.tuple #[.string (bs n),.string (bs m)])∧Ext W w'
theorem L9(g:Nat)(a b c d:Bs)(ha:a.length<=30000)(hb:b.length<=30000)(hc:c.length<=30000)(hd:d.length<=30000) :
  xH 265 g a b c d (ofI (valI a*valI d+valI c*valI b)) (ofI (valI b*valI d)):=by
 intro w hE hM;have HE:=qh hE;have HM:=qh hM;have H1:=qh (jM a d (by omega) (by omega));have H2:=qh (jM c b (by omega) (by omega));have H3:=qh (jM b d (by omega) (by omega));have H4:=qh (iL (ofI (valI a*valI d)) (ofI (valI c*valI b)) (by have:=fZ ha hd;omega) (by have:=fZ hc hb;omega));rw[valI_ofI,valI_ofI]at H4;generalize ofI (valI a*valI d+valI c*valI b)=z at *;generalize ofI (valI a*valI d)=z1 at *;generalize ofI (valI c*valI b)=z2 at *;generalize ofI (valI b*valI d)=z3 at *;have hq:=dI hM;have HX:Hid (Ext w w):=qh (iD w);clear hE hM ha hb hc hd;go_enter func265,ntmps265;go_wp2_with fail;replace HX:Hid (Ext w w.drew):=qh HX.out.drew
 go_region_held3 (fun w'=>w'.cell? ⟨g,0,none⟩=some tQ)
  (go_keep)
  (first
   |(go_at_call 264;((with_reducible refine(H1.out _ (HE.out.ext HX.out)).mono ?_);rintro e w1⟨rfl,hx⟩);(replace HX:=HX.qt hx);(have q1:=dI (HM.out.ext HX.out));clear hx H1)
   |(go_at_call 264;((with_reducible refine(H2.out _ (HE.out.ext HX.out)).mono ?_);rintro e w2⟨rfl,hx⟩);(replace HX:=HX.qt hx);(have q2:=dI (HM.out.ext HX.out));clear hx H2)
   |(go_at_call 264;((with_reducible refine(H3.out _ (HE.out.ext HX.out)).mono ?_);rintro e w3⟨rfl,hx⟩);(replace HX:=HX.qt hx);(have q3:=dI (HM.out.ext HX.out));clear hx H3)
   |(go_at_call 19;((with_reducible refine(H4.out _ (HE.out.ext HX.out)).mono ?_);rintro e w4⟨rfl,hx⟩);(replace HX:=HX.qt hx);(have q4:=dI (HM.out.ext HX.out));clear hx H4))
 all_goals
  go_wp2_with fail;go_ret2;exact⟨rfl,HX.out⟩
theorem EZ(g:Nat)(a b c d:Bs)(ha:a.length<=30000)(hb:b.length<=30000)(hc:c.length<=30000)(hd:d.length<=30000) :
  xH 266 g a b c d (ofI (valI a*valI d-valI c*valI b)) (ofI (valI b*valI d)):=by
 intro w hE hM;have HE:=qh hE;have HM:=qh hM;have H1:=qh (jM a d (by omega) (by omega));have H2:=qh (jM c b (by omega) (by omega));have H3:=qh (jM b d (by omega) (by omega));have H4:=qh (lC (ofI (valI a*valI d)) (ofI (valI c*valI b)) (by have:=fZ ha hd;omega) (by have:=fZ hc hb;omega));rw[valI_ofI,valI_ofI]at H4;generalize ofI (valI a*valI d-valI c*valI b)=z at *;generalize ofI (valI a*valI d)=z1 at *;generalize ofI (valI c*valI b)=z2 at *;generalize ofI (valI b*valI d)=z3 at *;have hq:=dI hM;have HX:Hid (Ext w w):=qh (iD w);clear hE hM ha hb hc hd;go_enter func266,ntmps266;go_wp2_with fail;replace HX:Hid (Ext w w.drew):=qh HX.out.drew
 go_region_held3 (fun w'=>w'.cell? ⟨g,0,none⟩=some tQ)
  (go_keep)
  (first
   |(go_at_call 264;((with_reducible refine(H1.out _ (HE.out.ext HX.out)).mono ?_);rintro e w1⟨rfl,hx⟩);(replace HX:=HX.qt hx);(have q1:=dI (HM.out.ext HX.out));clear hx H1)
   |(go_at_call 264;((with_reducible refine(H2.out _ (HE.out.ext HX.out)).mono ?_);rintro e w2⟨rfl,hx⟩);(replace HX:=HX.qt hx);(have q2:=dI (HM.out.ext HX.out));clear hx H2)
   |(go_at_call 264;((with_reducible refine(H3.out _ (HE.out.ext HX.out)).mono ?_);rintro e w3⟨rfl,hx⟩);(replace HX:=HX.qt hx);(have q3:=dI (HM.out.ext HX.out));clear hx H3)
   |(go_at_call 18;((with_reducible refine(H4.out _ (HE.out.ext HX.out)).mono ?_);rintro e w4⟨rfl,hx⟩);(replace HX:=HX.qt hx);(have q4:=dI (HM.out.ext HX.out));clear hx H4))
 all_goals
  go_wp2_with fail;go_ret2;exact⟨rfl,HX.out⟩
abbrev yS(k g:Nat):Value := .func (.func k) #[] #[.pointer (some ⟨g,0,none⟩)]
theorem vM{fn:Func}{a:Tmp}(h:fn.results=#[.cell a 221])(tmps:Array Value)(w:World)(g:Nat)(x y z u:Value)(ha:tmps.getD a undef = .pointer (some ⟨g,0,none⟩))(hb:Blk w g 221 #[x,y,z,u]) :
  (results fn tmps).run prog w = .ok (.agg #[x,y,z,u]) w:=by
 have h0:=hb.cell 0;have h1:=hb.cell 1;have h2:=hb.cell 2;have h3:=hb.cell 3;simp only[Mk,Mm,Ms]at h0 h1 h2 h3;unfold results;rw[h];simp only[Ob,OG,OO,ha];go_simp
def E0(w:World)(e:Ending)(w':World):Prop :=
 ∃g,e = .returned (.agg #[yS 265 g,yS 266 g,yS 267 g,yS 268 g])∧Ext w w'∧tu w' g
theorem wG(w:World):Calls prog 183 #[] w (E0 w):=by
 go_enter func183,ntmps183;go_wp2_with fail;refine MI (vM rfl _ _ w.heap.size _ _ _ _ rfl ((ID w _ _).alloc _)) rfl ⟨w.heap.size+1,rfl,(Id _ _).alloc _,Mf _ _ _ _ (by simp)⟩
theorem sC(k g:Nat)(hk:∀args w,(callFunc k args).run prog w = .ok (.enter k args) w)(f h:Fr)(n m:Bs)(h2:f.den.length<=90000)(h4:h.den.length<=90000)(hO:xH k g f.num (dn f) h.num (dn h) n m)(hn:n.length<=90000)(hm:m.length<=90000)(h0:valI m≠0)
  (w:World) (hE:Env w) (hM:tu w g) :
  Calls prog 182 #[yS k g,fv f,fv h] w fun e w'=>e = .returned (fv (bX (Rat.divInt (valI n) (valI m))))∧Ext w w':=by
 have HE:=qh hE;have HM:=qh hM;have HP1:=qh (jC f h2);have HP2:=qh (jC h h4);have HO:=qh hO;have HMD:=qh (mA n m hn hm h0);generalize bX (Rat.divInt (valI n) (valI m))=r at *;generalize dn f=d1 at *;generalize dn h=d2 at *;obtain⟨n1,e1⟩:=f;obtain⟨n2,e2⟩:=h;clear hE hM hO hn hm h0 h2 h4;have HB:=qh (Mf ((w.alloc (.cells #[.string (bs n1),.string (bs e1)] 26)).alloc (.cells #[.string (bs n2),.string (bs e2)] 26)) 26 #[.string ⟨#[]⟩,.string ⟨#[]⟩] (w.heap.size+1+1) (by simp));have HB2:=qh ((Mf (w.alloc (.cells #[.string (bs n1),.string (bs e1)] 26)) 26 #[.string (bs n2),.string (bs e2)] (w.heap.size+1) (by simp)).alloc (.cells #[.string ⟨#[]⟩,.string ⟨#[]⟩] 26));have HX0:Hid (Ext w (((w.alloc (.cells #[.string (bs n1),.string (bs e1)] 26)).alloc (.cells #[.string (bs n2),.string (bs e2)] 26)).alloc (.cells #[.string ⟨#[]⟩,.string ⟨#[]⟩] 26))):=qh (((Id _ _).alloc _).alloc _);go_enter func182,ntmps182;go_wp2_with fail;refine(HP1.out _ (HE.out.ext HX0.out)).mono ?_;rintro e w1⟨rfl,hx1⟩;obtain⟨q0,q1,_,_⟩:=aB HB2.out hx1;replace HB:=qh (HB.out.ext hx1);have HX:=HX0.qt hx1;clear hx1;go_wp2_with fail;refine(HP2.out _ (HE.out.ext HX.out)).mono ?_;rintro e w2⟨rfl,hx1⟩;replace HB:=qh (HB.out.ext hx1);replace HX:=HX.qt hx1;clear hx1;go_wp2_with fail;refine(HO.out _ (HE.out.ext HX.out) (HM.out.ext HX.out)).mono ?_;rintro e w3⟨rfl,hx1⟩;replace HB:=qh (HB.out.ext hx1);replace HX:=HX.qt hx1;clear hx1;go_wp2_with fail;refine(HMD.out _ (HE.out.ext HX.out)).mono ?_;rintro e w4⟨rfl,hx1⟩;obtain⟨q0,q1,f0,f1⟩:=aB HB.out hx1;replace HB:=qh (HB.out.ext hx1);replace HX:=HX.qt hx1;clear hx1;go_wp2_with fail;refine MI (ef rfl _ _ (w.heap.size+1+1) (.string (bs r.num)) (.string (bs r.den)) rfl ((HB.out.set_ 0 _).set_ 1 _)) rfl ?_;exact⟨rfl,(HX.out.setCell (p:=⟨w.heap.size+1+1,0,none⟩) (by show w.heap.size<=w.heap.size+1+1;omega) _).setCell (p:=⟨w.heap.size+1+1,1,none⟩) (by show w.heap.size<=w.heap.size+1+1;omega) _⟩
theorem GM(a b c d:Value)(W:World):(Instr.index 221 (.agg #[a,b,c,d]) (.int .i64 1)).run prog W = .ok b W:=by kernel_rfl
theorem E4(f h:Fr)(h1:f.num.length<=20000)(h2:f.den.length<=20000)(h3:h.num.length<=20000)(h4:h.den.length<=20000) :
  bJ 276 #[fv f,fv h] (fv (bX (ay f-ay h))):=by
 intro w hE;have HE:=qh hE;have hd1:(dn f).length<=30000:=lW f (by omega) (by omega);have hd2:(dn h).length<=30000:=lW h (by omega) (by omega);have hden:(ofI (valI (dn f)*valI (dn h))).length<=90000:=by have:=fZ hd1 hd2;omega
 have hnum:(ofI (valI f.num*valI (dn h)-valI h.num*valI (dn f))).length<=90000:=by
  have k1:=eT (aG (Mx h1 (by omega:20000<=30000))) (aG hd2);have k2:=eT (aG (Mx h3 (by omega:20000<=30000))) (aG hd1);rw[←Pi]at k1 k2;have:=bz (NY (Int.natAbs_sub_le (valI f.num*valI (dn h)) (valI h.num*valI (dn f))) (kz k1 k2));omega
 have HA:=qh (fun g=>sC 266 g (fun _ _=>by rfl) f h _ _ (by omega) (by omega) (EZ g f.num (dn f) h.num (dn h) (by omega) hd1 (by omega) hd2) hnum hden (by rw[valI_ofI,eN,eN];exact Int.mul_ne_zero (iJ f) (iJ h)))
 have he:Rat.divInt (valI f.num*valI (dn h)-valI h.num*valI (dn f)) (valI (dn f)*valI (dn h))=ay f-ay h:=by
  rw[eN,eN];exact(Rat.divInt_sub_divInt _ _ (iJ f) (iJ h)).symm
 simp only[valI_ofI,he]at HA;generalize bX (ay f-ay h)=r at *;obtain⟨n1,e1⟩:=f;obtain⟨n2,e2⟩:=h;clear hE hd1 hd2 hden hnum he h1 h2 h3 h4;have hix:=GM;have hn1:w.heap.size≠w.heap.size+1+1:=by omega
 have hn2:w.heap.size+1+1≠w.heap.size:=by omega
 have hn3:¬ (w.heap.size=w.heap.size+1+1):=by omega
 have HB:=qh (Mf ((w.alloc (.cells #[.string (bs n1),.string (bs e1)] 26)).alloc (.cells #[.string (bs n2),.string (bs e2)] 26)) 26 #[.string ⟨#[]⟩,.string ⟨#[]⟩] (w.heap.size+1+1) (by simp));have HB2:=qh ((Mf (w.alloc (.cells #[.string (bs n1),.string (bs e1)] 26)) 26 #[.string (bs n2),.string (bs e2)] (w.heap.size+1) (by simp)).alloc (.cells #[.string ⟨#[]⟩,.string ⟨#[]⟩] 26));have HB1:=qh (((ID w 26 #[.string (bs n1),.string (bs e1)]).alloc (.cells #[.string (bs n2),.string (bs e2)] 26)).alloc (.cells #[.string ⟨#[]⟩,.string ⟨#[]⟩] 26));have HX:Hid (Ext w (((w.alloc (.cells #[.string (bs n1),.string (bs e1)] 26)).alloc (.cells #[.string (bs n2),.string (bs e2)] 26)).alloc (.cells #[.string ⟨#[]⟩,.string ⟨#[]⟩] 26))):=qh (((Id _ _).alloc _).alloc _);go_enter func276,ntmps276;go_wp2_with fail;generalize ((w.alloc (.cells #[.string (bs n1),.string (bs e1)] 26)).alloc (.cells #[.string (bs n2),.string (bs e2)] 26)).alloc (.cells #[.string ⟨#[]⟩,.string ⟨#[]⟩] 26)=W0 at *;obtain⟨a0,a1,_,_⟩:=aB HB1.out (iD W0);obtain⟨b0,b1,_,_⟩:=aB HB2.out (iD W0);obtain⟨c0,c1,d0,d1⟩:=aB HB.out (iD W0);have HD:Hid (Ext W0 W0.drew):=qh (iD W0).drew
 go_region_held3 (fun w'=>w'.cell? ⟨w.heap.size,0,none⟩=some (.string (bs n1))∧w'.cell? ⟨w.heap.size,1,none⟩=some (.string (bs e1))∧w'.cell? ⟨w.heap.size+1,0,none⟩=some (.string (bs n2))∧w'.cell? ⟨w.heap.size+1,1,none⟩=some (.string (bs e2)))
  (go_keep)
  (first
   |(go_at_call 183;((with_reducible refine(wG _).mono ?_);rintro e w1⟨g,rfl,hx,hm⟩);(replace HD:=HD.qt hx);(have HM:=qh hm);(obtain⟨a2,a3,_,_⟩:=aB HB1.out HD.out);(obtain⟨b2,b3,_,_⟩:=aB HB2.out HD.out);(obtain⟨c2,c3,d2,d3⟩:=aB HB.out HD.out);clear hx hm)
   |(go_at_call 182;((with_reducible refine(HA.out _ _ (HE.out.ext (HX.out.trans HD.out)) HM.out).mono ?_);rintro e w2⟨rfl,hx⟩);(replace HD:=HD.qt hx);(obtain⟨a2,a3,_,_⟩:=aB HB1.out HD.out);(obtain⟨b2,b3,_,_⟩:=aB HB2.out HD.out);(obtain⟨c2,c3,d2,d3⟩:=aB HB.out HD.out);clear hx))
 all_goals
  go_wp2_with fail;refine MI (ef rfl _ _ (w.heap.size+1+1) (.string (bs r.num)) (.string (bs r.den)) rfl (((HB.out.ext HD.out).set_ 0 _).set_ 1 _)) rfl ?_;exact⟨rfl,((HX.out.trans HD.out).setCell (p:=⟨w.heap.size+1+1,0,none⟩) (by show w.heap.size<=w.heap.size+1+1;omega) _).setCell (p:=⟨w.heap.size+1+1,1,none⟩) (by show w.heap.size<=w.heap.size+1+1;omega) _⟩
theorem rz(f h:Fr)(h1:f.num.length<=20000)(h2:f.den.length<=20000)(h3:h.num.length<=20000)(h4:h.den.length<=20000) :
  bJ 200 #[fv f,fv h] (.int .i64 (cU (ay f) (ay h))):=by
 intro w hE;have HE:=qh hE;have HS:=qh (E4 f h h1 h2 h3 h4);have hq:=(pY h1 h2 (by omega)).sub (pY h3 h4 (by omega));have hl1:=hq.num_len;have hl2:=hq.den_len;have HP:=qh (jC (bX (ay f-ay h)) (by omega));have HC:=qh (gK (bX (ay f-ay h)).num (by omega));rw[show valI (bX (ay f-ay h)).num=(ay f-ay h).num from wq _,Br]at HC;clear hq hl1 hl2;generalize cU (ay f) (ay h)=cc at *;generalize dn (bX (ay f-ay h))=dd at *;generalize bX (ay f-ay h)=r at *;obtain⟨n1,e1⟩:=f;obtain⟨n2,e2⟩:=h;clear hE h1 h2 h3 h4;have HX0:Hid (Ext w ((w.alloc (.cells #[.string (bs n1),.string (bs e1)] 26)).alloc (.cells #[.string (bs n2),.string (bs e2)] 26))):=qh ((Id _ _).alloc _);go_enter func200,ntmps200;go_wp2_with fail;refine(HS.out _ (HE.out.ext HX0.out)).mono ?_;rintro e w1⟨rfl,hx1⟩;have HX:=HX0.qt hx1;clear hx1;go_wp2_with fail;refine(HP.out _ (HE.out.ext HX.out)).mono ?_;rintro e w2⟨rfl,hx1⟩;replace HX:=HX.qt hx1;clear hx1;go_wp2_with fail;refine(HC.out _ (HE.out.ext HX.out)).mono ?_;rintro e w3⟨rfl,hx1⟩;replace HX:=HX.qt hx1;clear hx1;go_wp2_with fail;go_ret;exact⟨rfl,HX.out⟩
end
section
open Go.RowKit
def bB(q:Rat):Int :=
 let lo:=q.num / (q.den:Int)
 let re:=q.num % (q.den:Int)
 if 2*re<q.den then lo else if 2*re=q.den then(if lo % 2=0 then lo else lo+1) else lo+1
theorem tR(q:Rat):let lo:=q.num / (q.den:Int);let re:=q.num % (q.den:Int)
  (re+re<q.den->bB q=lo)∧(re+re=q.den->lo % 2=0->bB q=lo)∧(re+re=q.den->lo % 2≠0->bB q=lo+1)∧((q.den:Int)<re+re->bB q=lo+1):=by
 simp only;unfold bB;simp only;refine⟨fun h=>?_,fun h h2=>?_,fun h h2=>?_,fun h=>?_⟩
 ·rw[Mq (by omega)]
 ·rw[Mj (by omega),Mq (by omega),Mq h2]
 ·rw[Mj (by omega),Mq (by omega),Mj h2]
 ·rw[Mj (by omega),Mj (by omega)]
theorem vN(q:Rat):q-1 / 2<=(bB q:Rat)∧(bB q:Rat)<=q+1 / 2:=by
 have hd:(0:Int)<q.den:=by have:=q.den_pos;omega
 have h1:=RH q.num (q.den:Int);have h2:=Qs q.num (b:=(q.den:Int)) (by omega);have h3:=Q7 q.num hd
 have key:(q.num:Int)*2-q.den<=bB q*2*q.den∧bB q*2*q.den<=q.num*2+q.den:=by
  unfold bB;simp only;generalize q.num / (q.den:Int)=lo at *;generalize q.num % (q.den:Int)=re at *;generalize (q.den:Int)=d at *;rw[←h1];have e1:lo*2*d=2*(d*lo):=by rw[Qf d lo,Int.mul_assoc,Qf 2 d,←Int.mul_assoc,Qf 2]
  have e2:(lo+1)*2*d=2*(d*lo)+2*d:=by rw[Qw,Qw,e1];omega
  split
  ·rw[e1];omega
  ·split
   ·split
    ·rw[e1];omega
    ·rw[e2];omega
   ·rw[e2];omega
 have hq:q=(q.num:Rat) / ((q.den:Int):Rat):=by
  rw[←Si,Rat.num_divInt_den]
 have hdR:(0:Rat)<((q.den:Int):Rat):=Rat.intCast_pos.2 hd
 have k1:((q.num:Rat))*2-((q.den:Int):Rat)<=(bB q:Rat)*2*((q.den:Int):Rat):=by
  have:=Rat.intCast_le_intCast.2 key.1;simpa using this
 have k2:(bB q:Rat)*2*((q.den:Int):Rat)<=(q.num:Rat)*2+((q.den:Int):Rat):=by
  have:=Rat.intCast_le_intCast.2 key.2;simpa using this
 have hm:q*((q.den:Int):Rat)=(q.num:Rat):=by
  conv=>lhs;lhs;rw[hq]
  exact Rat.div_mul_cancel (by grind)
 generalize (bB q:Rat)=r at *;generalize ((q.den:Int):Rat)=d at *;generalize (q.num:Rat)=n at *;constructor
 ·refine Se (c:=d) ?_ hdR;rw[←hm]at k1;grind
 ·refine Se (c:=d) ?_ hdR;rw[←hm]at k2;grind
theorem xI{q:Rat}{L:Nat}(h:QB L q):(bB q).natAbs<10 ^ (L+1):=by
 have hd:(0:Int)<q.den:=by have:=q.den_pos;omega
 have h1:=QX q.num (q.den:Int)
 have h2:(bB q).natAbs<=(q.num / (q.den:Int)).natAbs+1:=by
  unfold bB;simp only;split
  ·omega
  ·split
   ·split <;> omega
   ·omega
 have h3:=h.1;have h4:0<10 ^ L:=Pf (by decide);rw[Nf];omega
theorem BO{t p a:Bs}{L:Nat}(h0:0<L)(lt:t.length<=L)(lp:p.length<=L)(la:a.length<=L):QB (L+L) (Rat.divInt (valI t*valI p) (valI a)):=by
 refine kW (by omega) ?_ ?_
 ·rw[Pi];exact eT (aG lt) (aG lp)
 ·exact M5 (aG la) (NW (by decide) (by omega))
theorem ni{q:Rat}{L:Nat}(h:QB L q):(ofI (bB q)).length<=L+2:=bz (xI h)
end
section
open Go.RowKit
attribute [local go_sem] size_bs toList_bs
theorem tS:valI [50]=2:=by decide +kernel
theorem E5(a:Bs)(ha:a.length<=90000):bJ 181 #[.string (bs a)] (.bool (decide (valI a % 2=0))):=by
 intro w hE;have HE:=qh hE;have hd:=pu a [50] (by omega) (by simp) (by rw[tS];decide);rw[tS,pw (by decide)]at hd;have HD:=qh hd
 have HQ:Hid (decide (valI a % 2=0)=(ofI (valI a % 2) == [])):=qh (by
  rw[QV,MA,Np,cK])
 rw[HQ.out];generalize ofI (valI a % 2)=m at *;generalize fE (valI a) 2=q at *;clear hd hE HQ;go_enter func181,ntmps181;go_wp2_with fail;refine(HD.out _ HE.out).mono ?_;rintro e w1⟨rfl,hx1⟩;have HX:=qh hx1;clear hx1;go_wp2_with fail;go_ret;exact⟨by cases m <;> rfl,HX.out⟩
theorem tT(f:Fr)(h1:f.num.length<=80000)(h2:f.den.length<=80000):bJ 99 #[fv f,.int .i64 1] (.tuple #[.string (bs (ofI (bB (ay f)))),.int .i64 0]):=by
 intro w hE;have HE:=qh hE;have HP:=qh (xG f h1 h2);have hq:=pY (L:=80000) h1 h2 (by omega);have hn1:=bz hq.1;have hd1:(ofI ((ay f).den:Int)).length<=80000+1:=bz (by rw[NL];exact hq.2);have hdp:=(ay f).den_pos;have hdv:=pu (ofI (ay f).num) (ofI ((ay f).den:Int)) (by omega) (by omega) (by rw[valI_ofI];omega);rw[valI_ofI,valI_ofI,gV (by omega),pw (by omega)]at hdv;have HD:=qh hdv;have hfl:(ofI ((ay f).num / ((ay f).den:Int))).length<=80001:=bz (NY (QX _ _) hq.1)
 have hrl:(ofI ((ay f).num % ((ay f).den:Int))).length<=80001:=bz (by
  have a:=Qs (ay f).num (b:=((ay f).den:Int)) (by omega);have b:=Q7 (ay f).num (b:=((ay f).den:Int)) (by omega);have:=hq.2;omega)
 have ha1:=iL (ofI ((ay f).num / ((ay f).den:Int))) [49] (by omega) (by simp);rw[valI_ofI,ji]at ha1;have HA1:=qh ha1;have ha2:=iL (ofI ((ay f).num % ((ay f).den:Int))) (ofI ((ay f).num % ((ay f).den:Int))) (by omega) (by omega);rw[valI_ofI]at ha2;have HA2:=qh ha2;have hc1:=gK (ofI (ay f).num) (by omega);have HC1:=qh hc1
 have h2r:(ofI ((ay f).num % ((ay f).den:Int)+(ay f).num % ((ay f).den:Int))).length<=90000:=by
  have:=EM (x:=ofI ((ay f).num % ((ay f).den:Int))) (y:=ofI ((ay f).num % ((ay f).den:Int))) hrl hrl;rw[valI_ofI]at this;omega
 have hc2:=cmpP (ofI ((ay f).num % ((ay f).den:Int)+(ay f).num % ((ay f).den:Int))) (ofI ((ay f).den:Int)) (by omega) (by omega);rw[valI_ofI,valI_ofI]at hc2;have HC2:=qh hc2;have he:=E5 (ofI ((ay f).num / ((ay f).den:Int))) (by omega);rw[valI_ofI]at he;have HEV:=qh he;have HR:=qh (tR (ay f));clear hE hq hn1 hd1 hdv hfl hrl ha1 ha2 hc1 h2r hc2 he h1 h2;generalize bB (ay f)=z at *;have hdp0:(0:Int)<((ay f).den:Int):=by omega
 clear hdp;generalize ((ay f).den:Int)=d at *;generalize (ay f).num=n at *;generalize hlo:n / d=lo at *;have hre1:=Qs n (b:=d) (by omega);generalize hre:n % d=re at *;have hre2:0<=re:=hre1;clear hlo hre hre1;obtain⟨fn,fd⟩:=f;have HX0:Hid (Ext w (w.alloc (.cells #[.string (bs fn),.string (bs fd)] 26))):=qh (Id _ _)
 have hre0:(!(ofI re).isEmpty)=!(decide (re=0)):=by
  by_cases h:re=0
  ·rw[h,cK.2 rfl];rfl
  ·have:ofI re≠[]:=fun h'=>h (cK.1 h')
   simp[h,this]
 have HRE:=qh hre0;clear hre0;have hdp:0<d:=hdp0;go_enter func99,ntmps99;go_wp2_with fail;refine(HP.out _ (HE.out.ext HX0.out)).mono ?_;rintro e w1⟨rfl,hx1⟩;have HX:=HX0.qt hx1;clear hx1;go_wp2_with fail;refine(HD.out _ (HE.out.ext HX.out)).mono ?_;rintro e w2⟨rfl,hx1⟩;replace HX:=HX.qt hx1;clear hx1;have hcs:0<=re:=hre2;by_cases hr0:re=0
 ·have hrb:(!(ofI re).isEmpty)=false:=by rw[HRE.out];simp[hr0]
  have hr1:re<=0:=by omega
  clear hr0;have hr0:=hr1;go_wp2_with fail;refine(HC1.out _ (HE.out.ext HX.out)).mono ?_;rintro e w3⟨rfl,hx1⟩;replace HX:=HX.qt hx1;clear hx1;go_wp2_with fail;refine(HA2.out _ (HE.out.ext HX.out)).mono ?_;rintro e w4⟨rfl,hx1⟩;replace HX:=HX.qt hx1;clear hx1;go_wp2_with fail;refine(HC2.out _ (HE.out.ext HX.out)).mono ?_;rintro e w5⟨rfl,hx1⟩;replace HX:=HX.qt hx1;clear hx1;have g1:decide (0<cmpI (re+re) d)=false:=by rw[Mi,bA];omega
  have g2:(cmpI (re+re) d == 0)=false:=by rw[Mt,Ne,dB];omega
  have HZ:Hid (z=lo):=qh (HR.out.1 (by omega));generalize cmpI (re+re) d=hf at *;clear hdp HRE HR hcs hr0 hr1;go_wp2_with fail;go_ret2;exact⟨by rw[HZ.out];rfl,HX.out⟩
 ·have hrb:(!(ofI re).isEmpty)=true:=by rw[HRE.out];simp[hr0]
  go_wp2_with fail;refine(HA1.out _ (HE.out.ext HX.out)).mono ?_;rintro e w3⟨rfl,hx1⟩;replace HX:=HX.qt hx1;clear hx1;go_wp2_with fail;refine(HC1.out _ (HE.out.ext HX.out)).mono ?_;rintro e w4⟨rfl,hx1⟩;replace HX:=HX.qt hx1;clear hx1;go_wp2_with fail;refine(HA2.out _ (HE.out.ext HX.out)).mono ?_;rintro e w5⟨rfl,hx1⟩;replace HX:=HX.qt hx1;clear hx1;go_wp2_with fail;refine(HC2.out _ (HE.out.ext HX.out)).mono ?_;rintro e w7⟨rfl,hx1⟩;replace HX:=HX.qt hx1;clear hx1;rcases Sh (re+re) d with hlt|hlt|hlt
  ·have g1:decide (0<cmpI (re+re) d)=false:=by rw[Mi,bA];omega
   have g2:(cmpI (re+re) d == 0)=false:=by rw[Mt,Ne,dB];omega
   have HZ:Hid (z=lo):=qh (HR.out.1 (by omega));generalize cmpI (re+re) d=hf at *;clear hdp HRE HR hcs hr0 hlt;go_wp2_with fail;go_ret2;exact⟨by rw[HZ.out];rfl,HX.out⟩
  ·by_cases hev:lo % 2=0
   focus
    have g1:decide (0<cmpI (re+re) d)=false:=by rw[Mi,bA];omega
    have g2:(cmpI (re+re) d == 0)=true:=by rw[Np,dB];omega
    have g3:decide (lo % 2=0)=true:=by rw[MA];exact hev
    have HZ:Hid (z=lo):=qh (HR.out.2.1 (by omega) hev)
   rotate_left
   focus
    have g1:decide (0<cmpI (re+re) d)=false:=by rw[Mi,bA];omega
    have g2:(cmpI (re+re) d == 0)=true:=by rw[Np,dB];omega
    have g3:decide (lo % 2=0)=false:=by rw[Mi];exact hev
    have HZ:Hid (z=lo+1):=qh (HR.out.2.2.1 (by omega) hev)
   all_goals
    rw[g3]at HEV;generalize cmpI (re+re) d=hf at *;clear hdp HRE HR hcs hev g3 hr0 hlt;go_wp2_with fail;refine(HEV.out _ (HE.out.ext HX.out)).mono ?_;rintro e w6⟨rfl,hx1⟩;replace HX:=HX.qt hx1;clear hx1;go_wp2_with fail;go_ret2;exact⟨by rw[HZ.out];rfl,HX.out⟩
  ·have g1:decide (0<cmpI (re+re) d)=true:=by rw[MA,bA];omega
   have HZ:Hid (z=lo+1):=qh (HR.out.2.2.2 (by omega));generalize cmpI (re+re) d=hf at *;clear hdp HRE HR hcs hr0 hlt;go_wp2_with fail;go_ret2;exact⟨by rw[HZ.out];rfl,HX.out⟩
theorem qd(a:Bs)(ha:a.length<=90000):bJ 220 #[.string (bs a)] (.bool (decide (valI a<0))):=by
 intro w hE;have HE:=qh hE;have HC:=qh (gK a (by omega));have HQ:Hid (decide (valI a<0)=decide (cmpI (valI a) 0<0)):=qh (by rw[QV,MA,MA,cX]);rw[HQ.out];generalize cmpI (valI a) 0=cc at *;clear hE HQ;go_enter func220,ntmps220;go_wp2_with fail;refine(HC.out _ HE.out).mono ?_;rintro e w1⟨rfl,hx1⟩;have HX:=qh hx1;clear hx1;go_wp2_with fail;go_ret;exact⟨rfl,HX.out⟩
end
section
open Go.RowKit Go.Shelf
attribute [local go_sem] size_bs toList_bs
def dt(t p a:Int):Int:=bB (Rat.divInt (t*p) a)
theorem BQ(t p a:Bs)(lt:t.length<=20000)(lp:p.length<=20000)(la:a.length<=20000)(ht:checkI t=0)(hp:checkI p=0)(ha:checkI a=0)(h0:0<valI a)(h1:0<=valI p)(h2:valI p<=valI a) :
  bJ 232 #[.string (bs t),.string (bs p),.string (bs a)] (.tuple #[.string (bs (ofI (dt (valI t) (valI p) (valI a)))),.string (bs (ofI (valI t-dt (valI t) (valI p) (valI a)))),.int .i64 0]):=by
 intro w hE;have HE:=qh hE;have k1:=dq t (by omega);have k2:=dq p (by omega);have k3:=dq a (by omega);rw[ht]at k1;rw[hp]at k2;rw[ha]at k3;have n1:=qd a (by omega);have n2:=qd p (by omega);rw[show decide (valI a<0)=false by rw[Mi];omega]at n1;rw[show decide (valI p<0)=false by rw[Mi];omega]at n2;have c1:=cmpP p a (by omega) (by omega);have g1:decide (0<cmpI (valI p) (valI a))=false:=by rw[Mi,bA];omega
 have g2:a.isEmpty=false:=by
  cases a with
  |nil=>rw[my]at h0;omega
  |cons _ _=>rfl
 have m1:=jM t p (by omega) (by omega);have hml:=fZ lt lp;have f1:=EY (ofI (valI t*valI p)) a (by omega) (by omega) (by omega);rw[valI_ofI]at f1;have hqb:=BO (by omega) lt lp la;have r1:=tT (bX (Rat.divInt (valI t*valI p) (valI a))) (by have:=hqb.num_len;omega) (by have:=hqb.den_len;omega);rw[lS,show bB (Rat.divInt (valI t*valI p) (valI a))=dt (valI t) (valI p) (valI a) from rfl]at r1
 have hsl:(ofI (dt (valI t) (valI p) (valI a))).length<=90000:=by
  have:=ni hqb;exact Mx this (by omega)
 have s1:=lC t (ofI (dt (valI t) (valI p) (valI a))) (by omega) (by omega);rw[valI_ofI]at s1;have K1:=qh k1;have K2:=qh k2;have K3:=qh k3;have N1:=qh n1;have N2:=qh n2;have C1:=qh c1;have M1:=qh m1;have F1:=qh f1;have R1:=qh r1;have S1:=qh s1;clear k1 k2 k3 n1 n2 c1 m1 f1 r1 s1 hsl hqb hml hE ht hp ha h0 h1 h2 lt lp la;generalize ofI (valI t-dt (valI t) (valI p) (valI a))=z2 at *;generalize ofI (dt (valI t) (valI p) (valI a))=z1 at *;generalize bX (Rat.divInt (valI t*valI p) (valI a))=fr at *;generalize ofI (valI t*valI p)=mm at *;generalize cmpI (valI p) (valI a)=cc at *;have HX:Hid (Ext w w):=qh (iD w);go_enter func232,ntmps232;go_wp2_with fail;refine(K1.out _ (HE.out.ext HX.out)).mono ?_;rintro e w1⟨rfl,hx1⟩;replace HX:=HX.qt hx1;clear hx1;go_wp2_with fail;refine(K2.out _ (HE.out.ext HX.out)).mono ?_;rintro e w2⟨rfl,hx1⟩;replace HX:=HX.qt hx1;clear hx1;go_wp2_with fail;refine(K3.out _ (HE.out.ext HX.out)).mono ?_;rintro e w3⟨rfl,hx1⟩;replace HX:=HX.qt hx1;clear hx1;go_wp2_with fail;refine(N1.out _ (HE.out.ext HX.out)).mono ?_;rintro e w4⟨rfl,hx1⟩;replace HX:=HX.qt hx1;clear hx1;go_wp2_with fail;refine(N2.out _ (HE.out.ext HX.out)).mono ?_;rintro e w5⟨rfl,hx1⟩;replace HX:=HX.qt hx1;clear hx1;go_wp2_with fail;refine(C1.out _ (HE.out.ext HX.out)).mono ?_;rintro e w6⟨rfl,hx1⟩;replace HX:=HX.qt hx1;clear hx1;go_wp2_with fail;refine(M1.out _ (HE.out.ext HX.out)).mono ?_;rintro e w7⟨rfl,hx1⟩;replace HX:=HX.qt hx1;clear hx1;go_wp2_with fail;refine(F1.out _ (HE.out.ext HX.out)).mono ?_;rintro e w8⟨rfl,hx1⟩;replace HX:=HX.qt hx1;clear hx1;go_wp2_with fail;have HXN:Hid (Ext w8 (w8.alloc (.cells #[.string (bs fr.num),.string (bs fr.den)] 26))):=qh (Id _ _);refine(R1.out _ (HE.out.ext (HX.out.trans HXN.out))).mono ?_;rintro e w9⟨rfl,hx1⟩;replace HX:=qh ((HX.out.trans HXN.out).trans hx1);clear hx1;go_wp2_with fail;refine(S1.out _ (HE.out.ext HX.out)).mono ?_;rintro e w10⟨rfl,hx1⟩;replace HX:=HX.qt hx1;clear hx1;go_wp2_with fail;go_ret3
 exact⟨rfl,HX.out⟩
theorem mB(z:Int):checkI (ofI z)=0:=dC.2 (by rw[valI_ofI])
theorem mC{ls:List LotV}{id:Bs}(h:findL ls id=some k):k<ls.length∧∀(hk:k<ls.length),(ls[k]'hk).id=id:=by
 induction ls generalizing k with
 |nil=>simp[findL]at h
 |cons x r ih =>
  unfold findL at h;by_cases e:x.id=id
  ·rw[Mq e]at h;injection h with h;subst h
   exact⟨by simp,fun _=>e⟩
  ·rw[Mj e]at h
   cases hf:findL r id with
   |none=>rw[hf]at h;simp at h
   |some j =>
    rw[hf]at h;simp at h;subst h;have:=ih hf;exact⟨by simp;exact this.1,fun hk=>this.2 (by simpa using hk)⟩
def aV(l:List Bs):Int:=(l.map valI).sum
theorem yT(l:List Bs)(a:Bs):aV (l++[a])=aV l+valI a:=by simp[aV]
theorem jD(L:Nat)(l:List Bs)(hs:∀x ∈ l,x.length<=L)(hn:l.length<=100000):(ofI (aV l)).length<=L+7:=by
 have h:=ru valI (10 ^ L) l (fun x hx=>PE (aG (hs x hx)));have h2:l.length*10 ^ L<=10 ^ 5*10 ^ L:=MO _ (by omega);have h4:10 ^ (L+6)=1000000*10 ^ L:=by rw[Pr,MF]
 have h5:0<10 ^ L:=Pf (by decide);exact bz (L:=L+6) (by unfold aV;omega)
theorem BR(l:List Bs)(k:Nat)(hs:∀x ∈ l,x.length<=4000)(hn:l.length<=100000):(ofI (aV (l.take k))).length<=4007 :=
 jD 4000 _ (fun x hx=>hs x (Ng hx)) (Mx (by rw[Mu];exact Nat.min_le_right _ _) hn)
theorem tU(ls:List Bs)(A:Option Addr)(c:Nat)(w:World)(hE:Env w)(hA:RdS w A ls)(hs:∀x ∈ ls,x.length<=4000)(hn:ls.length<=100000) :
  Calls prog 221 #[.slice A ls.length c] w fun e w'=>e = .returned (.string (bs (ofI (aV ls))))∧Ext w w':=by
 have HE:=qh hE;have HA:=qh hA;have HS:=qh hs;clear hE hA hs;have h0:(Value.string ⟨#[]⟩) = .string (bs (ofI (aV (ls.take 0)))):=by rw[show ofI (aV (ls.take 0))=[] from cK.2 rfl];rfl
 have H0:=qh h0;clear h0;go_enter func221,ntmps221;go_wp2_with fail;go_loopw [8,3,5] (fun i s _ wr=>∃k:Nat,k<=ls.length∧i = .int .i64 k∧s = .string (bs (ofI (aV (ls.take k))))∧Ext w wr) (fun i _ _ _=>ls.length-(intOf i).toNat)
 case atStart=>exact⟨0,by omega,rfl,H0.out,iD _⟩
 case round =>
  obtain⟨k,hk,rfl,rfl,hx⟩:=hrel;have HX:=qh hx;clear hx;by_cases hlt:k<ls.length
  ·obtain⟨b,o,rfl,hb,c0⟩:=(HA.out.ext HX.out).at_ hlt;have ha:=iL (ofI (aV (ls.take k))) (ls[k]'hlt) (by have:=BR ls k HS.out hn;omega) (by have:=HS.out _ (Ml hlt);omega);rw[valI_ofI,←yT,←Mo hlt]at ha;have HAD:=qh ha;clear ha;generalize (ls[k]'hlt)=x at *;generalize hz:ofI (aV (ls.take (k+1)))=z at *;have HZ:=qh hz;generalize ofI (aV (ls.take k))=y at *;clear hz;go_wp2_with fail;refine(HAD.out _ (HE.out.ext HX.out)).mono ?_;rintro e w1⟨rfl,hx1⟩;replace HX:=HX.qt hx1;clear hx1;go_wp2_with fail;go_roundw
   case rel=>exact⟨k+1,by omega,by go_num,by rw[HZ.out],HX.out⟩
   case measure=>simp[intOf];omega
  ·have HF:Hid (ls.take k=ls):=qh (Mv (by omega));go_wp2_with fail;go_ret;exact⟨by rw[HF.out];rfl,HX.out⟩
theorem yU(a:Bs)(ha:a.length<=4000)(hc:checkI a=0)(h0:0<=valI a)(W:World)(hE:Env W):Calls prog 219 #[.string (bs a)] W fun e w'=>e = .returned (.bool false)∧Ext W w':=by
 have k1:=dq a (by omega);rw[hc]at k1;have n1:=qd a (by omega);rw[show decide (valI a<0)=false by rw[Mi];omega]at n1;have K1:=qh k1;have N1:=qh n1;have HE:=qh hE;clear k1 n1 hE hc h0;go_enter func219,ntmps219;go_wp2_with fail;refine(K1.out _ HE.out).mono ?_;rintro e w1⟨rfl,hx1⟩;have HX:=qh hx1;clear hx1;go_wp2_with fail;refine(N1.out _ (HE.out.ext HX.out)).mono ?_;rintro e w2⟨rfl,hx1⟩;replace HX:=HX.qt hx1;clear hx1;go_wp2_with fail;go_ret;exact⟨rfl,HX.out⟩
structure WtOK (ls:List Bs):Prop where
 pos:0<ls.length
 le:ls.length<=1000
 sm:∀x ∈ ls,x.length<=4000
 ok:∀x ∈ ls,checkI x=0
 nn:∀x ∈ ls,0<=valI x
 sum:0<aV ls
theorem BS(t:Bs)(ls:List Bs)(A:Option Addr)(c:Nat)(w:World)(hE:Env w)(hA:RdS w A ls)(ht:t.length<=4000)(htc:checkI t=0)(hW:WtOK ls) :
  Calls prog 148 #[.string (bs t),.slice A ls.length c] w fun e w'=>e = .returned (.int .i64 0)∧Ext w w':=by
 have HE:=qh hE;have k1:=dq t (by omega);rw[htc]at k1;have K1:=qh k1;have HCF:=qh (fun W hx=>yN 219 #[] (fun _ _=>by rfl) (fun _=>false) ls A c W (hA.ext hx) (by have:=hW.le;omega) (fun a ha V hv=>yU a (hW.sm a ha) (hW.ok a ha) (hW.nn a ha) V ((hE.ext hx).ext hv)));rw[show ls.any (fun _=>false)=false by simp]at HCF;have HWH:=qh (fun W hx=>tU ls A c W (hE.ext hx) (hA.ext hx) hW.sm (by have:=hW.le;omega));have g1:((ls.length:Int) == 0)=false:=by rw[Mt];have:=hW.pos;omega
 have g2:decide (1000<(ls.length:Int))=false:=by rw[Mi];have:=hW.le;omega
 have g3:(ofI (aV ls)).isEmpty=false:=by
  cases hh:ofI (aV ls) with
  |nil=>have:=cK.1 hh;have:=hW.sum;omega
  |cons _ _=>rfl
 clear hE hA k1 hW ht htc;generalize ofI (aV ls)=z at *;have HX:Hid (Ext w w):=qh (iD w);go_enter func148,ntmps148;go_wp2_with fail;refine(K1.out _ HE.out).mono ?_;rintro e w1⟨rfl,hx1⟩;replace HX:=HX.qt hx1;clear hx1;go_wp2_with fail;refine(HCF.out _ HX.out).mono ?_;rintro e w2⟨rfl,hx1⟩;replace HX:=HX.qt hx1;clear hx1;go_wp2_with fail;refine(HWH.out _ HX.out).mono ?_;rintro e w3⟨rfl,hx1⟩;replace HX:=HX.qt hx1;clear hx1;go_wp2_with fail;go_ret;exact⟨rfl,HX.out⟩
theorem vO{n:Nat}(h1:1<=n)(h:n<=100000000):Lib.parseIntB 64 (dig10 n) = .ok (n:Int):=by
 have hne:=dig10_ne (n:=n) (by omega);have hall:=dig10_all n;have hval:=natOf_dig10 n;have hlen:=dig10_len (g:=n) (L:=9) (by omega);have hp:=parse_small (dig10 n) hall hne hlen;rw[hval]at hp;generalize dig10 n=t at *;obtain⟨c,r,rfl⟩:=OM hne;have hc:isD c=true:=by simp only[NH,MJ]at hall;exact hall.1
 have hc2:=(isD_iff c).1 hc;unfold Lib.parseIntB;simp only;rw[Mj (by omega),hp];simp only;rw[Mj (by omega),Mj (by omega),Mj (by omega)]
theorem qg(n:Nat):printI (ofI (n:Int))=if n=0 then [48] else dig10 n:=by
 unfold printI;rw[canon_ofI,valI_ofI];by_cases h:n=0
 ·subst h;rw[Mq (show ofI ((0:Nat):Int)=[] from cK.2 rfl),Mq rfl]
 ·rw[Mj (by rw[cK];omega),Mj h];unfold ofI;rw[Mj (by omega)];simp
theorem vP{n:Nat}(h:n<=100000000):Lib.parseIntB 64 (printI (ofI (n:Int))) = .ok (n:Int):=by
 rw[qg];by_cases h0:n=0
 ·subst h0;decide +kernel
 ·rw[Mj h0];exact vO (by omega) h
theorem GN(n:Nat)(h:n<=100000000):bJ 305 #[.string (bs (ofI (n:Int)))] (.tuple #[.int .i64 (n:Int),.bool true]):=by
 intro w hE;have hl:(ofI (n:Int)).length<=10:=bz (L:=9) (by omega);have HP:=qh (fun W=>intPrint (ofI (n:Int)) W (by omega))
 have hpl:(printI (ofI (n:Int))).length<=10:=by
  rw[qg];split
  ·simp
  ·have:=dig10_len (g:=n) (L:=9) (by omega);omega
 have HI:=qh (fun W=>strconv_ParseInt_10_at64_ok (bs (printI (ofI (n:Int)))) (by rw[size_bs];omega) n (by rw[data_bs];exact vP h) W);generalize printI (ofI (n:Int))=p at *;generalize ofI (n:Int)=z at *;clear hE;go_enter func305,ntmps305;go_wp2_with fail;refine(HP.out _).mono ?_;rintro e w1⟨rfl,hx1⟩;have HX:=qh hx1;clear hx1;go_wp2_with fail;refine(HI.out _).mono ?_;rintro e w2⟨rfl,hx⟩
 have hx2:Ext w1 w2:=by
  rcases hx with rfl | ⟨t,rfl⟩
  ·exact iD _
  ·exact sB _ _ _
 replace HX:=HX.qt hx2;clear hx hx2;go_wp2_with fail;go_ret2;exact⟨rfl,HX.out⟩
end
end Go.Proofs.YtaegjkllenlfpaaGreatDoor
