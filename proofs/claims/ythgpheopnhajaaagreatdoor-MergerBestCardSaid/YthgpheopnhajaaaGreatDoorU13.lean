/- The seat's texts, part U13. -/
import Derived.Test.YthgpheopnhajaaaGreatDoorU9
import Derived.Test.YthgpheopnhajaaaGreatDoorU11
import Derived.Test.YthgpheopnhajaaaGreatDoorU12
import Derived.BigQuiet
import Derived.Deep.RegionHeld3
set_option maxRecDepth 100000
set_option maxHeartbeats 8000000
namespace Go.Proofs.YthgpheopnhajaaaGreatDoor
section
open Go.RowKit
attribute [local go_sem] size_bs toList_bs
theorem refExact (a b:Bs) (ha:a.length≤100000) (hb:b.length≤100000) (h0:valI b≠0) :
  PureR 283 #[.string (bs a),.string (bs b)] (.string (bs (ofI (divF (valI a) (valI b))))):=by
 intro w
 have HD:=Lib.hid (refDivP a b ha hb h0)
 generalize ofI (divF (valI a) (valI b))=q at *
 generalize ofI (modF (valI a) (valI b))=r at *
 clear ha hb h0
 go_enter Tryz.func283,Tryz.ntmps283
 go_wp2_with fail
 refine (HD.out _).mono ?_
 rintro e w1 ⟨rfl,hx1⟩
 have HX:=Lib.hid hx1
 clear hx1
 go_wp2_with fail
 go_ret
 exact ⟨rfl,HX.out⟩
theorem refReduced (n d:Bs) (hn:n.length≤90000) (hd:d.length≤90000) (h0:0<valI d) :
  PureR 228 #[.string (bs n),.string (bs d)] (fv (ofQ (Rat.divInt (valI n) (valI d)))):=by
 intro w
 have HZ:=Lib.hid (fun W=>refZero n W (by omega))
 have HB:=Lib.hid (Blk.new w 26 #[.string ⟨#[]⟩,.string ⟨#[]⟩])
 have HX:Hid (Ext w (w.alloc (.cells #[.string ⟨#[]⟩,.string ⟨#[]⟩] 26))):=Lib.hid (Ext.new _ _)
 by_cases hz:valI n=0
 ·have hv:ofQ (Rat.divInt (valI n) (valI d))=⟨[],[]⟩:=by rw [hz,Rat.zero_divInt,ofQ_zero]
  rw [hv]
  rw [hz] at HZ
  clear hv hz h0 hn hd
  go_enter Tryz.func228,Tryz.ntmps228
  go_wp2_with fail
  refine (HZ.out _).mono ?_
  rintro e w1 ⟨rfl,rfl⟩
  go_wp2_with fail
  refine bodyPost_ret (results_fr rfl _ _ w.heap.size (.string ⟨#[]⟩) (.string ⟨#[]⟩) rfl HB.out) rfl ?_
  exact ⟨rfl,HX.out⟩
 ·have hzb:decide (valI n=0)=false:=by rw [decide_eq_false_iff_not];exact hz
  rw [hzb] at HZ
  have hdne:valI d≠0:=by omega
  have hr:=(red_of (n:=valI n) hdne).2 (by omega)
  have hgp:=gcd_pos (n:=valI n) hdne
  have hgle:=gcd_abs_le (n:=valI n) hdne
  have hgl:(ofI (Int.gcd (valI n) (valI d):Nat)).length≤90001:=ofI_lt10' (l:=d) (by rw [Int.natAbs_natCast];exact hgle) hd
  have HG:=Lib.hid (refGcd n d hn hd)
  have h1:=refExact n (ofI (Int.gcd (valI n) (valI d):Nat)) (by omega) (by omega) (by rw [valI_ofI];omega)
  have h2:=refExact d (ofI (Int.gcd (valI n) (valI d):Nat)) (by omega) (by omega) (by rw [valI_ofI];omega)
  rw [valI_ofI] at h1 h2
  rw [hr.1] at h1
  rw [hr.2] at h2
  have HE1:=Lib.hid h1
  have HE2:=Lib.hid h2
  have hv:ofQ (Rat.divInt (valI n) (valI d))=⟨ofI (redN (valI n) (valI d)),if redD (valI n) (valI d)=1 then [] else ofI (redD (valI n) (valI d))⟩:=by
   unfold ofQ
   rw [← redN_num hdne,← redD_den hdne]
   congr 1
   by_cases h:redD (valI n) (valI d)=1
   ·rw [if_pos h,if_pos (by rw [redD_den hdne] at h;omega)]
   ·rw [if_neg h,if_neg (by rw [redD_den hdne] at h;omega)]
  have hrl:(ofI (redD (valI n) (valI d))).length≤90001:=ofI_lt10' (l:=d) (by
   unfold redD
   rw [Int.natAbs_natCast]
   exact Nat.div_le_self _ _) hd
  rw [hv]
  have HC:=Lib.hid (fun W=>refCmp (ofI (redD (valI n) (valI d))) [49] W (by omega) (by simp))
  rw [valI_ofI,valI_one] at HC
  generalize redN (valI n) (valI d)=rn at *
  generalize redD (valI n) (valI d)=rd at *
  generalize ofI (Int.gcd (valI n) (valI d):Nat)=gs at *
  clear hv h1 h2 hr hgp hgle hgl hdne hz h0 hn hd hrl
  by_cases h1:rd=1
  ·have hc:(cmpI rd 1 == 0)=true:=by rw [beq_iff_eq,cmpI_zero];exact h1
   rw [if_pos h1]
   clear h1
   generalize cmpI rd 1=cc at *
   go_enter Tryz.func228,Tryz.ntmps228
   go_wp2_with fail
   refine (HZ.out _).mono ?_
   rintro e w1 ⟨rfl,rfl⟩
   go_wp2_with fail
   refine (HG.out _).mono ?_
   rintro e v2 ⟨rfl,hx1⟩
   replace HB:=Lib.hid (HB.out.ext hx1)
   replace HX:=Lib.hid (HX.out.trans hx1)
   clear hx1
   go_wp2_with fail
   refine (HE1.out _).mono ?_
   rintro e v3 ⟨rfl,hx1⟩
   replace HB:=Lib.hid (HB.out.ext hx1)
   replace HX:=Lib.hid (HX.out.trans hx1)
   clear hx1
   go_wp2_with fail
   refine (HE2.out _).mono ?_
   rintro e w5 ⟨rfl,hx1⟩
   replace HB:=Lib.hid (HB.out.ext hx1)
   replace HX:=Lib.hid (HX.out.trans hx1)
   clear hx1
   have hgw:w.heap.size<w5.heap.size:=HB.out.lt
   have HB6:=Lib.hid (Blk.new w5 26 #[.string (bs (ofI rn)),.string (bs (ofI rd))])
   replace HB:=Lib.hid (HB.out.alloc (.cells #[.string (bs (ofI rn)),.string (bs (ofI rd))] 26))
   replace HX:=Lib.hid (HX.out.alloc (.cells #[.string (bs (ofI rn)),.string (bs (ofI rd))] 26))
   go_upto_region 5 with fail
   generalize w5.alloc (.cells #[.string (bs (ofI rn)),.string (bs (ofI rd))] 26)=W at *
   generalize w5.heap.size=P at *
   obtain ⟨p0,p1,p2,p3⟩:=frBlk HB6.out (Ext.refl _)
   go_wp2_with fail
   go_quiet ((first | (go_at_call 226;exact quiet_same (refOne _)) | (go_at_call 130;exact quiet_same (HC.out _))))
   replace HB:=Lib.hid (HB.out.drewN nq)
   replace HB6:=Lib.hid (HB6.out.drewN nq)
   replace HX:=Lib.hid (HX.out.drewN nq)
   generalize W.drewN nq=W2 at *
   clear p0 p1 p2 p3
   obtain ⟨p0,p1,p2,p3⟩:=frBlk HB6.out (Ext.refl _)
   obtain ⟨q0,q1,f0,f1⟩:=frBlk HB.out (Ext.refl _)
   have hne1:w.heap.size≠P:=by omega
   have hne2:P≠w.heap.size:=by omega
   go_wp2_with fail
   refine bodyPost_ret (results_fr rfl _ _ w.heap.size (.string (bs (ofI rn))) (.string ⟨#[]⟩) rfl (((HB.out.far (p:=⟨P,1,none⟩) hne1 _).set_ 0 _).set_ 1 _)) rfl ?_
   exact ⟨rfl,((HX.out.setCell (p:=⟨P,1,none⟩) (Nat.le_of_lt hgw) _).setCell (p:=⟨w.heap.size,0,none⟩) (Nat.le_refl _) _).setCell (p:=⟨w.heap.size,1,none⟩) (Nat.le_refl _) _⟩
  ·have hc:(cmpI rd 1 == 0)=false:=by rw [beq_eq_false_iff_ne,Ne,cmpI_zero];exact h1
   rw [if_neg h1]
   clear h1
   generalize cmpI rd 1=cc at *
   go_enter Tryz.func228,Tryz.ntmps228
   go_wp2_with fail
   refine (HZ.out _).mono ?_
   rintro e w1 ⟨rfl,rfl⟩
   go_wp2_with fail
   refine (HG.out _).mono ?_
   rintro e v7 ⟨rfl,hx1⟩
   replace HB:=Lib.hid (HB.out.ext hx1)
   replace HX:=Lib.hid (HX.out.trans hx1)
   clear hx1
   go_wp2_with fail
   refine (HE1.out _).mono ?_
   rintro e v8 ⟨rfl,hx1⟩
   replace HB:=Lib.hid (HB.out.ext hx1)
   replace HX:=Lib.hid (HX.out.trans hx1)
   clear hx1
   go_wp2_with fail
   refine (HE2.out _).mono ?_
   rintro e w5 ⟨rfl,hx1⟩
   replace HB:=Lib.hid (HB.out.ext hx1)
   replace HX:=Lib.hid (HX.out.trans hx1)
   clear hx1
   have hgw:w.heap.size<w5.heap.size:=HB.out.lt
   have HB6:=Lib.hid (Blk.new w5 26 #[.string (bs (ofI rn)),.string (bs (ofI rd))])
   replace HB:=Lib.hid (HB.out.alloc (.cells #[.string (bs (ofI rn)),.string (bs (ofI rd))] 26))
   replace HX:=Lib.hid (HX.out.alloc (.cells #[.string (bs (ofI rn)),.string (bs (ofI rd))] 26))
   go_upto_region 5 with fail
   generalize w5.alloc (.cells #[.string (bs (ofI rn)),.string (bs (ofI rd))] 26)=W at *
   generalize w5.heap.size=P at *
   obtain ⟨p0,p1,p2,p3⟩:=frBlk HB6.out (Ext.refl _)
   go_wp2_with fail
   go_quiet ((first | (go_at_call 226;exact quiet_same (refOne _)) | (go_at_call 130;exact quiet_same (HC.out _))))
   replace HB:=Lib.hid (HB.out.drewN nq)
   replace HB6:=Lib.hid (HB6.out.drewN nq)
   replace HX:=Lib.hid (HX.out.drewN nq)
   generalize W.drewN nq=W2 at *
   clear p0 p1 p2 p3
   obtain ⟨p0,p1,p2,p3⟩:=frBlk HB6.out (Ext.refl _)
   obtain ⟨q0,q1,f0,f1⟩:=frBlk HB.out (Ext.refl _)
   have hne1:w.heap.size≠P:=by omega
   have hne2:P≠w.heap.size:=by omega
   go_wp2_with fail
   refine bodyPost_ret (results_fr rfl _ _ w.heap.size (.string (bs (ofI rn))) (.string (bs (ofI rd))) rfl ((HB.out.set_ 0 _).set_ 1 _)) rfl ?_
   exact ⟨rfl,(HX.out.setCell (p:=⟨w.heap.size,0,none⟩) (Nat.le_refl _) _).setCell (p:=⟨w.heap.size,1,none⟩) (Nat.le_refl _) _⟩
theorem frQ_two {n d:Bs} (h:valI d≠0):frQ ⟨n,d⟩=Rat.divInt (valI n) (valI d):=by
 unfold frQ frN frD;rw [if_neg h]
def rawN (f:Fr):Bs:=if valI f.den<0 then ofI (-(valI f.num)) else f.num
def rawD (f:Fr):Bs:=if valI f.den=0 then [49] else if valI f.den<0 then ofI (-(valI f.den)) else f.den
theorem rawD_pos (f:Fr):0<valI (rawD f):=by
 unfold rawD
 split
 ·rw [valI_one];decide
 ·split
  ·rw [valI_ofI];omega
  ·omega
theorem raw_frQ (f:Fr):Rat.divInt (valI (rawN f)) (valI (rawD f))=frQ f:=by
 unfold rawN rawD frQ frN frD
 by_cases h0:valI f.den=0
 ·rw [if_neg (by omega),if_pos h0,if_pos h0,valI_one]
 ·by_cases h1:valI f.den<0
  ·rw [if_pos h1,if_neg h0,if_pos h1,if_neg h0,valI_ofI,valI_ofI,Rat.neg_divInt_neg]
  ·rw [if_neg h1,if_neg h0,if_neg h1,if_neg h0]
theorem raw_len (f:Fr) {L:Nat} (h1:f.num.length≤L) (h2:f.den.length≤L) (_h:1≤L):(rawN f).length≤L+1∧(rawD f).length≤L+1:=by
 unfold rawN rawD
 constructor
 ·split
  ·exact neg_len h1
  ·omega
 ·split
  ·simp
  ·split
   ·exact neg_len h2
   ·omega
theorem refRaw (f:Fr) (h1:f.num.length≤90000) (h2:f.den.length≤90000):PureR 165 #[fv f] (.tuple #[.string (bs (rawN f)),.string (bs (rawD f))]):=by
 intro w
 obtain ⟨n,d⟩:=f
 have HZ:=Lib.hid (fun W=>refZero d W (by simp only at h2;omega))
 have HC:=Lib.hid (fun W=>refCmp0 d W (by simp only at h2;omega))
 have HN1:=Lib.hid (fun W=>refNeg n W (by simp only at h1;omega))
 have HN2:=Lib.hid (fun W=>refNeg d W (by simp only at h2;omega))
 have HB:=Lib.hid (Blk.new w 26 #[.string (bs n),.string (bs d)])
 have HX:Hid (Ext w (w.alloc (.cells #[.string (bs n),.string (bs d)] 26))):=Lib.hid (Ext.new _ _)
 unfold rawN rawD
 simp only
 clear h1 h2
 by_cases h0:valI d=0
 ·have g:decide (valI d=0)=true:=decide_eq_true h0
  rw [g] at HZ
  rw [if_pos h0,if_neg (by omega)]
  clear h0 g HC HN1 HN2
  go_enter Tryz.func165,Tryz.ntmps165
  go_wp2_with fail
  refine (HZ.out _).mono ?_
  rintro e w1 ⟨rfl,rfl⟩
  obtain ⟨q0,q1,f0,f1⟩:=frBlk HB.out (Ext.refl _)
  go_wp2_with fail
  go_quiet ((go_at_call 226;exact quiet_same (refOne _)))
  go_wp2_with fail
  go_ret2
  exact ⟨rfl,HX.out.drewN _⟩
 ·have g:decide (valI d=0)=false:=decide_eq_false h0
  rw [g] at HZ
  rw [if_neg h0]
  by_cases h1:valI d<0
  ·have hc:decide (cmpI (valI d) 0<0)=true:=by rw [decide_eq_true_iff];exact cmpI_neg.2 h1
   rw [if_pos h1,if_pos h1]
   generalize cmpI (valI d) 0=cc at *
   clear h0 g h1
   go_enter Tryz.func165,Tryz.ntmps165
   go_wp2_with fail
   refine (HZ.out _).mono ?_
   rintro e w1 ⟨rfl,rfl⟩
   obtain ⟨q0,q1,f0,f1⟩:=frBlk HB.out (Ext.refl _)
   go_wp2_with fail
   refine (HC.out _).mono ?_
   rintro e w1 ⟨rfl,rfl⟩
   go_wp2_with fail
   go_quiet ((go_at_call 125;first | (with_reducible exact quiet_same (HN1.out _)) | (with_reducible exact quiet_same (HN2.out _))))
   go_wp2_with fail
   go_ret2
   exact ⟨rfl,HX.out.drewN _⟩
  ·have hc:decide (cmpI (valI d) 0<0)=false:=by rw [decide_eq_false_iff_not,cmpI_neg];exact h1
   rw [if_neg h1,if_neg h1]
   generalize cmpI (valI d) 0=cc at *
   clear h0 g h1 HN1 HN2
   go_enter Tryz.func165,Tryz.ntmps165
   go_wp2_with fail
   refine (HZ.out _).mono ?_
   rintro e w1 ⟨rfl,rfl⟩
   obtain ⟨q0,q1,f0,f1⟩:=frBlk HB.out (Ext.refl _)
   go_wp2_with fail
   refine (HC.out _).mono ?_
   rintro e w1 ⟨rfl,rfl⟩
   go_wp2_with fail
   go_quiet (fail)
   go_wp2_with fail
   go_ret2
   exact ⟨rfl,HX.out.drewN _⟩
end
section
open Go.RowKit
attribute [local go_sem] size_bs toList_bs
theorem mulR (a b:Bs) (ha:a.length≤100000) (hb:b.length≤100000):PureR 166 #[.string (bs a),.string (bs b)] (.string (bs (ofI (valI a*valI b)))):=fun W=>refMul a b W ha hb
theorem addR (a b:Bs) (ha:a.length≤100000) (hb:b.length≤100000):PureR 121 #[.string (bs a),.string (bs b)] (.string (bs (ofI (valI a+valI b)))):=fun W=>refAdd a b W ha hb
theorem still {f:FuncId} {args:Array Value} {v:Value} {W:World} (h:Calls Tryz.prog f args W fun e w'=>e = .returned v∧W=w'):Calls Tryz.prog f args W fun e w'=>e = .returned v∧Ext W w' :=
 h.mono fun _ _ ⟨h1,h2⟩=>⟨h1,h2 ▸ Ext.refl _⟩
theorem negR (a:Bs) (ha:a.length≤100000):PureR 125 #[.string (bs a)] (.string (bs (ofI (-(valI a))))):=fun W=>still (refNeg a W (by omega))
theorem cmpR (a b:Bs) (ha:a.length≤100000) (hb:b.length≤100000):PureR 130 #[.string (bs a),.string (bs b)] (.int .i64 (cmpI (valI a) (valI b))):=fun W=>still (refCmp a b W (by omega) (by omega))
theorem oneR:PureR 226 #[] (.string (bs [49])):=fun W=>still (refOne W)
theorem zeroR (a:Bs) (ha:a.length≤100000):PureR 225 #[.string (bs a)] (.bool (decide (valI a=0))):=fun W=>still (refZero a W (by omega))
theorem refCanon (f:Fr) (h1:f.num.length≤80000) (h2:f.den.length≤80000):PureR 284 #[fv f] (fv (ofQ (frQ f))):=by
 intro w
 obtain ⟨l1,l2⟩:=raw_len f h1 h2 (by omega)
 have hr:=refReduced (rawN f) (rawD f) (by omega) (by omega) (rawD_pos f)
 rw [raw_frQ] at hr
 have HR:=Lib.hid hr
 have HW:=Lib.hid (refRaw f (by omega) (by omega))
 generalize ofQ (frQ f)=r at *
 generalize rawN f=rn at *
 generalize rawD f=rd at *
 obtain ⟨n1,e1⟩:=f
 clear hr l1 l2 h1 h2
 have HB1:=Lib.hid ((Blk.new w 26 #[.string (bs n1),.string (bs e1)]).alloc (.cells #[.string ⟨#[]⟩,.string ⟨#[]⟩] 26))
 have HB:=Lib.hid (Blk.newAt (w.alloc (.cells #[.string (bs n1),.string (bs e1)] 26)) 26 #[.string ⟨#[]⟩,.string ⟨#[]⟩] (w.heap.size+1) (by simp))
 have HX:Hid (Ext w ((w.alloc (.cells #[.string (bs n1),.string (bs e1)] 26)).alloc (.cells #[.string ⟨#[]⟩,.string ⟨#[]⟩] 26))):=Lib.hid ((Ext.new _ _).alloc _)
 clear HB1
 go_enter Tryz.func284,Tryz.ntmps284
 go_wp2_with fail
 refine (HW.out _).mono ?_
 rintro e v2 ⟨rfl,hx1⟩
 replace HB:=Lib.hid (HB.out.ext hx1)
 replace HX:=Lib.hid (HX.out.trans hx1)
 clear hx1
 go_wp2_with fail
 refine (HR.out _).mono ?_
 rintro e v3 ⟨rfl,hx1⟩
 replace HB:=Lib.hid (HB.out.ext hx1)
 replace HX:=Lib.hid (HX.out.trans hx1)
 clear hx1
 obtain ⟨q0,q1,f0,f1⟩:=frBlk HB.out (Ext.refl _)
 go_wp2_with fail
 refine bodyPost_ret (results_fr rfl _ _ (w.heap.size+1) (.string (bs r.num)) (.string (bs r.den)) rfl ((HB.out.set_ 0 _).set_ 1 _)) rfl ?_
 exact ⟨rfl,(HX.out.setCell (p:=⟨w.heap.size+1,0,none⟩) (by show w.heap.size≤w.heap.size+1;omega) _).setCell (p:=⟨w.heap.size+1,1,none⟩) (by show w.heap.size≤w.heap.size+1;omega) _⟩
theorem refNew (n d:Bs) (hn:n.length≤80000) (hd:d.length≤80000) (h0:valI d≠0) :
  PureR 244 #[.string (bs n),.string (bs d)] (.tuple #[fv (ofQ (Rat.divInt (valI n) (valI d))),.int .i64 0]):=by
 intro w
 have hc:=refCanon ⟨n,d⟩ hn hd
 rw [frQ_two h0] at hc
 have HC:=Lib.hid hc
 have hz:=zeroR d (by omega)
 rw [decide_eq_false h0] at hz
 have HZ:=Lib.hid hz
 have HB:=Lib.hid (Blk.new w 26 #[.string ⟨#[]⟩,.string ⟨#[]⟩])
 have HX:Hid (Ext w (w.alloc (.cells #[.string ⟨#[]⟩,.string ⟨#[]⟩] 26))):=Lib.hid (Ext.new _ _)
 generalize ofQ (Rat.divInt (valI n) (valI d))=r at *
 clear hc hz h0 hn hd
 go_enter Tryz.func244,Tryz.ntmps244
 go_wp2_with fail
 refine (HZ.out _).mono ?_
 rintro e v5 ⟨rfl,hx1⟩
 replace HB:=Lib.hid (HB.out.ext hx1)
 replace HX:=Lib.hid (HX.out.trans hx1)
 clear hx1
 go_wp2_with fail
 refine (HC.out _).mono ?_
 rintro e v6 ⟨rfl,hx1⟩
 replace HB:=Lib.hid (HB.out.ext hx1)
 replace HX:=Lib.hid (HX.out.trans hx1)
 clear hx1
 obtain ⟨q0,q1,f0,f1⟩:=frBlk HB.out (Ext.refl _)
 go_wp2_with fail
 refine bodyPost_ret (results_fr2 rfl _ _ w.heap.size (.string (bs r.num)) (.string (bs r.den)) (.int .i64 0) rfl rfl ((HB.out.set_ 0 _).set_ 1 _)) rfl ?_
 exact ⟨rfl,(HX.out.setCell (p:=⟨w.heap.size,0,none⟩) (Nat.le_refl _) _).setCell (p:=⟨w.heap.size,1,none⟩) (Nat.le_refl _) _⟩
theorem refOfF (a:Bs) (ha:a.length≤80000):PureR 197 #[.string (bs a)] (fv (ofQ (valI a:Int))):=by
 intro w
 have hr:=refReduced a [49] (by omega) (by simp) (by rw [valI_one];decide)
 rw [valI_one,divInt_one] at hr
 have HR:=Lib.hid hr
 have HO:=Lib.hid oneR
 have HB:=Lib.hid (Blk.new w 26 #[.string ⟨#[]⟩,.string ⟨#[]⟩])
 have HX:Hid (Ext w (w.alloc (.cells #[.string ⟨#[]⟩,.string ⟨#[]⟩] 26))):=Lib.hid (Ext.new _ _)
 generalize ofQ (valI a:Int)=r at *
 clear hr
 go_enter Tryz.func197,Tryz.ntmps197
 go_wp2_with fail
 refine (HO.out _).mono ?_
 rintro e v8 ⟨rfl,hx1⟩
 replace HB:=Lib.hid (HB.out.ext hx1)
 replace HX:=Lib.hid (HX.out.trans hx1)
 clear hx1
 go_wp2_with fail
 refine (HR.out _).mono ?_
 rintro e v9 ⟨rfl,hx1⟩
 replace HB:=Lib.hid (HB.out.ext hx1)
 replace HX:=Lib.hid (HX.out.trans hx1)
 clear hx1
 obtain ⟨q0,q1,f0,f1⟩:=frBlk HB.out (Ext.refl _)
 go_wp2_with fail
 refine bodyPost_ret (results_fr rfl _ _ (w.heap.size) (.string (bs r.num)) (.string (bs r.den)) rfl ((HB.out.set_ 0 _).set_ 1 _)) rfl ?_
 exact ⟨rfl,(HX.out.setCell (p:=⟨w.heap.size,0,none⟩) (by show w.heap.size≤w.heap.size;omega) _).setCell (p:=⟨w.heap.size,1,none⟩) (by show w.heap.size≤w.heap.size;omega) _⟩
theorem refNegF (f:Fr) (h1:f.num.length≤80000) (h2:f.den.length≤80000):PureR 286 #[fv f] (fv (ofQ (-(frQ f)))):=by
 intro w
 obtain ⟨l1,l2⟩:=raw_len f h1 h2 (by omega)
 have hnl:=neg_len l1
 have hr:=refReduced (ofI (-(valI (rawN f)))) (rawD f) (by omega) (by omega) (rawD_pos f)
 rw [valI_ofI,← Rat.neg_divInt,raw_frQ] at hr
 have HR:=Lib.hid hr
 have HN:=Lib.hid (negR (rawN f) (by omega))
 have HW:=Lib.hid (refRaw f (by omega) (by omega))
 generalize ofQ (-(frQ f))=r at *
 generalize ofI (-(valI (rawN f)))=nn at *
 generalize rawN f=rn at *
 generalize rawD f=rd at *
 obtain ⟨n1,e1⟩:=f
 clear hr l1 l2 h1 h2 hnl
 have HB1:=Lib.hid ((Blk.new w 26 #[.string (bs n1),.string (bs e1)]).alloc (.cells #[.string ⟨#[]⟩,.string ⟨#[]⟩] 26))
 have HB:=Lib.hid (Blk.newAt (w.alloc (.cells #[.string (bs n1),.string (bs e1)] 26)) 26 #[.string ⟨#[]⟩,.string ⟨#[]⟩] (w.heap.size+1) (by simp))
 have HX:Hid (Ext w ((w.alloc (.cells #[.string (bs n1),.string (bs e1)] 26)).alloc (.cells #[.string ⟨#[]⟩,.string ⟨#[]⟩] 26))):=Lib.hid ((Ext.new _ _).alloc _)
 clear HB1
 go_enter Tryz.func286,Tryz.ntmps286
 go_wp2_with fail
 refine (HW.out _).mono ?_
 rintro e v12 ⟨rfl,hx1⟩
 replace HB:=Lib.hid (HB.out.ext hx1)
 replace HX:=Lib.hid (HX.out.trans hx1)
 clear hx1
 go_wp2_with fail
 refine (HN.out _).mono ?_
 rintro e v13 ⟨rfl,hx1⟩
 replace HB:=Lib.hid (HB.out.ext hx1)
 replace HX:=Lib.hid (HX.out.trans hx1)
 clear hx1
 go_wp2_with fail
 refine (HR.out _).mono ?_
 rintro e v14 ⟨rfl,hx1⟩
 replace HB:=Lib.hid (HB.out.ext hx1)
 replace HX:=Lib.hid (HX.out.trans hx1)
 clear hx1
 obtain ⟨q0,q1,f0,f1⟩:=frBlk HB.out (Ext.refl _)
 go_wp2_with fail
 refine bodyPost_ret (results_fr rfl _ _ (w.heap.size+1) (.string (bs r.num)) (.string (bs r.den)) rfl ((HB.out.set_ 0 _).set_ 1 _)) rfl ?_
 exact ⟨rfl,(HX.out.setCell (p:=⟨w.heap.size+1,0,none⟩) (by show w.heap.size≤w.heap.size+1;omega) _).setCell (p:=⟨w.heap.size+1,1,none⟩) (by show w.heap.size≤w.heap.size+1;omega) _⟩
theorem refAddF (f h:Fr) (h1:f.num.length≤20000) (h2:f.den.length≤20000) (h3:h.num.length≤20000) (h4:h.den.length≤20000) :
  PureR 167 #[fv f,fv h] (fv (ofQ (frQ f+frQ h))):=by
 intro w
 obtain ⟨l1,l2⟩:=raw_len f h1 h2 (by omega)
 obtain ⟨l3,l4⟩:=raw_len h h3 h4 (by omega)
 have p1:=rawD_pos f
 have p2:=rawD_pos h
 have m1:=mul_len l1 l4
 have m2:=mul_len l3 l2
 have m3:=mul_len l2 l4
 have m4:=add_len m1 m2
 have hr:=refReduced (ofI (valI (ofI (valI (rawN f)*valI (rawD h)))+valI (ofI (valI (rawN h)*valI (rawD f))))) (ofI (valI (rawD f)*valI (rawD h))) (by omega) (by omega) (by rw [valI_ofI];exact Int.mul_pos p1 p2)
 have he:Rat.divInt (valI (rawN f)*valI (rawD h)+valI (rawN h)*valI (rawD f)) (valI (rawD f)*valI (rawD h))=frQ f+frQ h:=by
  rw [← raw_frQ f,← raw_frQ h,Rat.divInt_add_divInt _ _ (by omega) (by omega)]
 simp only [valI_ofI] at hr m4
 rw [he] at hr
 have HR:=Lib.hid hr
 have HM1:=Lib.hid (mulR (rawN f) (rawD h) (by omega) (by omega))
 have HM2:=Lib.hid (mulR (rawN h) (rawD f) (by omega) (by omega))
 have HM3:=Lib.hid (mulR (rawD f) (rawD h) (by omega) (by omega))
 have ha:=addR (ofI (valI (rawN f)*valI (rawD h))) (ofI (valI (rawN h)*valI (rawD f))) (by omega) (by omega)
 simp only [valI_ofI] at ha
 have HA:=Lib.hid ha
 have HW1:=Lib.hid (refRaw f (by omega) (by omega))
 have HW2:=Lib.hid (refRaw h (by omega) (by omega))
 clear hr he ha l1 l2 l3 l4 p1 p2 m1 m2 m3 m4 h1 h2 h3 h4
 generalize ofQ (frQ f+frQ h)=r at *
 generalize ofI (valI (rawN f)*valI (rawD h)+valI (rawN h)*valI (rawD f))=s1 at *
 generalize ofI (valI (rawN f)*valI (rawD h))=s2 at *
 generalize ofI (valI (rawN h)*valI (rawD f))=s3 at *
 generalize ofI (valI (rawD f)*valI (rawD h))=s4 at *
 generalize rawN f=rn1 at *
 generalize rawD f=rd1 at *
 generalize rawN h=rn2 at *
 generalize rawD h=rd2 at *
 obtain ⟨n1,e1⟩:=f
 obtain ⟨n2,e2⟩:=h
 have HB:=Lib.hid (Blk.newAt ((w.alloc (.cells #[.string (bs n1),.string (bs e1)] 26)).alloc (.cells #[.string (bs n2),.string (bs e2)] 26)) 26 #[.string ⟨#[]⟩,.string ⟨#[]⟩] (w.heap.size+1+1) (by simp))
 have HB2:=Lib.hid ((Blk.newAt (w.alloc (.cells #[.string (bs n1),.string (bs e1)] 26)) 26 #[.string (bs n2),.string (bs e2)] (w.heap.size+1) (by simp)).alloc (.cells #[.string ⟨#[]⟩,.string ⟨#[]⟩] 26))
 have HX:Hid (Ext w (((w.alloc (.cells #[.string (bs n1),.string (bs e1)] 26)).alloc (.cells #[.string (bs n2),.string (bs e2)] 26)).alloc (.cells #[.string ⟨#[]⟩,.string ⟨#[]⟩] 26))):=Lib.hid (((Ext.new _ _).alloc _).alloc _)
 go_enter Tryz.func167,Tryz.ntmps167
 go_wp2_with fail
 refine (HW1.out _).mono ?_
 rintro e v17 ⟨rfl,hx1⟩
 replace HB:=Lib.hid (HB.out.ext hx1)
 replace HB2:=Lib.hid (HB2.out.ext hx1)
 replace HX:=Lib.hid (HX.out.trans hx1)
 clear hx1
 obtain ⟨b0,b1,_,_⟩:=frBlk HB2.out (Ext.refl _)
 go_wp2_with fail
 refine (HW2.out _).mono ?_
 rintro e v18 ⟨rfl,hx1⟩
 replace HB:=Lib.hid (HB.out.ext hx1)
 replace HX:=Lib.hid (HX.out.trans hx1)
 clear hx1
 go_wp2_with fail
 refine (HM1.out _).mono ?_
 rintro e v19 ⟨rfl,hx1⟩
 replace HB:=Lib.hid (HB.out.ext hx1)
 replace HX:=Lib.hid (HX.out.trans hx1)
 clear hx1
 go_wp2_with fail
 refine (HM2.out _).mono ?_
 rintro e v20 ⟨rfl,hx1⟩
 replace HB:=Lib.hid (HB.out.ext hx1)
 replace HX:=Lib.hid (HX.out.trans hx1)
 clear hx1
 go_wp2_with fail
 refine (HA.out _).mono ?_
 rintro e v21 ⟨rfl,hx1⟩
 replace HB:=Lib.hid (HB.out.ext hx1)
 replace HX:=Lib.hid (HX.out.trans hx1)
 clear hx1
 go_wp2_with fail
 refine (HM3.out _).mono ?_
 rintro e v22 ⟨rfl,hx1⟩
 replace HB:=Lib.hid (HB.out.ext hx1)
 replace HX:=Lib.hid (HX.out.trans hx1)
 clear hx1
 go_wp2_with fail
 refine (HR.out _).mono ?_
 rintro e v23 ⟨rfl,hx1⟩
 replace HB:=Lib.hid (HB.out.ext hx1)
 replace HX:=Lib.hid (HX.out.trans hx1)
 clear hx1
 obtain ⟨q0,q1,f0,f1⟩:=frBlk HB.out (Ext.refl _)
 go_wp2_with fail
 refine bodyPost_ret (results_fr rfl _ _ (w.heap.size+1+1) (.string (bs r.num)) (.string (bs r.den)) rfl ((HB.out.set_ 0 _).set_ 1 _)) rfl ?_
 exact ⟨rfl,(HX.out.setCell (p:=⟨w.heap.size+1+1,0,none⟩) (by show w.heap.size≤w.heap.size+1+1;omega) _).setCell (p:=⟨w.heap.size+1+1,1,none⟩) (by show w.heap.size≤w.heap.size+1+1;omega) _⟩
theorem refMulF (f h:Fr) (h1:f.num.length≤20000) (h2:f.den.length≤20000) (h3:h.num.length≤20000) (h4:h.den.length≤20000) :
  PureR 168 #[fv f,fv h] (fv (ofQ (frQ f*frQ h))):=by
 intro w
 obtain ⟨l1,l2⟩:=raw_len f h1 h2 (by omega)
 obtain ⟨l3,l4⟩:=raw_len h h3 h4 (by omega)
 have p1:=rawD_pos f
 have p2:=rawD_pos h
 have m1:=mul_len l1 l3
 have m3:=mul_len l2 l4
 have hr:=refReduced (ofI (valI (rawN f)*valI (rawN h))) (ofI (valI (rawD f)*valI (rawD h))) (by omega) (by omega) (by rw [valI_ofI];exact Int.mul_pos p1 p2)
 have he:Rat.divInt (valI (rawN f)*valI (rawN h)) (valI (rawD f)*valI (rawD h))=frQ f*frQ h:=by
  rw [← raw_frQ f,← raw_frQ h,Rat.divInt_mul_divInt]
 simp only [valI_ofI] at hr
 rw [he] at hr
 have HR:=Lib.hid hr
 have HM1:=Lib.hid (mulR (rawN f) (rawN h) (by omega) (by omega))
 have HM3:=Lib.hid (mulR (rawD f) (rawD h) (by omega) (by omega))
 have HW1:=Lib.hid (refRaw f (by omega) (by omega))
 have HW2:=Lib.hid (refRaw h (by omega) (by omega))
 clear hr he l1 l2 l3 l4 p1 p2 m1 m3 h1 h2 h3 h4
 generalize ofQ (frQ f*frQ h)=r at *
 generalize ofI (valI (rawN f)*valI (rawN h))=s1 at *
 generalize ofI (valI (rawD f)*valI (rawD h))=s4 at *
 generalize rawN f=rn1 at *
 generalize rawD f=rd1 at *
 generalize rawN h=rn2 at *
 generalize rawD h=rd2 at *
 obtain ⟨n1,e1⟩:=f
 obtain ⟨n2,e2⟩:=h
 have HB:=Lib.hid (Blk.newAt ((w.alloc (.cells #[.string (bs n1),.string (bs e1)] 26)).alloc (.cells #[.string (bs n2),.string (bs e2)] 26)) 26 #[.string ⟨#[]⟩,.string ⟨#[]⟩] (w.heap.size+1+1) (by simp))
 have HB2:=Lib.hid ((Blk.newAt (w.alloc (.cells #[.string (bs n1),.string (bs e1)] 26)) 26 #[.string (bs n2),.string (bs e2)] (w.heap.size+1) (by simp)).alloc (.cells #[.string ⟨#[]⟩,.string ⟨#[]⟩] 26))
 have HX:Hid (Ext w (((w.alloc (.cells #[.string (bs n1),.string (bs e1)] 26)).alloc (.cells #[.string (bs n2),.string (bs e2)] 26)).alloc (.cells #[.string ⟨#[]⟩,.string ⟨#[]⟩] 26))):=Lib.hid (((Ext.new _ _).alloc _).alloc _)
 go_enter Tryz.func168,Tryz.ntmps168
 go_wp2_with fail
 refine (HW1.out _).mono ?_
 rintro e v26 ⟨rfl,hx1⟩
 replace HB:=Lib.hid (HB.out.ext hx1)
 replace HB2:=Lib.hid (HB2.out.ext hx1)
 replace HX:=Lib.hid (HX.out.trans hx1)
 clear hx1
 obtain ⟨b0,b1,_,_⟩:=frBlk HB2.out (Ext.refl _)
 go_wp2_with fail
 refine (HW2.out _).mono ?_
 rintro e v27 ⟨rfl,hx1⟩
 replace HB:=Lib.hid (HB.out.ext hx1)
 replace HX:=Lib.hid (HX.out.trans hx1)
 clear hx1
 go_wp2_with fail
 refine (HM1.out _).mono ?_
 rintro e v28 ⟨rfl,hx1⟩
 replace HB:=Lib.hid (HB.out.ext hx1)
 replace HX:=Lib.hid (HX.out.trans hx1)
 clear hx1
 go_wp2_with fail
 refine (HM3.out _).mono ?_
 rintro e v29 ⟨rfl,hx1⟩
 replace HB:=Lib.hid (HB.out.ext hx1)
 replace HX:=Lib.hid (HX.out.trans hx1)
 clear hx1
 go_wp2_with fail
 refine (HR.out _).mono ?_
 rintro e v30 ⟨rfl,hx1⟩
 replace HB:=Lib.hid (HB.out.ext hx1)
 replace HX:=Lib.hid (HX.out.trans hx1)
 clear hx1
 obtain ⟨q0,q1,f0,f1⟩:=frBlk HB.out (Ext.refl _)
 go_wp2_with fail
 refine bodyPost_ret (results_fr rfl _ _ (w.heap.size+1+1) (.string (bs r.num)) (.string (bs r.den)) rfl ((HB.out.set_ 0 _).set_ 1 _)) rfl ?_
 exact ⟨rfl,(HX.out.setCell (p:=⟨w.heap.size+1+1,0,none⟩) (by show w.heap.size≤w.heap.size+1+1;omega) _).setCell (p:=⟨w.heap.size+1+1,1,none⟩) (by show w.heap.size≤w.heap.size+1+1;omega) _⟩
theorem cmp_raw (f h:Fr):cmpI (valI (rawN f)*valI (rawD h)) (valI (rawN h)*valI (rawD f))=cmpQ (frQ f) (frQ h):=by
 have p1:=rawD_pos f
 have p2:=rawD_pos h
 rw [← raw_frQ f,← raw_frQ h,Rat.divInt_eq_div,Rat.divInt_eq_div]
 generalize valI (rawN f)=a at *
 generalize valI (rawD f)=b at *
 generalize valI (rawN h)=c at *
 generalize valI (rawD h)=d at *
 have hb:(0:Rat)<(b:Rat):=Rat.intCast_pos.2 p1
 have hd:(0:Rat)<(d:Rat):=Rat.intCast_pos.2 p2
 have e1:((a:Rat) / (b:Rat))*(b:Rat)=(a:Rat):=Rat.div_mul_cancel (by grind)
 have e2:((c:Rat) / (d:Rat))*(d:Rat)=(c:Rat):=Rat.div_mul_cancel (by grind)
 unfold cmpI cmpQ
 have k1:a*d<c*b↔(a:Rat) / (b:Rat)<(c:Rat) / (d:Rat):=by
  rw [← Rat.intCast_lt_intCast,Rat.intCast_mul,Rat.intCast_mul]
  generalize (a:Rat) / (b:Rat)=p at *
  generalize (c:Rat) / (d:Rat)=q at *
  rw [← e1,← e2]
  generalize (b:Rat)=b at *
  generalize (d:Rat)=d at *
  have hbd:0<b*d:=Rat.mul_pos hb hd
  rw [show p*b*d=p*(b*d) by grind,show q*d*b=q*(b*d) by grind]
  exact ⟨fun h=>Rat.lt_of_mul_lt_mul_right h (by grind),fun h=>Rat.mul_lt_mul_of_pos_right h hbd⟩
 have k2:a*d=c*b↔(a:Rat) / (b:Rat)=(c:Rat) / (d:Rat):=by
  rw [← Rat.intCast_inj,Rat.intCast_mul,Rat.intCast_mul]
  generalize (a:Rat) / (b:Rat)=p at *
  generalize (c:Rat) / (d:Rat)=q at *
  rw [← e1,← e2]
  generalize (b:Rat)=b at *
  generalize (d:Rat)=d at *
  have hbd:0<b*d:=Rat.mul_pos hb hd
  constructor
  ·intro h
   have h5:(p-q)*(b*d)=0:=by grind
   rcases Rat.mul_eq_zero.1 h5 with h6 | h6
   ·grind
   ·grind
  ·rintro rfl;grind
 by_cases h1:a*d<c*b
 ·rw [if_pos h1,if_pos (k1.1 h1)]
 ·rw [if_neg h1,if_neg (fun h=>h1 (k1.2 h))]
  by_cases h2:a*d=c*b
  ·rw [if_pos h2,if_pos (k2.1 h2)]
  ·rw [if_neg h2,if_neg (fun h=>h2 (k2.2 h))]
theorem refCmpF (f h:Fr) (h1:f.num.length≤20000) (h2:f.den.length≤20000) (h3:h.num.length≤20000) (h4:h.den.length≤20000) :
  PureR 99 #[fv f,fv h] (.int .i64 (cmpQ (frQ f) (frQ h))):=by
 intro w
 obtain ⟨l1,l2⟩:=raw_len f h1 h2 (by omega)
 obtain ⟨l3,l4⟩:=raw_len h h3 h4 (by omega)
 have m1:=mul_len l1 l4
 have m2:=mul_len l3 l2
 have hc:=cmpR (ofI (valI (rawN f)*valI (rawD h))) (ofI (valI (rawN h)*valI (rawD f))) (by omega) (by omega)
 rw [valI_ofI,valI_ofI,cmp_raw] at hc
 have HC:=Lib.hid hc
 have HM1:=Lib.hid (mulR (rawN f) (rawD h) (by omega) (by omega))
 have HM2:=Lib.hid (mulR (rawN h) (rawD f) (by omega) (by omega))
 have HW1:=Lib.hid (refRaw f (by omega) (by omega))
 have HW2:=Lib.hid (refRaw h (by omega) (by omega))
 clear hc l1 l2 l3 l4 m1 m2 h1 h2 h3 h4
 generalize cmpQ (frQ f) (frQ h)=r at *
 generalize ofI (valI (rawN f)*valI (rawD h))=s2 at *
 generalize ofI (valI (rawN h)*valI (rawD f))=s3 at *
 generalize rawN f=rn1 at *
 generalize rawD f=rd1 at *
 generalize rawN h=rn2 at *
 generalize rawD h=rd2 at *
 obtain ⟨n1,e1⟩:=f
 obtain ⟨n2,e2⟩:=h
 have HB2:=Lib.hid (Blk.newAt (w.alloc (.cells #[.string (bs n1),.string (bs e1)] 26)) 26 #[.string (bs n2),.string (bs e2)] (w.heap.size+1) (by simp))
 have HX:Hid (Ext w ((w.alloc (.cells #[.string (bs n1),.string (bs e1)] 26)).alloc (.cells #[.string (bs n2),.string (bs e2)] 26))):=Lib.hid ((Ext.new _ _).alloc _)
 go_enter Tryz.func99,Tryz.ntmps99
 go_wp2_with fail
 refine (HW1.out _).mono ?_
 rintro e v32 ⟨rfl,hx1⟩
 replace HB2:=Lib.hid (HB2.out.ext hx1)
 replace HX:=Lib.hid (HX.out.trans hx1)
 clear hx1
 obtain ⟨b0,b1,_,_⟩:=frBlk HB2.out (Ext.refl _)
 go_wp2_with fail
 refine (HW2.out _).mono ?_
 rintro e v33 ⟨rfl,hx1⟩
 replace HX:=Lib.hid (HX.out.trans hx1)
 clear hx1
 go_wp2_with fail
 refine (HM1.out _).mono ?_
 rintro e v34 ⟨rfl,hx1⟩
 replace HX:=Lib.hid (HX.out.trans hx1)
 clear hx1
 go_wp2_with fail
 refine (HM2.out _).mono ?_
 rintro e v35 ⟨rfl,hx1⟩
 replace HX:=Lib.hid (HX.out.trans hx1)
 clear hx1
 go_wp2_with fail
 refine (HC.out _).mono ?_
 rintro e v36 ⟨rfl,hx1⟩
 replace HX:=Lib.hid (HX.out.trans hx1)
 clear hx1
 go_wp2_with fail
 go_ret
 exact ⟨rfl,HX.out⟩
end
section
open Go.RowKit
def roundQ (q:Rat):Int :=
 let lo:=q.num / (q.den:Int)
 let re:=q.num % (q.den:Int)
 if 2*re<q.den then lo else if 2*re=q.den then (if lo % 2=0 then lo else lo+1) else lo+1
theorem roundQ_cases (q:Rat):let lo:=q.num / (q.den:Int);let re:=q.num % (q.den:Int)
  (re+re<q.den→roundQ q=lo)∧(re+re=q.den→lo % 2=0→roundQ q=lo)∧(re+re=q.den→lo % 2≠0→roundQ q=lo+1)∧((q.den:Int)<re+re→roundQ q=lo+1):=by
 simp only
 unfold roundQ
 simp only
 refine ⟨fun h=>?_,fun h h2=>?_,fun h h2=>?_,fun h=>?_⟩
 ·rw [if_pos (by omega)]
 ·rw [if_neg (by omega),if_pos (by omega),if_pos h2]
 ·rw [if_neg (by omega),if_pos (by omega),if_neg h2]
 ·rw [if_neg (by omega),if_neg (by omega)]
theorem roundQ_near (q:Rat):q-1 / 2≤(roundQ q:Rat)∧(roundQ q:Rat)≤q+1 / 2:=by
 have hd:(0:Int)<q.den:=by have:=q.den_pos;omega
 have h1:=Int.mul_ediv_add_emod q.num (q.den:Int)
 have h2:=Int.emod_nonneg q.num (b:=(q.den:Int)) (by omega)
 have h3:=Int.emod_lt_of_pos q.num hd
 have key:(q.num:Int)*2-q.den≤roundQ q*2*q.den∧roundQ q*2*q.den≤q.num*2+q.den:=by
  unfold roundQ
  simp only
  generalize q.num / (q.den:Int)=lo at *
  generalize q.num % (q.den:Int)=re at *
  generalize (q.den:Int)=d at *
  rw [← h1]
  have e1:lo*2*d=2*(d*lo):=by rw [Int.mul_comm d lo,Int.mul_assoc,Int.mul_comm 2 d,← Int.mul_assoc,Int.mul_comm 2]
  have e2:(lo+1)*2*d=2*(d*lo)+2*d:=by rw [Int.add_mul,Int.add_mul,e1];omega
  split
  ·rw [e1];omega
  ·split
   ·split
    ·rw [e1];omega
    ·rw [e2];omega
   ·rw [e2];omega
 have hq:q=(q.num:Rat) / ((q.den:Int):Rat):=by
  rw [← Rat.divInt_eq_div,Rat.num_divInt_den]
 have hdR:(0:Rat)<((q.den:Int):Rat):=Rat.intCast_pos.2 hd
 have k1:((q.num:Rat))*2-((q.den:Int):Rat)≤(roundQ q:Rat)*2*((q.den:Int):Rat):=by
  have:=Rat.intCast_le_intCast.2 key.1
  simpa using this
 have k2:(roundQ q:Rat)*2*((q.den:Int):Rat)≤(q.num:Rat)*2+((q.den:Int):Rat):=by
  have:=Rat.intCast_le_intCast.2 key.2
  simpa using this
 have hm:q*((q.den:Int):Rat)=(q.num:Rat):=by
  conv=>lhs;lhs;rw [hq]
  exact Rat.div_mul_cancel (by grind)
 generalize (roundQ q:Rat)=r at *
 generalize ((q.den:Int):Rat)=d at *
 generalize (q.num:Rat)=n at *
 constructor
 ·refine Rat.le_of_mul_le_mul_right (c:=d) ?_ hdR
  rw [← hm] at k1
  grind
 ·refine Rat.le_of_mul_le_mul_right (c:=d) ?_ hdR
  rw [← hm] at k2
  grind
theorem roundQ_int (z:Int):roundQ (z:Rat)=z:=by
 unfold roundQ;simp
theorem roundQ_abs {q:Rat} {L:Nat} (h:QB L q):(roundQ q).natAbs<10 ^ (L+1):=by
 have hd:(0:Int)<q.den:=by have:=q.den_pos;omega
 have h1:=Int.natAbs_ediv_le_natAbs q.num (q.den:Int)
 have h2:(roundQ q).natAbs≤(q.num / (q.den:Int)).natAbs+1:=by
  unfold roundQ;simp only
  split
  ·omega
  ·split
   ·split <;> omega
   ·omega
 have h3:=h.1
 have h4:0<10 ^ L:=Nat.pow_pos (by decide)
 rw [Nat.pow_succ];omega
theorem round_len {q:Rat} {L:Nat} (h:QB L q):(ofI (roundQ q)).length≤L+2:=ofI_lt10 (roundQ_abs h)
end
section
open Go.RowKit
attribute [local go_sem] size_bs toList_bs
theorem refSubF (f h:Fr) (h1:f.num.length≤19000) (h2:f.den.length≤19000) (h3:h.num.length≤19000) (h4:h.den.length≤19000) :
  PureR 231 #[fv f,fv h] (fv (ofQ (frQ f-frQ h))):=by
 intro w
 have hq:=(frQ_qb h3 h4 (by omega)).neg
 have k1:=hq.num_len
 have k2:=hq.den_len
 have ha:=refAddF f (ofQ (-(frQ h))) (by omega) (by omega) (by omega) (by omega)
 rw [frQ_ofQ,← Rat.sub_eq_add_neg] at ha
 have HA:=Lib.hid ha
 have HN:=Lib.hid (refNegF h (by omega) (by omega))
 generalize ofQ (frQ f-frQ h)=r at *
 generalize ofQ (-(frQ h))=s at *
 obtain ⟨n1,e1⟩:=f
 obtain ⟨n2,e2⟩:=h
 clear ha hq k1 k2 h1 h2 h3 h4
 have hn1:w.heap.size≠w.heap.size+1+1:=by omega
 have hn2:w.heap.size+1+1≠w.heap.size:=by omega
 have hn3:¬ (w.heap.size=w.heap.size+1+1):=by omega
 have HB:=Lib.hid (Blk.newAt ((w.alloc (.cells #[.string (bs n1),.string (bs e1)] 26)).alloc (.cells #[.string (bs n2),.string (bs e2)] 26)) 26 #[.string ⟨#[]⟩,.string ⟨#[]⟩] (w.heap.size+1+1) (by simp))
 have HB2:=Lib.hid ((Blk.newAt (w.alloc (.cells #[.string (bs n1),.string (bs e1)] 26)) 26 #[.string (bs n2),.string (bs e2)] (w.heap.size+1) (by simp)).alloc (.cells #[.string ⟨#[]⟩,.string ⟨#[]⟩] 26))
 have HB1:=Lib.hid (((Blk.new w 26 #[.string (bs n1),.string (bs e1)]).alloc (.cells #[.string (bs n2),.string (bs e2)] 26)).alloc (.cells #[.string ⟨#[]⟩,.string ⟨#[]⟩] 26))
 have HX:Hid (Ext w (((w.alloc (.cells #[.string (bs n1),.string (bs e1)] 26)).alloc (.cells #[.string (bs n2),.string (bs e2)] 26)).alloc (.cells #[.string ⟨#[]⟩,.string ⟨#[]⟩] 26))):=Lib.hid (((Ext.new _ _).alloc _).alloc _)
 go_enter Tryz.func231,Tryz.ntmps231
 go_wp2_with fail
 generalize ((w.alloc (.cells #[.string (bs n1),.string (bs e1)] 26)).alloc (.cells #[.string (bs n2),.string (bs e2)] 26)).alloc (.cells #[.string ⟨#[]⟩,.string ⟨#[]⟩] 26)=W0 at *
 obtain ⟨a0,a1,_,_⟩:=frBlk HB1.out (Ext.refl W0)
 obtain ⟨b0,b1,_,_⟩:=frBlk HB2.out (Ext.refl W0)
 obtain ⟨c0,c1,d0,d1⟩:=frBlk HB.out (Ext.refl W0)
 have HD:Hid (Ext W0 W0.drew):=Lib.hid (Ext.refl W0).drew
 go_region_held3 (fun w'=>w'.cell? ⟨w.heap.size,0,none⟩=some (.string (bs n1))∧w'.cell? ⟨w.heap.size,1,none⟩=some (.string (bs e1))∧w'.cell? ⟨w.heap.size+1,0,none⟩=some (.string (bs n2))∧w'.cell? ⟨w.heap.size+1,1,none⟩=some (.string (bs e2)))
  (go_keep)
  (first
   |(go_at_call 286;((with_reducible refine (HN.out _).mono ?_);rintro e w1 ⟨rfl,hx⟩);(replace HD:=Lib.hid (HD.out.trans hx));(obtain ⟨a2,a3,_,_⟩:=frBlk HB1.out HD.out);(obtain ⟨b2,b3,_,_⟩:=frBlk HB2.out HD.out);(obtain ⟨c2,c3,d2,d3⟩:=frBlk HB.out HD.out);clear hx)
   |(go_at_call 167;((with_reducible refine (HA.out _).mono ?_);rintro e w2 ⟨rfl,hx⟩);(replace HD:=Lib.hid (HD.out.trans hx));(obtain ⟨a2,a3,_,_⟩:=frBlk HB1.out HD.out);(obtain ⟨b2,b3,_,_⟩:=frBlk HB2.out HD.out);(obtain ⟨c2,c3,d2,d3⟩:=frBlk HB.out HD.out);clear hx))
 all_goals
  go_wp2_with fail
  refine bodyPost_ret (results_fr rfl _ _ (w.heap.size+1+1) (.string (bs r.num)) (.string (bs r.den)) rfl (((HB.out.ext HD.out).set_ 0 _).set_ 1 _)) rfl ?_
  exact ⟨rfl,((HX.out.trans HD.out).setCell (p:=⟨w.heap.size+1+1,0,none⟩) (by show w.heap.size≤w.heap.size+1+1;omega) _).setCell (p:=⟨w.heap.size+1+1,1,none⟩) (by show w.heap.size≤w.heap.size+1+1;omega) _⟩
def floorQ (q:Rat):Int:=q.num / (q.den:Int)
theorem floor_div {n d:Int} (hd:0<d):n / d=floorQ (Rat.divInt n d):=by
 have hd':d≠0:=by omega
 unfold floorQ
 rw [← redN_num hd',← redD_den hd']
 have h1:=redN_exact (n:=n) hd'
 have h2:=redD_exact (n:=n) hd'
 have hg:(0:Int)<((Int.gcd n d:Nat):Int):=by have:=gcd_pos (n:=n) hd';omega
 rw [if_neg (by omega)] at h1
 rw [Int.natAbs_of_nonneg (by omega)] at h2
 generalize redN n d=a at *
 generalize redD n d=b at *
 generalize ((Int.gcd n d:Nat):Int)=g at *
 conv=>lhs;rw [← h1,← h2]
 exact Int.mul_ediv_mul_of_pos_left _ _ hg
theorem refFloorF (f:Fr) (h1:f.num.length≤40000) (h2:f.den.length≤40000):PureR 230 #[fv f] (.string (bs (ofI (floorQ (frQ f))))):=by
 intro w
 obtain ⟨l1,l2⟩:=raw_len f h1 h2 (by omega)
 have p1:=rawD_pos f
 have hd:=refDivP (rawN f) (rawD f) (by omega) (by omega) (by omega)
 have hdf:=divF_pos (x:=valI (rawN f)) p1
 have hfl:=floor_div (n:=valI (rawN f)) p1
 rw [raw_frQ] at hfl
 rw [hdf] at hd
 have hle:=Int.ediv_mul_le (valI (rawN f)) (b:=valI (rawD f)) (by omega)
 have hql:(ofI (valI (rawN f) / valI (rawD f))).length≤40002:=ofI_lt10' (l:=rawN f) (by
  rw [← Int.natAbs_natCast (valI (rawN f)).natAbs]
  exact Int.natAbs_ediv_le_natAbs _ _) l1
 have hm:=mulR (ofI (valI (rawN f) / valI (rawD f))) (rawD f) (by omega) (by omega)
 rw [valI_ofI] at hm
 have hml:=mul_len hql l2
 rw [valI_ofI] at hml
 have hc:=cmpR (ofI (valI (rawN f) / valI (rawD f)*valI (rawD f))) (rawN f) (by omega) (by omega)
 rw [valI_ofI] at hc
 have g:decide (0<cmpI (valI (rawN f) / valI (rawD f)*valI (rawD f)) (valI (rawN f)))=false:=by
  rw [decide_eq_false_iff_not,cmpI_pos];omega
 have HD:=Lib.hid hd
 have HM:=Lib.hid hm
 have HC:=Lib.hid hc
 have HW:=Lib.hid (refRaw f (by omega) (by omega))
 rw [hfl] at *
 clear hd hm hc hle hql hml hfl hdf l1 l2 h1 h2 p1
 generalize cmpI (floorQ (frQ f)*valI (rawD f)) (valI (rawN f))=cc at *
 generalize ofI (floorQ (frQ f)*valI (rawD f))=mm at *
 generalize ofI (floorQ (frQ f))=q at *
 generalize ofI (modF (valI (rawN f)) (valI (rawD f)))=rr at *
 generalize rawN f=rn at *
 generalize rawD f=rd at *
 obtain ⟨n1,e1⟩:=f
 have HX:Hid (Ext w (w.alloc (.cells #[.string (bs n1),.string (bs e1)] 26))):=Lib.hid (Ext.new _ _)
 go_enter Tryz.func230,Tryz.ntmps230
 go_wp2_with fail
 refine (HW.out _).mono ?_
 rintro e v1 ⟨rfl,hx1⟩
 replace HX:=Lib.hid (HX.out.trans hx1)
 clear hx1
 go_wp2_with fail
 refine (HD.out _).mono ?_
 rintro e v2 ⟨rfl,hx1⟩
 replace HX:=Lib.hid (HX.out.trans hx1)
 clear hx1
 go_wp2_with fail
 refine (HM.out _).mono ?_
 rintro e v3 ⟨rfl,hx1⟩
 replace HX:=Lib.hid (HX.out.trans hx1)
 clear hx1
 go_wp2_with fail
 refine (HC.out _).mono ?_
 rintro e v4 ⟨rfl,hx1⟩
 replace HX:=Lib.hid (HX.out.trans hx1)
 clear hx1
 go_wp2_with fail
 go_ret
 exact ⟨rfl,HX.out⟩
end
section
open Go.RowKit
attribute [local go_sem] size_bs toList_bs
def checkF (f:Fr):Int:=if (ofQ (frQ f)).num=f.num∧(ofQ (frQ f)).den=f.den then 0 else 1
theorem fr_eq {a b:Fr}:a=b↔a.num=b.num∧a.den=b.den:=by cases a;cases b;simp
theorem frQ_dn (f:Fr):Rat.divInt (valI f.num) (valI (dn f))=frQ f:=by
 rw [valI_dn];rfl
theorem dn_ne (f:Fr):valI (dn f)≠0:=by
 unfold dn
 split
 ·rw [valI_one];decide
 ·assumption
theorem bs_ne' {a b:Bs} (h:a≠b):(a == b)=false:=by rw [beq_eq_false_iff_ne];exact h
theorem fracCheckP (f:Fr) (h1:f.num.length≤80000) (h2:f.den.length≤80000):Pure 48 #[fv f] (.int .i64 (checkF f)):=by
 intro w hE
 have HE:=Lib.hid hE
 have HP:=Lib.hid (fracParts f (by omega))
 have hm:=fracMade f.num (dn f) (by omega) (Nat.le_trans (dn_len f (L:=80000) (by omega) (by omega)) (by omega)) (dn_ne f)
 rw [frQ_dn] at hm
 have HM:=Lib.hid hm
 have HC1:Hid (ofQ (frQ f)=f→checkF f=0):=Lib.hid (fun h=>by unfold checkF;rw [if_pos (fr_eq.1 h)])
 have HC2:Hid (ofQ (frQ f)≠f→checkF f=1):=Lib.hid (fun h=>by unfold checkF;rw [if_neg (fun k=>h (fr_eq.2 k))])
 generalize checkF f=k at *
 generalize ofQ (frQ f)=r at *
 generalize dn f=d at *
 obtain ⟨n1,e1⟩:=f
 obtain ⟨n2,e2⟩:=r
 clear hm hE h1 h2
 have HB:=Lib.hid (Blk.new w 26 #[.string (bs n1),.string (bs e1)])
 have HX:Hid (Ext w (w.alloc (.cells #[.string (bs n1),.string (bs e1)] 26))):=Lib.hid (Ext.new _ _)
 have HD:Hid (Ext w (w.alloc (.cells #[.string (bs n1),.string (bs e1)] 26)).drew):=Lib.hid HX.out.drew
 have HBD:=Lib.hid HB.out.drew
 by_cases a1:n1=n2
 rotate_left
 ·have q:=bs_ne' a1
  have HK:=Lib.hid (HC2.out (fun h=>a1 (by injection h with h1 h2;exact h1.symm)))
  rw [HK.out]
  clear HC1 HC2 HK a1
  go_enter Tryz.func48,Tryz.ntmps48
  go_upto_region 1 with fail
  go_cut [9] (fun p9 wx=>p9 = .bool true∧Ext w wx)
  case first =>
   obtain ⟨r0,r1,_,_⟩:=frBlk HB.out (Ext.refl _)
   go_region_held3 (fun w'=>w'.cell? ⟨w.heap.size,0,none⟩=some (.string (bs n1))∧w'.cell? ⟨w.heap.size,1,none⟩=some (.string (bs e1)))
    (go_keep)
    (first
     |(go_at_call 96;((with_reducible refine (HP.out _ (HE.out.ext HD.out)).mono ?_);rintro e w4 ⟨rfl,hx⟩);(replace HD:=Lib.hid (HD.out.trans hx));(replace HBD:=Lib.hid (HBD.out.ext hx));(obtain ⟨y0,y1,_,_⟩:=frBlk HBD.out (Ext.refl _));clear hx HP)
     |(go_at_call 93;((with_reducible refine (HM.out _ (HE.out.ext HD.out)).mono ?_);rintro e w5 ⟨rfl,hx⟩);(replace HD:=Lib.hid (HD.out.trans hx));(replace HBD:=Lib.hid (HBD.out.ext hx));(obtain ⟨z0,z1,_,_⟩:=frBlk HBD.out (Ext.refl _));clear hx HM))
   all_goals (go_wp2_with fail;go_meet;exact ⟨rfl,HD.out⟩)
  case rest =>
   obtain ⟨rfl,hx⟩:=hcut
   have HXE:=Lib.hid hx
   clear hx
   go_wp2_with fail
   go_ret
   exact ⟨rfl,HXE.out⟩
 subst a1
 by_cases a2:e1=e2
 rotate_left
 ·have q:=bs_ne' a2
  have HK:=Lib.hid (HC2.out (fun h=>a2 (by injection h with h1 h2;exact h2.symm)))
  rw [HK.out]
  clear HC1 HC2 HK a2
  go_enter Tryz.func48,Tryz.ntmps48
  go_upto_region 1 with fail
  go_cut [9] (fun p9 wx=>p9 = .bool true∧Ext w wx)
  case first =>
   obtain ⟨r0,r1,_,_⟩:=frBlk HB.out (Ext.refl _)
   go_region_held3 (fun w'=>w'.cell? ⟨w.heap.size,0,none⟩=some (.string (bs n1))∧w'.cell? ⟨w.heap.size,1,none⟩=some (.string (bs e1)))
    (go_keep)
    (first
     |(go_at_call 96;((with_reducible refine (HP.out _ (HE.out.ext HD.out)).mono ?_);rintro e w4 ⟨rfl,hx⟩);(replace HD:=Lib.hid (HD.out.trans hx));(replace HBD:=Lib.hid (HBD.out.ext hx));(obtain ⟨y0,y1,_,_⟩:=frBlk HBD.out (Ext.refl _));clear hx HP)
     |(go_at_call 93;((with_reducible refine (HM.out _ (HE.out.ext HD.out)).mono ?_);rintro e w5 ⟨rfl,hx⟩);(replace HD:=Lib.hid (HD.out.trans hx));(replace HBD:=Lib.hid (HBD.out.ext hx));(obtain ⟨z0,z1,_,_⟩:=frBlk HBD.out (Ext.refl _));clear hx HM))
   all_goals (go_wp2_with fail;go_meet;exact ⟨rfl,HD.out⟩)
  case rest =>
   obtain ⟨rfl,hx⟩:=hcut
   have HXE:=Lib.hid hx
   clear hx
   go_wp2_with fail
   go_ret
   exact ⟨rfl,HXE.out⟩
 subst a2
 have HK:=Lib.hid (HC1.out rfl)
 rw [HK.out]
 clear HC1 HC2 HK
 go_enter Tryz.func48,Tryz.ntmps48
 go_upto_region 1 with fail
 go_cut [9] (fun p9 wx=>p9 = .bool false∧Ext w wx)
 case first =>
  obtain ⟨r0,r1,_,_⟩:=frBlk HB.out (Ext.refl _)
  go_region_held3 (fun w'=>w'.cell? ⟨w.heap.size,0,none⟩=some (.string (bs n1))∧w'.cell? ⟨w.heap.size,1,none⟩=some (.string (bs e1)))
   (go_keep)
   (first
    |(go_at_call 96;((with_reducible refine (HP.out _ (HE.out.ext HD.out)).mono ?_);rintro e w4 ⟨rfl,hx⟩);(replace HD:=Lib.hid (HD.out.trans hx));(replace HBD:=Lib.hid (HBD.out.ext hx));(obtain ⟨y0,y1,_,_⟩:=frBlk HBD.out (Ext.refl _));clear hx HP)
    |(go_at_call 93;((with_reducible refine (HM.out _ (HE.out.ext HD.out)).mono ?_);rintro e w5 ⟨rfl,hx⟩);(replace HD:=Lib.hid (HD.out.trans hx));(replace HBD:=Lib.hid (HBD.out.ext hx));(obtain ⟨z0,z1,_,_⟩:=frBlk HBD.out (Ext.refl _));clear hx HM))
  all_goals (go_wp2_with fail;go_meet;exact ⟨rfl,HD.out⟩)
 case rest =>
  obtain ⟨rfl,hx⟩:=hcut
  have HXE:=Lib.hid hx
  clear hx
  go_wp2_with fail
  go_ret
  exact ⟨rfl,HXE.out⟩
theorem divF_floor {n d:Int} (hd:d≠0):divF n d=floorQ (Rat.divInt n d):=by
 unfold divF
 split
 ·rw [floor_div (by omega),Rat.neg_divInt_neg]
 ·rw [floor_div (by omega)]
theorem fracFloorP (f:Fr) (h1:f.num.length≤80000) (h2:f.den.length≤80000):Pure 234 #[fv f] (.string (bs (ofI (floorQ (frQ f))))):=by
 intro w hE
 have HE:=Lib.hid hE
 have HP:=Lib.hid (fracParts f (by omega))
 have hm:=divP f.num (dn f) (by omega) (Nat.le_trans (dn_len f (L:=80000) (by omega) (by omega)) (by omega)) (dn_ne f)
 rw [divF_floor (dn_ne f),frQ_dn] at hm
 have HM:=Lib.hid hm
 generalize ofI (floorQ (frQ f))=r at *
 generalize ofI (modF (valI f.num) (valI (dn f)))=r2 at *
 generalize dn f=d at *
 obtain ⟨n1,e1⟩:=f
 clear hm hE h1 h2
 have HB:=Lib.hid (Blk.new w 26 #[.string (bs n1),.string (bs e1)])
 have HX:Hid (Ext w (w.alloc (.cells #[.string (bs n1),.string (bs e1)] 26))):=Lib.hid (Ext.new _ _)
 go_enter Tryz.func234,Tryz.ntmps234
 obtain ⟨r0,r1,_,_⟩:=frBlk HB.out (Ext.refl _)
 go_wp2_with fail
 refine (HP.out _ (HE.out.ext HX.out)).mono ?_
 rintro e v5 ⟨rfl,hx1⟩
 replace HB:=Lib.hid (HB.out.ext hx1)
 replace HX:=Lib.hid (HX.out.trans hx1)
 clear hx1
 go_wp2_with fail
 refine (HM.out _ (HE.out.ext HX.out)).mono ?_
 rintro e v6 ⟨rfl,hx1⟩
 replace HX:=Lib.hid (HX.out.trans hx1)
 clear hx1
 go_wp2_with fail
 go_ret
 exact ⟨rfl,HX.out⟩
end
end Go.Proofs.YthgpheopnhajaaaGreatDoor
