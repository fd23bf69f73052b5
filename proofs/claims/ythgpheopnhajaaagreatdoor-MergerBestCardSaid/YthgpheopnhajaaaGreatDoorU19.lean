/- The seat's texts, part U19. -/
import Derived.Test.YthgpheopnhajaaaGreatDoorU14
import Derived.Test.YthgpheopnhajaaaGreatDoorU18
set_option maxRecDepth 100000
set_option maxHeartbeats 8000000
namespace Go.Proofs.YthgpheopnhajaaaGreatDoor
section
open Go.RowKit
attribute [local go_sem] size_bs toList_bs
theorem opt_ok {o:OptV} (h:optE o=0):(o.other=[]∨isName o.other=true)∧numE o.r=0∧numE o.p=0∧numE o.v=0∧optBad o=false:=by
 have t:=optT o
 rw [h] at t
 have g:o.other=[]∨isName o.other=true:=by
  by_cases a:o.other=[]
  ·exact .inl a
  ·cases b:isName o.other
   ·exact absurd (t.n a b) (by decide)
   ·exact .inr rfl
 have e1:numE o.r=0:=by
  by_cases a:numE o.r=0
  ·exact a
  ·exact (t.r g a).symm
 have e2:numE o.p=0:=by
  by_cases a:numE o.p=0
  ·exact a
  ·exact (t.p g e1 a).symm
 have e3:numE o.v=0:=by
  by_cases a:numE o.v=0
  ·exact a
  ·exact (t.v g e1 e2 a).symm
 refine ⟨g,e1,e2,e3,?_⟩
 cases b:optBad o
 ·rfl
 ·exact absurd (t.b g e1 e2 e3 b) (by decide)
theorem num_ok {f:Fr} (h:numE f=0):checkF f=0∧digN f.num≤40∧digN f.den≤40∧0≤frQ f∧ofQ (frQ f)=f:=by
 have t:=numF f
 rw [h] at t
 have e1:checkF f=0:=by
  by_cases a:checkF f=0
  ·exact a
  ·exact absurd (t.c a) (by decide)
 have e2:¬ (40<digN f.num∨40<digN f.den):=fun a=>absurd (t.d e1 a) (by decide)
 have e3:¬ cmpQ (frQ f) 0<0:=fun a=>absurd (t.s e1 (by omega) (by omega) a) (by decide)
 refine ⟨e1,by omega,by omega,?_,?_⟩
 ·rw [cmpQ_neg] at e3;exact Rat.not_lt.1 e3
 ·by_cases a:ofQ (frQ f)=f
  ·exact a
  ·exfalso
   have:checkF f=1:=by unfold checkF;rw [if_neg (fun k=>a (fr_eq.2 k))]
   omega
theorem terms_ok {o:OptV} {q:Bs} (h:optE o=0) (hq:checkI q=0) (hn:¬ valI q<0):termsV o q=((termsS o q).1,termsZ o q (termsS o q).2.1,(termsS o q).2.1,0):=by
 obtain ⟨g,e1,_,_,eb⟩:=opt_ok h
 obtain ⟨c1,_,_,p1,k1⟩:=num_ok e1
 have key:(termsS o q).2.2=0:=by
  unfold termsS
  split
  ·rfl
  ·rename_i hne
   have hz:frQ o.r≠0:=by
    intro hz
    rw [hz,ofQ_zero] at k1
    unfold optBad at eb
    rw [if_neg hne,← k1] at eb
    exact absurd eb (by decide)
   have:¬ frQ o.r≤0:=fun hle=>hz (Rat.le_antisymm hle p1)
   have e:partsE q o.r=0:=by
    unfold partsE
    rw [if_neg (by omega),if_neg]
    rintro (a | a)
    ·exact hn a
    ·exact this a
   unfold partsV;rw [if_pos e]
 unfold termsV;rw [if_pos key]
structure TermsE (o:OptV) (q:Bs) (v:Bs × Bs × Fr × Int):Prop where
 a:optE o≠0→v=([],[],⟨[],[]⟩,1)
 b:optE o=0→checkI q≠0→v=([],[],⟨[],[]⟩,1)
 c:optE o=0→checkI q=0→cmpI (valI q) 0<0→v=([],[],⟨[],[]⟩,2)
 k:optE o=0→checkI q=0→¬ cmpI (valI q) 0<0→v=((termsS o q).1,termsZ o q (termsS o q).2.1,(termsS o q).2.1,0)
theorem termsE (o:OptV) (q:Bs):TermsE o q (termsA o q) :=
 ⟨(termsB o q).a,(termsB o q).b,(termsB o q).c,fun h k l=>by rw [(termsB o q).k h k l,terms_ok h k (fun m=>l (cmpI_neg.2 m))]⟩
theorem rfTerms {L:Nat} (h0:0<L) (hL:L≤500) (o:OptV) (q:Bs) (hs:OptSm L o) (hq:q.length≤L) :
  PureR 43 #[ov o,.string (bs q)] (.tuple #[.string (bs (termsA o q).1),.string (bs (termsA o q).2.1),fv (termsA o q).2.2.1,.int .i64 (termsA o q).2.2.2]):=by
 intro w
 have T:=termsE o q
 have T1:=Lib.hid T.a
 have T2:=Lib.hid T.b
 have T3:=Lib.hid T.c
 have T4:=Lib.hid T.k
 have hs9:OptSm 9000 o:=by
  obtain ⟨s0,s1,s2,s3,s4,s5,s6⟩:=hs
  exact ⟨by omega,by omega,by omega,by omega,by omega,by omega,by omega⟩
 have CK:=Lib.hid (rfOptCheck o hs9)
 have CI:=Lib.hid (checkR q (by omega))
 have C0:=Lib.hid (signR3 q (by omega))
 have TT:=Lib.hid (rfTermsOf h0 hL o q hs hq)
 clear T hs9 hs hq h0 hL
 generalize termsA o q=v at *
 generalize termsZ o q (termsS o q).2.1=z at *
 generalize termsS o q=S at *
 generalize optE o=oe at *
 generalize checkI q=ci at *
 generalize cmpI (valI q) 0=si at *
 obtain ⟨ot,⟨rn,rd⟩,⟨pn,pd⟩,⟨vn,vd⟩⟩:=o
 obtain ⟨sx,⟨sn,sd⟩,se⟩:=S
 dsimp only at TT T4
 have hn1:w.heap.size≠w.heap.size+1:=by omega
 have hn2:w.heap.size+1≠w.heap.size:=by omega
 have hn3:¬ (w.heap.size=w.heap.size+1):=by omega
 have HB:=Lib.hid ((Blk.new w 50 #[.string (bs ot),.string (bs rn),.string (bs rd),.string (bs pn),.string (bs pd),.string (bs vn),.string (bs vd)]).alloc (.cells #[.string ⟨#[]⟩,.string ⟨#[]⟩] 26))
 have HP:=Lib.hid (Blk.newAt (w.alloc (.cells #[.string (bs ot),.string (bs rn),.string (bs rd),.string (bs pn),.string (bs pd),.string (bs vn),.string (bs vd)] 50)) 26 #[.string ⟨#[]⟩,.string ⟨#[]⟩] (w.heap.size+1) (by simp))
 have HX:Hid (Ext w ((w.alloc (.cells #[.string (bs ot),.string (bs rn),.string (bs rd),.string (bs pn),.string (bs pd),.string (bs vn),.string (bs vd)] 50)).alloc (.cells #[.string ⟨#[]⟩,.string ⟨#[]⟩] 26))):=Lib.hid ((Ext.new _ _).alloc _)
 go_enter Tryz.func43,Tryz.ntmps43
 go_upto_region 1 with fail
 generalize (w.alloc (.cells #[.string (bs ot),.string (bs rn),.string (bs rd),.string (bs pn),.string (bs pd),.string (bs vn),.string (bs vd)] 50)).alloc (.cells #[.string ⟨#[]⟩,.string ⟨#[]⟩] 26)=W0 at *
 replace HB:Hid (Blk W0 w.heap.size 50 (oc ⟨ot,⟨rn,rd⟩,⟨pn,pd⟩,⟨vn,vd⟩⟩)):=HB
 obtain ⟨b0,b1,b2,b3,b4,b5,b6⟩:=optBlk HB.out (Ext.refl _)
 go_wp2_with fail
 refine (CK.out _).mono ?_
 rintro e v4 ⟨rfl,hx1⟩
 replace HB:=Lib.hid (HB.out.ext hx1)
 replace HP:=Lib.hid (HP.out.ext hx1)
 replace HX:=Lib.hid (HX.out.trans hx1)
 clear hx1
 clear b0 b1 b2 b3 b4 b5 b6
 by_cases y1:oe=0
 rotate_left
 ·have g:(oe != 0)=true:=by rw [bne_iff_ne];exact y1
  have e:=T1.out y1
  subst e
  clear T1 T2 T3 T4
  obtain ⟨c0,c1,d0,d1⟩:=frBlk HP.out (Ext.refl _)
  go_wp2_with fail
  refine bodyPost_ret (results_ttft rfl _ _ (w.heap.size+1) (.string ⟨#[]⟩) (.string ⟨#[]⟩) (.string ⟨#[]⟩) (.string ⟨#[]⟩) (.int .i64 1) rfl rfl rfl rfl ((HP.out.set_ 0 _).set_ 1 _)) rfl ?_
  exact ⟨rfl,(HX.out.setCell (p:=⟨w.heap.size+1,0,none⟩) (by show w.heap.size≤w.heap.size+1;omega) _).setCell (p:=⟨w.heap.size+1,1,none⟩) (by show w.heap.size≤w.heap.size+1;omega) _⟩
 subst y1
 go_wp2_with fail
 refine (CI.out _).mono ?_
 rintro e v7 ⟨rfl,hx1⟩
 replace HB:=Lib.hid (HB.out.ext hx1)
 replace HP:=Lib.hid (HP.out.ext hx1)
 replace HX:=Lib.hid (HX.out.trans hx1)
 clear hx1
 by_cases y2:ci=0
 rotate_left
 ·have g:(ci != 0)=true:=by rw [bne_iff_ne];exact y2
  have e:=T2.out (by trivial) y2
  subst e
  clear T1 T2 T3 T4
  obtain ⟨c0,c1,d0,d1⟩:=frBlk HP.out (Ext.refl _)
  go_wp2_with fail
  refine bodyPost_ret (results_ttft rfl _ _ (w.heap.size+1) (.string ⟨#[]⟩) (.string ⟨#[]⟩) (.string ⟨#[]⟩) (.string ⟨#[]⟩) (.int .i64 1) rfl rfl rfl rfl ((HP.out.set_ 0 _).set_ 1 _)) rfl ?_
  exact ⟨rfl,(HX.out.setCell (p:=⟨w.heap.size+1,0,none⟩) (by show w.heap.size≤w.heap.size+1;omega) _).setCell (p:=⟨w.heap.size+1,1,none⟩) (by show w.heap.size≤w.heap.size+1;omega) _⟩
 subst y2
 go_wp2_with fail
 refine (C0.out _).mono ?_
 rintro e v9 ⟨rfl,hx1⟩
 replace HB:=Lib.hid (HB.out.ext hx1)
 replace HP:=Lib.hid (HP.out.ext hx1)
 replace HX:=Lib.hid (HX.out.trans hx1)
 clear hx1
 by_cases y3:si<0
 ·have g:decide (si<0)=true:=decide_eq_true y3
  have e:=T3.out (by trivial) (by trivial) (by omega)
  subst e
  clear T1 T2 T3 T4
  obtain ⟨c0,c1,d0,d1⟩:=frBlk HP.out (Ext.refl _)
  go_wp2_with fail
  refine bodyPost_ret (results_ttft rfl _ _ (w.heap.size+1) (.string ⟨#[]⟩) (.string ⟨#[]⟩) (.string ⟨#[]⟩) (.string ⟨#[]⟩) (.int .i64 2) rfl rfl rfl rfl ((HP.out.set_ 0 _).set_ 1 _)) rfl ?_
  exact ⟨rfl,(HX.out.setCell (p:=⟨w.heap.size+1,0,none⟩) (by show w.heap.size≤w.heap.size+1;omega) _).setCell (p:=⟨w.heap.size+1,1,none⟩) (by show w.heap.size≤w.heap.size+1;omega) _⟩
 have g3:decide (si<0)=false:=decide_eq_false y3
 have e:=T4.out (by trivial) (by trivial) (by omega)
 subst e
 clear T1 T2 T3 T4 CK CI C0
 obtain ⟨b0,b1,b2,b3,b4,b5,b6⟩:=optBlk HB.out (Ext.refl _)
 go_wp2_with fail
 refine (TT.out _).mono ?_
 rintro e W2 ⟨rfl,hx1⟩
 replace HB:=Lib.hid (HB.out.ext hx1)
 replace HP:=Lib.hid (HP.out.ext hx1)
 replace HX:=Lib.hid (HX.out.trans hx1)
 clear hx1
 clear b0 b1 b2 b3 b4 b5 b6
 have HBZ:=Lib.hid (Blk.new W2 26 #[.string (bs sn),.string (bs sd)])
 have hQ1:W2.heap.size≠w.heap.size+1:=by have:=HP.out.lt;omega
 replace HP:=Lib.hid (HP.out.alloc (.cells #[.string (bs sn),.string (bs sd)] 26))
 replace HX:=Lib.hid (HX.out.alloc (.cells #[.string (bs sn),.string (bs sd)] 26))
 have hQ2:w.heap.size+1≠W2.heap.size:=fun e=>hQ1 e.symm
 clear HB
 go_wp2_with fail
 generalize W2.heap.size=Q at *
 generalize W2.alloc (.cells #[.string (bs sn),.string (bs sd)] 26)=W3 at *
 obtain ⟨z0,z1,_,_⟩:=frBlk HBZ.out (Ext.refl _)
 obtain ⟨c0,c1,d0,d1⟩:=frBlk HP.out (Ext.refl _)
 go_region
 all_goals
  go_wp2_with fail
  refine bodyPost_ret (results_ttft rfl _ _ (w.heap.size+1) (.string (bs sn)) (.string (bs sd)) (.string (bs sx)) (.string (bs z)) (.int .i64 0) rfl rfl rfl rfl ((HP.out.drew.set_ 0 _).set_ 1 _)) rfl ?_
  exact ⟨rfl,(HX.out.drew.setCell (p:=⟨w.heap.size+1,0,none⟩) (by show w.heap.size≤w.heap.size+1;omega) _).setCell (p:=⟨w.heap.size+1,1,none⟩) (by show w.heap.size≤w.heap.size+1;omega) _⟩
end
section
open Go.RowKit
attribute [local go_sem] size_bs toList_bs
def worthQ (o:OptV):Rat:=frQ o.r*frQ o.v+frQ o.p
def worthV (o:OptV):Fr × Int:=if optE o=0 then (ofQ (worthQ o),0) else (⟨[],[]⟩,1)
theorem results_ft3 {fn:Func} {b c:Tmp} (h:fn.results=#[.cell b 26,.tmp c]) (tmps:Array Value) (w:World) (g:Nat) (x y u:Value) (ha:tmps.getD b undef = .pointer (some ⟨g,0,none⟩)) (hu:tmps.getD c undef=u) (hb:Blk w g 26 #[x,y]) :
  (results fn tmps).run Tryz.prog w = .ok (.tuple #[.agg #[x,y],u]) w:=by
 obtain ⟨q0,q1,_,_⟩:=frBlk hb (Ext.refl _)
 unfold results
 rw [h]
 simp only [List.mapM_toArray,List.mapM_cons,List.mapM_nil,ha,hu]
 go_simp
theorem worth_qb {L:Nat} (h0:0<L) {o:OptV} (hs:OptSm L o):QB (L+L) (frQ o.r*frQ o.v)∧QB (L+L+L+1) (worthQ o):=by
 obtain ⟨s0,s1,s2,s3,s4,s5,s6⟩:=hs
 have a:=(frQ_qb s1 s2 h0).mul (frQ_qb s5 s6 h0)
 exact ⟨a,a.add (frQ_qb s3 s4 h0)⟩
theorem mgWorth {L:Nat} (h0:0<L) (hL:L≤1000) (o:OptV) (hs:OptSm L o) :
  Pure 44 #[ov o] (.tuple #[fv (worthV o).1,.int .i64 (worthV o).2]):=by
 intro w hE
 have HE:=Lib.hid hE
 have hs9:OptSm 9000 o:=by
  obtain ⟨s0,s1,s2,s3,s4,s5,s6⟩:=hs
  exact ⟨by omega,by omega,by omega,by omega,by omega,by omega,by omega⟩
 have CK:=Lib.hid (mgOptCheck o hs9)
 have qm:=(worth_qb h0 hs).1
 have l1:=qm.num_len
 have l2:=qm.den_len
 have M1:=Lib.hid (fracMul o.r o.v (by have:=hs.2.1;omega) (by have:=hs.2.2.1;omega) (by have:=hs.2.2.2.2.2.1;omega) (by have:=hs.2.2.2.2.2.2;omega))
 have a:=fracAdd (ofQ (frQ o.r*frQ o.v)) o.p (by omega) (by omega) (by have:=hs.2.2.2.1;omega) (by have:=hs.2.2.2.2.1;omega)
 rw [frQ_ofQ,show frQ o.r*frQ o.v+frQ o.p=worthQ o from rfl] at a
 have A1:=Lib.hid a
 have T1:Hid (optE o≠0→worthV o=(⟨[],[]⟩,1)):=Lib.hid (fun h=>by unfold worthV;rw [if_neg h])
 have T2:Hid (optE o=0→worthV o=(ofQ (worthQ o),0)):=Lib.hid (fun h=>by unfold worthV;rw [if_pos h])
 generalize worthV o=v at *
 generalize ofQ (worthQ o)=z at *
 generalize ofQ (frQ o.r*frQ o.v)=m at *
 generalize optE o=oe at *
 clear hs hs9 qm l1 l2 a hE h0 hL
 obtain ⟨ot,⟨rn,rd⟩,⟨pn,pd⟩,⟨vn,vd⟩⟩:=o
 dsimp only at M1 A1
 have hn1:w.heap.size≠w.heap.size+1:=by omega
 have hn2:w.heap.size+1≠w.heap.size:=by omega
 have hn3:¬ (w.heap.size=w.heap.size+1):=by omega
 have HB:=Lib.hid ((Blk.new w 50 #[.string (bs ot),.string (bs rn),.string (bs rd),.string (bs pn),.string (bs pd),.string (bs vn),.string (bs vd)]).alloc (.cells #[.string ⟨#[]⟩,.string ⟨#[]⟩] 26))
 have HP:=Lib.hid (Blk.newAt (w.alloc (.cells #[.string (bs ot),.string (bs rn),.string (bs rd),.string (bs pn),.string (bs pd),.string (bs vn),.string (bs vd)] 50)) 26 #[.string ⟨#[]⟩,.string ⟨#[]⟩] (w.heap.size+1) (by simp))
 have HX:Hid (Ext w ((w.alloc (.cells #[.string (bs ot),.string (bs rn),.string (bs rd),.string (bs pn),.string (bs pd),.string (bs vn),.string (bs vd)] 50)).alloc (.cells #[.string ⟨#[]⟩,.string ⟨#[]⟩] 26))):=Lib.hid ((Ext.new _ _).alloc _)
 go_enter Tryz.func44,Tryz.ntmps44
 go_upto_region 1 with fail
 generalize (w.alloc (.cells #[.string (bs ot),.string (bs rn),.string (bs rd),.string (bs pn),.string (bs pd),.string (bs vn),.string (bs vd)] 50)).alloc (.cells #[.string ⟨#[]⟩,.string ⟨#[]⟩] 26)=W0 at *
 replace HB:Hid (Blk W0 w.heap.size 50 (oc ⟨ot,⟨rn,rd⟩,⟨pn,pd⟩,⟨vn,vd⟩⟩)):=HB
 obtain ⟨b0,b1,b2,b3,b4,b5,b6⟩:=optBlk HB.out (Ext.refl _)
 go_wp2_with fail
 refine (CK.out _ (HE.out.ext HX.out)).mono ?_
 rintro e W2 ⟨rfl,hx1⟩
 replace HB:=Lib.hid (HB.out.ext hx1)
 replace HP:=Lib.hid (HP.out.ext hx1)
 replace HX:=Lib.hid (HX.out.trans hx1)
 clear hx1
 clear b0 b1 b2 b3 b4 b5 b6
 by_cases y1:oe=0
 rotate_left
 ·have g:(oe != 0)=true:=by rw [bne_iff_ne];exact y1
  have e:=T1.out y1
  subst e
  clear T1 T2
  obtain ⟨c0,c1,d0,d1⟩:=frBlk HP.out (Ext.refl _)
  go_wp2_with fail
  refine bodyPost_ret (results_ft3 rfl _ _ (w.heap.size+1) (.string ⟨#[]⟩) (.string ⟨#[]⟩) (.int .i64 1) rfl rfl ((HP.out.set_ 0 _).set_ 1 _)) rfl ?_
  exact ⟨rfl,(HX.out.setCell (p:=⟨w.heap.size+1,0,none⟩) (by show w.heap.size≤w.heap.size+1;omega) _).setCell (p:=⟨w.heap.size+1,1,none⟩) (by show w.heap.size≤w.heap.size+1;omega) _⟩
 subst y1
 have e:=T2.out (by trivial)
 subst e
 clear T1 T2 CK
 obtain ⟨b0,b1,b2,b3,b4,b5,b6⟩:=optBlk HB.out (Ext.refl _)
 obtain ⟨c0,c1,d0,d1⟩:=frBlk HP.out (Ext.refl _)
 have HD:Hid (Ext W2 W2.drew):=Lib.hid (Ext.refl W2).drew
 go_wp2_with fail
 go_region_held3
  (fun w'=>w'.cell? ⟨w.heap.size,1,none⟩=some (.string (bs rn))∧w'.cell? ⟨w.heap.size,2,none⟩=some (.string (bs rd))∧w'.cell? ⟨w.heap.size,3,none⟩=some (.string (bs pn))∧w'.cell? ⟨w.heap.size,4,none⟩=some (.string (bs pd))∧w'.cell? ⟨w.heap.size,5,none⟩=some (.string (bs vn))∧w'.cell? ⟨w.heap.size,6,none⟩=some (.string (bs vd)))
  (go_keep)
  (first
   |(go_at_call 38;((with_reducible refine (M1.out _ (HE.out.ext (HX.out.trans HD.out))).mono ?_);rintro e w5 ⟨rfl,hx⟩);(replace HD:=Lib.hid (HD.out.trans hx));(obtain ⟨_,b1,b2,b3,b4,b5,b6⟩:=optBlk HB.out HD.out);(obtain ⟨c2,c3,d2,d3⟩:=frBlk HP.out HD.out);clear hx)
   |(go_at_call 37;((with_reducible refine (A1.out _ (HE.out.ext (HX.out.trans HD.out))).mono ?_);rintro e w5 ⟨rfl,hx⟩);(replace HD:=Lib.hid (HD.out.trans hx));(obtain ⟨_,b1,b2,b3,b4,b5,b6⟩:=optBlk HB.out HD.out);(obtain ⟨c2,c3,d2,d3⟩:=frBlk HP.out HD.out);clear hx)
   |fail)
 all_goals
  go_wp2_with fail
  refine bodyPost_ret (results_ft3 rfl _ _ (w.heap.size+1) (.string (bs z.num)) (.string (bs z.den)) (.int .i64 0) rfl rfl (((HP.out.ext HD.out).set_ 0 _).set_ 1 _)) rfl ?_
  exact ⟨rfl,((HX.out.trans HD.out).setCell (p:=⟨w.heap.size+1,0,none⟩) (by show w.heap.size≤w.heap.size+1;omega) _).setCell (p:=⟨w.heap.size+1,1,none⟩) (by show w.heap.size≤w.heap.size+1;omega) _⟩
theorem rfWorth0 {L:Nat} (h0:0<L) (hL:L≤1000) (o:OptV) (hs:OptSm L o):PureR 100 #[ov o] (fv (ofQ (worthQ o))):=by
 intro w
 have qm:=(worth_qb h0 hs).1
 have l1:=qm.num_len
 have l2:=qm.den_len
 have M1:=Lib.hid (refMulF o.r o.v (by have:=hs.2.1;omega) (by have:=hs.2.2.1;omega) (by have:=hs.2.2.2.2.2.1;omega) (by have:=hs.2.2.2.2.2.2;omega))
 have a:=refAddF (ofQ (frQ o.r*frQ o.v)) o.p (by omega) (by omega) (by have:=hs.2.2.2.1;omega) (by have:=hs.2.2.2.2.1;omega)
 rw [frQ_ofQ,show frQ o.r*frQ o.v+frQ o.p=worthQ o from rfl] at a
 have A1:=Lib.hid a
 generalize ofQ (worthQ o)=z at *
 generalize ofQ (frQ o.r*frQ o.v)=m at *
 clear hs qm l1 l2 a h0 hL
 obtain ⟨ot,⟨rn,rd⟩,⟨pn,pd⟩,⟨vn,vd⟩⟩:=o
 dsimp only at M1 A1
 have hn1:w.heap.size≠w.heap.size+1:=by omega
 have hn2:w.heap.size+1≠w.heap.size:=by omega
 have hn3:¬ (w.heap.size=w.heap.size+1):=by omega
 have HB:=Lib.hid ((Blk.new w 50 #[.string (bs ot),.string (bs rn),.string (bs rd),.string (bs pn),.string (bs pd),.string (bs vn),.string (bs vd)]).alloc (.cells #[.string ⟨#[]⟩,.string ⟨#[]⟩] 26))
 have HP:=Lib.hid (Blk.newAt (w.alloc (.cells #[.string (bs ot),.string (bs rn),.string (bs rd),.string (bs pn),.string (bs pd),.string (bs vn),.string (bs vd)] 50)) 26 #[.string ⟨#[]⟩,.string ⟨#[]⟩] (w.heap.size+1) (by simp))
 have HX:Hid (Ext w ((w.alloc (.cells #[.string (bs ot),.string (bs rn),.string (bs rd),.string (bs pn),.string (bs pd),.string (bs vn),.string (bs vd)] 50)).alloc (.cells #[.string ⟨#[]⟩,.string ⟨#[]⟩] 26))):=Lib.hid ((Ext.new _ _).alloc _)
 go_enter Tryz.func100,Tryz.ntmps100
 go_upto_region 1 with fail
 generalize (w.alloc (.cells #[.string (bs ot),.string (bs rn),.string (bs rd),.string (bs pn),.string (bs pd),.string (bs vn),.string (bs vd)] 50)).alloc (.cells #[.string ⟨#[]⟩,.string ⟨#[]⟩] 26)=W0 at *
 replace HB:Hid (Blk W0 w.heap.size 50 (oc ⟨ot,⟨rn,rd⟩,⟨pn,pd⟩,⟨vn,vd⟩⟩)):=HB
 obtain ⟨b0,b1,b2,b3,b4,b5,b6⟩:=optBlk HB.out (Ext.refl _)
 obtain ⟨c0,c1,d0,d1⟩:=frBlk HP.out (Ext.refl _)
 have HD:Hid (Ext W0 W0.drew):=Lib.hid (Ext.refl W0).drew
 go_region_held3
  (fun w'=>w'.cell? ⟨w.heap.size,1,none⟩=some (.string (bs rn))∧w'.cell? ⟨w.heap.size,2,none⟩=some (.string (bs rd))∧w'.cell? ⟨w.heap.size,3,none⟩=some (.string (bs pn))∧w'.cell? ⟨w.heap.size,4,none⟩=some (.string (bs pd))∧w'.cell? ⟨w.heap.size,5,none⟩=some (.string (bs vn))∧w'.cell? ⟨w.heap.size,6,none⟩=some (.string (bs vd)))
  (go_keep)
  (first
   |(go_at_call 168;((with_reducible refine (M1.out _ ).mono ?_);rintro e w5 ⟨rfl,hx⟩);(replace HD:=Lib.hid (HD.out.trans hx));(obtain ⟨_,b1,b2,b3,b4,b5,b6⟩:=optBlk HB.out HD.out);(obtain ⟨c2,c3,d2,d3⟩:=frBlk HP.out HD.out);clear hx)
   |(go_at_call 167;((with_reducible refine (A1.out _ ).mono ?_);rintro e w5 ⟨rfl,hx⟩);(replace HD:=Lib.hid (HD.out.trans hx));(obtain ⟨_,b1,b2,b3,b4,b5,b6⟩:=optBlk HB.out HD.out);(obtain ⟨c2,c3,d2,d3⟩:=frBlk HP.out HD.out);clear hx)
   |fail)
 all_goals
  go_wp2_with fail
  refine bodyPost_ret (results_fr rfl _ _ (w.heap.size+1) (.string (bs z.num)) (.string (bs z.den)) rfl (((HP.out.ext HD.out).set_ 0 _).set_ 1 _)) rfl ?_
  exact ⟨rfl,((HX.out.trans HD.out).setCell (p:=⟨w.heap.size+1,0,none⟩) (by show w.heap.size≤w.heap.size+1;omega) _).setCell (p:=⟨w.heap.size+1,1,none⟩) (by show w.heap.size≤w.heap.size+1;omega) _⟩
theorem rfWorth {L:Nat} (h0:0<L) (hL:L≤1000) (o:OptV) (hs:OptSm L o) :
  PureR 45 #[ov o] (.tuple #[fv (worthV o).1,.int .i64 (worthV o).2]):=by
 intro w
 have hs9:OptSm 9000 o:=by
  obtain ⟨s0,s1,s2,s3,s4,s5,s6⟩:=hs
  exact ⟨by omega,by omega,by omega,by omega,by omega,by omega,by omega⟩
 have CK:=Lib.hid (rfOptCheck o hs9)
 have A1:=Lib.hid (rfWorth0 h0 hL o hs)
 have T1:Hid (optE o≠0→worthV o=(⟨[],[]⟩,1)):=Lib.hid (fun h=>by unfold worthV;rw [if_neg h])
 have T2:Hid (optE o=0→worthV o=(ofQ (worthQ o),0)):=Lib.hid (fun h=>by unfold worthV;rw [if_pos h])
 generalize worthV o=v at *
 generalize ofQ (worthQ o)=z at *
 generalize optE o=oe at *
 clear hs hs9 h0 hL
 obtain ⟨ot,⟨rn,rd⟩,⟨pn,pd⟩,⟨vn,vd⟩⟩:=o
 have hn1:w.heap.size≠w.heap.size+1:=by omega
 have hn2:w.heap.size+1≠w.heap.size:=by omega
 have hn3:¬ (w.heap.size=w.heap.size+1):=by omega
 have HB:=Lib.hid ((Blk.new w 50 #[.string (bs ot),.string (bs rn),.string (bs rd),.string (bs pn),.string (bs pd),.string (bs vn),.string (bs vd)]).alloc (.cells #[.string ⟨#[]⟩,.string ⟨#[]⟩] 26))
 have HP:=Lib.hid (Blk.newAt (w.alloc (.cells #[.string (bs ot),.string (bs rn),.string (bs rd),.string (bs pn),.string (bs pd),.string (bs vn),.string (bs vd)] 50)) 26 #[.string ⟨#[]⟩,.string ⟨#[]⟩] (w.heap.size+1) (by simp))
 have HX:Hid (Ext w ((w.alloc (.cells #[.string (bs ot),.string (bs rn),.string (bs rd),.string (bs pn),.string (bs pd),.string (bs vn),.string (bs vd)] 50)).alloc (.cells #[.string ⟨#[]⟩,.string ⟨#[]⟩] 26))):=Lib.hid ((Ext.new _ _).alloc _)
 go_enter Tryz.func45,Tryz.ntmps45
 go_upto_region 1 with fail
 generalize (w.alloc (.cells #[.string (bs ot),.string (bs rn),.string (bs rd),.string (bs pn),.string (bs pd),.string (bs vn),.string (bs vd)] 50)).alloc (.cells #[.string ⟨#[]⟩,.string ⟨#[]⟩] 26)=W0 at *
 replace HB:Hid (Blk W0 w.heap.size 50 (oc ⟨ot,⟨rn,rd⟩,⟨pn,pd⟩,⟨vn,vd⟩⟩)):=HB
 obtain ⟨b0,b1,b2,b3,b4,b5,b6⟩:=optBlk HB.out (Ext.refl _)
 go_wp2_with fail
 refine (CK.out _).mono ?_
 rintro e W2 ⟨rfl,hx1⟩
 replace HB:=Lib.hid (HB.out.ext hx1)
 replace HP:=Lib.hid (HP.out.ext hx1)
 replace HX:=Lib.hid (HX.out.trans hx1)
 clear hx1
 clear b0 b1 b2 b3 b4 b5 b6
 by_cases y1:oe=0
 rotate_left
 ·have g:(oe != 0)=true:=by rw [bne_iff_ne];exact y1
  have e:=T1.out y1
  subst e
  clear T1 T2
  obtain ⟨c0,c1,d0,d1⟩:=frBlk HP.out (Ext.refl _)
  go_wp2_with fail
  refine bodyPost_ret (results_ft3 rfl _ _ (w.heap.size+1) (.string ⟨#[]⟩) (.string ⟨#[]⟩) (.int .i64 1) rfl rfl ((HP.out.set_ 0 _).set_ 1 _)) rfl ?_
  exact ⟨rfl,(HX.out.setCell (p:=⟨w.heap.size+1,0,none⟩) (by show w.heap.size≤w.heap.size+1;omega) _).setCell (p:=⟨w.heap.size+1,1,none⟩) (by show w.heap.size≤w.heap.size+1;omega) _⟩
 subst y1
 have e:=T2.out (by trivial)
 subst e
 clear T1 T2 CK
 obtain ⟨b0,b1,b2,b3,b4,b5,b6⟩:=optBlk HB.out (Ext.refl _)
 go_wp2_with fail
 refine (A1.out _).mono ?_
 rintro e v24 ⟨rfl,hx1⟩
 replace HB:=Lib.hid (HB.out.ext hx1)
 replace HP:=Lib.hid (HP.out.ext hx1)
 replace HX:=Lib.hid (HX.out.trans hx1)
 clear hx1
 clear b0 b1 b2 b3 b4 b5 b6
 obtain ⟨c0,c1,d0,d1⟩:=frBlk HP.out (Ext.refl _)
 go_wp2_with fail
 refine bodyPost_ret (results_ft3 rfl _ _ (w.heap.size+1) (.string (bs z.num)) (.string (bs z.den)) (.int .i64 0) rfl rfl ((HP.out.set_ 0 _).set_ 1 _)) rfl ?_
 exact ⟨rfl,(HX.out.setCell (p:=⟨w.heap.size+1,0,none⟩) (by show w.heap.size≤w.heap.size+1;omega) _).setCell (p:=⟨w.heap.size+1,1,none⟩) (by show w.heap.size≤w.heap.size+1;omega) _⟩
end
section
open Go.RowKit Go.Shelf
attribute [local go_sem] size_bs toList_bs
def optCells (o:OptV):List Value:=[.string (bs o.other),.string (bs o.r.num),.string (bs o.r.den),.string (bs o.p.num),.string (bs o.p.den),.string (bs o.v.num),.string (bs o.v.den)]
theorem optCells_len (x:OptV):(optCells x).length=7:=rfl
def RdO (w:World) (A:Option Addr) (os:List OptV):Prop:=Reads w 7 A os.length (os.flatMap optCells)
theorem RdO.ext {w w':World} {A:Option Addr} {os:List OptV} (h:RdO w A os) (he:Ext w w'):RdO w' A os:=Reads.ext h he
theorem RdO.at_ {w:World} {A:Option Addr} {os:List OptV} (h:RdO w A os) {k:Nat} (hk:k<os.length) :
  ∃ b o,A=some ⟨b,o,none⟩∧b<w.heap.size∧w.cell? ⟨b,o+k*7,none⟩=some (.string (bs (os[k]'hk).other))∧w.cell? ⟨b,o+k*7+1,none⟩=some (.string (bs (os[k]'hk).r.num))∧w.cell? ⟨b,o+k*7+2,none⟩=some (.string (bs (os[k]'hk).r.den))∧w.cell? ⟨b,o+k*7+3,none⟩=some (.string (bs (os[k]'hk).p.num)) ∧
    w.cell? ⟨b,o+k*7+4,none⟩=some (.string (bs (os[k]'hk).p.den))∧w.cell? ⟨b,o+k*7+5,none⟩=some (.string (bs (os[k]'hk).v.num))∧w.cell? ⟨b,o+k*7+6,none⟩=some (.string (bs (os[k]'hk).v.den)):=by
 obtain ⟨b,o,rfl,hb⟩:=Reads.at_ h (by omega)
 have key:∀ j (_:j<7),w.cell? ⟨b,o+k*7+j,none⟩=(optCells (os[k]'hk))[j]? := fun j hj=>by
  have h1:=flat_at optCells 7 optCells_len os k j hk hj
  have hl:j<(optCells (os[k]'hk)).length:=by rw [optCells_len];exact hj
  rw [List.getElem?_eq_getElem hl] at h1 ⊢
  have h2:=Reads.cell h h1
  rw [← Nat.add_assoc] at h2
  exact h2
 exact ⟨b,o,rfl,hb,key 0 (by decide),key 1 (by decide),key 2 (by decide),key 3 (by decide),key 4 (by decide),key 5 (by decide),key 6 (by decide)⟩
def wq (os:List OptV) (k:Nat):Rat:=match os[k]? with | some o=>worthQ o | none=>0
def bestK (os:List OptV):Nat→Nat
 |0=>0
 |k+1=>if k=0 then 0 else if wq os (bestK os k)<wq os k then k else bestK os k
def bestV (os:List OptV):Int × Int:=if os=[] then (0,11) else if 8<os.length then (0,4) else if ∃ x ∈ os,optE x≠0 then (0,1) else (((bestK os os.length:Nat):Int),0)
theorem wq_at {os:List OptV} {k:Nat} (h:k<os.length):wq os k=worthQ (os[k]'h):=by unfold wq;rw [List.getElem?_eq_getElem h]
theorem bestK_lt (os:List OptV):∀ k,bestK os (k+1)≤k
 |0=>by simp [bestK]
 |k+1=>by
  have:=bestK_lt os k
  rw [bestK,if_neg (by omega)]
  split
  ·omega
  ·omega
theorem bestK_yes {os:List OptV} {k:Nat} (h:k≠0) (h2:0<cmpQ (wq os k) (wq os (bestK os k))):bestK os (k+1)=k:=by
 rw [bestK,if_neg h,if_pos (cmpQ_pos.1 h2)]
theorem bestK_no {os:List OptV} {k:Nat} (h:k≠0) (h2:¬ 0<cmpQ (wq os k) (wq os (bestK os k))):bestK os (k+1)=bestK os k:=by
 rw [bestK,if_neg h,if_neg (fun a=>h2 (cmpQ_pos.2 a))]
def keptW (os:List OptV) (k:Nat):Fr:=if k=0 then ⟨[],[]⟩ else ofQ (wq os (bestK os k))
theorem keptW_yes {os:List OptV} {k:Nat} (h:bestK os (k+1)=k):keptW os (k+1)=ofQ (wq os k):=by
 unfold keptW;rw [if_neg (by omega),h]
theorem keptW_no {os:List OptV} {k:Nat} (h0:k≠0) (h:bestK os (k+1)=bestK os k):keptW os (k+1)=keptW os k:=by
 unfold keptW;rw [if_neg (by omega),if_neg h0,h]
theorem wq_qb {os:List OptV} (hs:∀ x ∈ os,OptSm 1000 x) {k:Nat} (h:k<os.length):QB 3001 (wq os k):=by
 rw [wq_at h]
 exact (worth_qb (L:=1000) (by omega) (hs _ (List.getElem_mem h))).2
theorem bestV_nil:bestV []=(0,11):=rfl
theorem bestV_long {os:List OptV} (h:8<os.length):bestV os=(0,4):=by
 unfold bestV;rw [if_neg (by rintro rfl;simp at h),if_pos h]
theorem bestV_bad {os:List OptV} (h0:os≠[]) (h:¬ 8<os.length) {x:OptV} (hx:x ∈ os) (he:optE x≠0):bestV os=(0,1):=by
 unfold bestV;rw [if_neg h0,if_neg h,if_pos ⟨x,hx,he⟩]
theorem bestV_ok {os:List OptV} (h0:os≠[]) (h:¬ 8<os.length) (hx:∀ k (hk:k<os.length),optE (os[k]'hk)=0):bestV os=(((bestK os os.length:Nat):Int),0):=by
 unfold bestV;rw [if_neg h0,if_neg h,if_neg]
 rintro ⟨x,hm,he⟩
 obtain ⟨k,hk,rfl⟩:=List.getElem_of_mem hm
 exact he (hx k hk)
theorem worthV_bad {o:OptV} (h:optE o≠0):worthV o=(⟨[],[]⟩,1):=by unfold worthV;rw [if_neg h]
theorem worthV_ok {o:OptV} (h:optE o=0):worthV o=(ofQ (worthQ o),0):=by unfold worthV;rw [if_pos h]
theorem mgBest (os:List OptV) (A:Option Addr) (c:Nat) (w:World) (hA:RdO w A os) (hs:∀ x ∈ os,OptSm 1000 x) (hc:os.length≤c) (hn:os.length≤1000) (hE:Env w) :
  Calls Tryz.prog 41 #[.slice A os.length c] w fun e w'=>e = .returned (.tuple #[.int .i64 (bestV os).1,.int .i64 (bestV os).2])∧Ext w w':=by
 have HE:=Lib.hid hE
 have HA:=Lib.hid hA
 by_cases h0:os=[]
 ·subst h0
  rw [bestV_nil]
  go_enter Tryz.func41,Tryz.ntmps41
  go_wp2_with fail
  go_ret2
  exact ⟨rfl,Ext.refl _⟩
 have hl0:os.length≠0:=fun h=>h0 (List.eq_nil_of_length_eq_zero h)
 have q0:((os.length:Int) == 0)=false:=by rw [beq_eq_false_iff_ne];omega
 by_cases h8:8<os.length
 ·rw [bestV_long h8]
  have q8:decide (8<(os.length:Int))=true:=by rw [decide_eq_true_iff];omega
  go_enter Tryz.func41,Tryz.ntmps41
  go_wp2_with fail
  go_ret2
  exact ⟨rfl,Ext.refl _⟩
 have q8:decide (8<(os.length:Int))=false:=by rw [decide_eq_false_iff_not];omega
 have BB:=Lib.hid (fun x hx he=>bestV_bad (x:=x) h0 h8 hx he)
 have BK:=Lib.hid (bestV_ok h0 h8)
 have HW:=Lib.hid (fun k (hk:k<os.length)=>mgWorth (L:=1000) (by omega) (by omega) (os[k]'hk) (hs _ (List.getElem_mem hk)))
 have HQ:=Lib.hid (fun k (hk:k<os.length)=>wq_qb hs hk)
 clear hs h0 hE hA h8
 generalize bestV os=bv at *
 have HP:=Lib.hid (Blk.new w 26 #[.string ⟨#[]⟩,.string ⟨#[]⟩])
 have HX:Hid (Ext w (w.alloc (.cells #[.string ⟨#[]⟩,.string ⟨#[]⟩] 26))):=Lib.hid (Ext.new _ _)
 go_enter Tryz.func41,Tryz.ntmps41
 go_wp2_with fail
 generalize w.alloc (.cells #[.string ⟨#[]⟩,.string ⟨#[]⟩] 26)=W0 at *
 go_loopw [18,4,6,7,8,9] (fun i b _ _ _ _ wr=>∃ k:Nat,k≤os.length∧i = .int .i64 k∧b = .int .i64 (bestK os k:Nat)∧Ext w wr∧Blk wr w.heap.size 26 #[.string (bs (keptW os k).num),.string (bs (keptW os k).den)]∧∀ j (hj:j<os.length),j<k→optE (os[j]'hj)=0) (fun i _ _ _ _ _ _=>os.length-(intOf i).toNat)
 case atStart=>exact ⟨0,by omega,rfl,rfl,HX.out,HP.out,fun j hj h=>absurd h (by omega)⟩
 case round =>
  clear HX HP
  obtain ⟨k,hk,rfl,rfl,hx,hp,hok⟩:=hrel
  have HX:=Lib.hid hx
  have HP:=Lib.hid hp
  have HO:=Lib.hid hok
  clear hx hp hok
  by_cases hlt:k<os.length
  ·obtain ⟨b,o,rfl,hb,c0,c1,c2,c3,c4,c5,c6⟩:=(HA.out.ext HX.out).at_ hlt
   have W1:=Lib.hid (HW.out k hlt)
   have hki:(k:Int)<(os.length:Int):=by omega
   have hk0:(0:Int)≤(k:Int):=by omega
   have HO1:Hid (optE (os[k]'hlt)=0→∀ j (hj:j<os.length),j<k+1→optE (os[j]'hj)=0):=Lib.hid (fun h j hj hjk=>by
    by_cases e:j=k
    ·subst e;exact h
    ·exact HO.out j hj (by omega))
   have B1:=Lib.hid (BB.out (os[k]'hlt) (List.getElem_mem hlt))
   have hwk:=wq_at hlt
   have q1:=HQ.out k hlt
   have l1:=q1.num_len
   have l2:=q1.den_len
   have CM:Hid (k≠0→Pure 39 #[fv (ofQ (wq os k)),fv (keptW os k)] (.int .i64 (cmpQ (wq os k) (wq os (bestK os k))))):=Lib.hid (fun hk0=>by
    have hb:bestK os k<os.length:=by
     obtain ⟨m,rfl⟩:∃ m,k=m+1:=⟨k-1,by omega⟩
     have:=bestK_lt os m
     omega
    have q2:=HQ.out _ hb
    have l3:=q2.num_len
    have l4:=q2.den_len
    have e:keptW os k=ofQ (wq os (bestK os k)):=by unfold keptW;rw [if_neg hk0]
    rw [e]
    have:=fracCmp (ofQ (wq os k)) (ofQ (wq os (bestK os k))) (by omega) (by omega) (by omega) (by omega)
    rwa [frQ_ofQ,frQ_ofQ] at this)
   have W3:Hid (optE (os[k]'hlt)=0→worthV (os[k]'hlt)=(ofQ (wq os k),0)):=Lib.hid (fun h=>by rw [worthV_ok h,hwk])
   clear hwk q1 l1 l2 HQ HW HO BB BK
   generalize (os[k]'hlt)=x at *
   replace HX:=Lib.hid (HX.out.alloc (.cells #[.string (bs x.other),.string (bs x.r.num),.string (bs x.r.den),.string (bs x.p.num),.string (bs x.p.den),.string (bs x.v.num),.string (bs x.v.den)] 50))
   replace HP:=Lib.hid (HP.out.alloc (.cells #[.string (bs x.other),.string (bs x.r.num),.string (bs x.r.den),.string (bs x.p.num),.string (bs x.p.den),.string (bs x.v.num),.string (bs x.v.den)] 50))
   by_cases he:optE x=0
   rotate_left
   ·have e:=B1.out he
    subst e
    replace W1:=Lib.hid (by have:=W1.out;rwa [worthV_bad he] at this)
    clear CM W3 HO1 B1
    go_wp2_with fail
    refine (W1.out _ (HE.out.ext HX.out)).mono ?_
    rintro e v1 ⟨rfl,hx1⟩
    replace HX:=Lib.hid (HX.out.trans hx1)
    clear hx1
    go_wp2_with fail
    go_ret2
    exact ⟨rfl,HX.out.alloc _⟩
   ·have w3:=W3.out he
    replace W1:=Lib.hid (by have:=W1.out;rwa [w3] at this)
    replace HO1:=Lib.hid (HO1.out he)
    clear w3 W3 B1 he
    generalize hz:ofQ (wq os k)=z at *
    go_wp2_with fail
    refine (W1.out _ (HE.out.ext HX.out)).mono ?_
    rintro e W2 ⟨rfl,hx1⟩
    replace HP:=Lib.hid (HP.out.ext hx1)
    replace HX:=Lib.hid (HX.out.trans hx1)
    clear hx1
    have hne1:w.heap.size≠W2.heap.size:=by have:=HP.out.lt;omega
    have hne2:W2.heap.size≠w.heap.size:=fun e=>hne1 e.symm
    have HZ:=Lib.hid (Blk.new W2 26 #[.string (bs z.num),.string (bs z.den)])
    replace HX:=Lib.hid (HX.out.alloc (.cells #[.string (bs z.num),.string (bs z.den)] 26))
    replace HP:=Lib.hid (HP.out.alloc (.cells #[.string (bs z.num),.string (bs z.den)] 26))
    obtain ⟨z0,z1,_,_⟩:=frBlk HZ.out (Ext.refl _)
    obtain ⟨p0,p1,p2,p3⟩:=frBlk HP.out (Ext.refl _)
    by_cases hk0':k=0
    ·have g:((k:Int) == 0)=true:=by rw [beq_iff_eq];omega
     have hb:bestK os (k+1)=k:=by subst hk0';rfl
     have HBK:=Lib.hid hb
     have HKW:Hid (keptW os (k+1)=z):=Lib.hid (by rw [keptW_yes hb,hz])
     clear hb CM hk0'
     go_wp2_with fail
     go_region
     all_goals
      go_wp2_with fail
      exact ⟨⟨k+1,by omega,by go_num,by rw [HBK.out],(HX.out.drew.setCell (p:=⟨w.heap.size,0,none⟩) (Nat.le_refl _) _).setCell (p:=⟨w.heap.size,1,none⟩) (Nat.le_refl _) _,by rw [HKW.out];exact (HP.out.drew.set_ 0 _).set_ 1 _,HO1.out⟩,by simp [intOf];omega⟩
    ·have g:((k:Int) == 0)=false:=by rw [beq_eq_false_iff_ne];omega
     have CP:=Lib.hid (CM.out hk0')
     have HY:Hid (0<cmpQ (wq os k) (wq os (bestK os k))→bestK os (k+1)=k∧keptW os (k+1)=z):=Lib.hid (fun h=>⟨bestK_yes hk0' h,by rw [keptW_yes (bestK_yes hk0' h),hz]⟩)
     have HN:Hid (¬ 0<cmpQ (wq os k) (wq os (bestK os k))→bestK os (k+1)=bestK os k∧keptW os (k+1)=keptW os k):=Lib.hid (fun h=>⟨bestK_no hk0' h,keptW_no hk0' (bestK_no hk0' h)⟩)
     clear CM hz hk0'
     generalize cmpQ (wq os k) (wq os (bestK os k))=cc at *
     go_wp2_with fail
     refine (CP.out _ (HE.out.ext HX.out)).mono ?_
     rintro e v4 ⟨rfl,hx1⟩
     replace HP:=Lib.hid (HP.out.ext hx1)
     replace HZ:=Lib.hid (HZ.out.ext hx1)
     replace HX:=Lib.hid (HX.out.trans hx1)
     clear hx1
     clear z0 z1 p0 p1 p2 p3 CP
     obtain ⟨z0,z1,_,_⟩:=frBlk HZ.out (Ext.refl _)
     obtain ⟨p0,p1,p2,p3⟩:=frBlk HP.out (Ext.refl _)
     by_cases hcc:0<cc
     ·have g1:decide (0<cc)=true:=decide_eq_true hcc
      have HBK:=Lib.hid (HY.out (by omega)).1
      have HKW:=Lib.hid (HY.out (by omega)).2
      clear HY HN
      go_wp2_with fail
      go_region
      all_goals
       go_wp2_with fail
       exact ⟨⟨k+1,by omega,by go_num,by rw [HBK.out],(HX.out.drew.setCell (p:=⟨w.heap.size,0,none⟩) (Nat.le_refl _) _).setCell (p:=⟨w.heap.size,1,none⟩) (Nat.le_refl _) _,by rw [HKW.out];exact (HP.out.drew.set_ 0 _).set_ 1 _,HO1.out⟩,by simp [intOf];omega⟩
     ·have g1:decide (0<cc)=false:=decide_eq_false hcc
      have HBK:=Lib.hid (HN.out (by omega)).1
      have HKW:=Lib.hid (HN.out (by omega)).2
      clear HY HN z0 z1 p0 p1 p2 p3
      go_wp2_with fail
      exact ⟨⟨k+1,by omega,by go_num,by rw [HBK.out],HX.out,by rw [HKW.out];exact HP.out,HO1.out⟩,by simp [intOf];omega⟩
  ·have hkl:k=os.length:=by omega
   have e:=BK.out (fun j hj=>HO.out j hj (by omega))
   rw [← hkl] at e
   have hki:¬ (k:Int)<(os.length:Int):=by omega
   clear BB BK HW HQ HO HP
   subst e
   go_wp2_with fail
   go_ret2
   exact ⟨rfl,HX.out⟩
end
section
open Go.RowKit Go.Shelf
attribute [local go_sem] size_bs toList_bs
theorem rfBest (os:List OptV) (A:Option Addr) (c:Nat) (w:World) (hA:RdO w A os) (hs:∀ x ∈ os,OptSm 1000 x) (hc:os.length≤c) (hn:os.length≤1000) :
  Calls Tryz.prog 42 #[.slice A os.length c] w fun e w'=>e = .returned (.tuple #[.int .i64 (bestV os).1,.int .i64 (bestV os).2])∧Ext w w':=by
 have HA:=Lib.hid hA
 by_cases h0:os=[]
 ·subst h0
  rw [bestV_nil]
  go_enter Tryz.func42,Tryz.ntmps42
  go_wp2_with fail
  go_ret2
  exact ⟨rfl,Ext.refl _⟩
 have hl0:os.length≠0:=fun h=>h0 (List.eq_nil_of_length_eq_zero h)
 have q0:((os.length:Int) == 0)=false:=by rw [beq_eq_false_iff_ne];omega
 by_cases h8:8<os.length
 ·rw [bestV_long h8]
  have q8:decide (8<(os.length:Int))=true:=by rw [decide_eq_true_iff];omega
  go_enter Tryz.func42,Tryz.ntmps42
  go_wp2_with fail
  go_ret2
  exact ⟨rfl,Ext.refl _⟩
 have q8:decide (8<(os.length:Int))=false:=by rw [decide_eq_false_iff_not];omega
 have BB:=Lib.hid (fun x hx he=>bestV_bad (x:=x) h0 h8 hx he)
 have BK:=Lib.hid (bestV_ok h0 h8)
 have HK:=Lib.hid (fun k (hk:k<os.length)=>rfOptCheck (os[k]'hk) (by
  obtain ⟨s0,s1,s2,s3,s4,s5,s6⟩:=hs _ (List.getElem_mem hk)
  exact ⟨by omega,by omega,by omega,by omega,by omega,by omega,by omega⟩))
 have HW:=Lib.hid (fun k (hk:k<os.length)=>rfWorth0 (L:=1000) (by omega) (by omega) (os[k]'hk) (hs _ (List.getElem_mem hk)))
 have HQ:=Lib.hid (fun k (hk:k<os.length)=>wq_qb hs hk)
 clear hs h0 hA h8
 generalize bestV os=bv at *
 have HX:Hid (Ext w w):=Lib.hid (Ext.refl _)
 go_enter Tryz.func42,Tryz.ntmps42
 go_wp2_with fail
 go_loopw [4] (fun i wr=>∃ k:Nat,k≤os.length∧i = .int .i64 k∧Ext w wr∧∀ j (hj:j<os.length),j<k→optE (os[j]'hj)=0) (fun i _=>os.length-(intOf i).toNat)
 case atStart=>exact ⟨0,by omega,rfl,HX.out,fun j hj h=>absurd h (by omega)⟩
 case round =>
  clear HX
  obtain ⟨k,hk,rfl,hx,hok⟩:=hrel
  have HX:=Lib.hid hx
  have HO:=Lib.hid hok
  clear hx hok
  by_cases hlt:k<os.length
  ·obtain ⟨b,o,rfl,hb,c0,c1,c2,c3,c4,c5,c6⟩:=(HA.out.ext HX.out).at_ hlt
   have K1:=Lib.hid (HK.out k hlt)
   have hki:(k:Int)<(os.length:Int):=by omega
   have hk0:(0:Int)≤(k:Int):=by omega
   have HO1:Hid (optE (os[k]'hlt)=0→∀ j (hj:j<os.length),j<k+1→optE (os[j]'hj)=0):=Lib.hid (fun h j hj hjk=>by
    by_cases e:j=k
    ·subst e;exact h
    ·exact HO.out j hj (by omega))
   have B1:=Lib.hid (BB.out (os[k]'hlt) (List.getElem_mem hlt))
   clear HQ HW HO BB BK HK
   generalize (os[k]'hlt)=x at *
   go_wp2_with fail
   refine (K1.out _).mono ?_
   rintro e v1 ⟨rfl,hx1⟩
   replace HX:=Lib.hid (HX.out.trans hx1)
   clear hx1
   by_cases he:optE x=0
   rotate_left
   ·have e:=B1.out he
    subst e
    have g:(optE x != 0)=true:=by rw [bne_iff_ne];exact he
    clear HO1 B1 he
    go_wp2_with fail
    go_ret2
    exact ⟨rfl,HX.out⟩
   ·have g:(optE x != 0)=false:=by rw [he];rfl
    replace HO1:=Lib.hid (HO1.out he)
    clear B1 he
    go_wp2_with fail
    exact ⟨⟨k+1,by omega,by go_num,HX.out,HO1.out⟩,by simp [intOf];omega⟩
  ·have e:=BK.out (fun j hj=>HO.out j hj (by omega))
   have hki:¬ (k:Int)<(os.length:Int):=by omega
   clear BB BK HO HK
   subst e
   go_wp2_with fail
   clear hki hk
   go_loopw [6,5] (fun i v wr2=>∃ k:Nat,1≤k∧k≤os.length∧i = .int .i64 k∧v = .int .i64 (bestK os k:Nat)∧Ext w wr2) (fun i _ _=>os.length-(intOf i).toNat)
   case atStart=>exact ⟨1,by omega,by omega,rfl,rfl,HX.out⟩
   case round =>
    clear HX
    obtain ⟨k,hk1,hk,rfl,rfl,hx⟩:=hrel
    have HX:=Lib.hid hx
    clear hx
    by_cases hlt:k<os.length
    ·have hml:bestK os k<os.length:=by
      obtain ⟨m,rfl⟩:∃ m,k=m+1:=⟨k-1,by omega⟩
      have:=bestK_lt os m
      omega
     have q1:=HQ.out k hlt
     have q2:=HQ.out _ hml
     have l1:=q1.num_len
     have l2:=q1.den_len
     have l3:=q2.num_len
     have l4:=q2.den_len
     have cp:=refCmpF (ofQ (wq os k)) (ofQ (wq os (bestK os k))) (by omega) (by omega) (by omega) (by omega)
     rw [frQ_ofQ,frQ_ofQ] at cp
     have CP:=Lib.hid cp
     have W1:=Lib.hid (HW.out k hlt)
     have W2:=Lib.hid (HW.out _ hml)
     rw [← wq_at] at W1 W2
     have HY:Hid (0<cmpQ (wq os k) (wq os (bestK os k))→bestK os (k+1)=k):=Lib.hid (fun h=>bestK_yes (by omega) h)
     have HN:Hid (¬ 0<cmpQ (wq os k) (wq os (bestK os k))→bestK os (k+1)=bestK os k):=Lib.hid (fun h=>bestK_no (by omega) h)
     have HA1:=Lib.hid (HA.out.ext HX.out)
     obtain ⟨b,o,rfl,hb,c0,c1,c2,c3,c4,c5,c6⟩:=HA1.out.at_ hlt
     obtain ⟨b',o',e,hb',d0,d1,d2,d3,d4,d5,d6⟩:=HA1.out.at_ hml
     injection e with e
     injection e with e1 e2 e3
     subst e1;subst e2
     have hki:(k:Int)<(os.length:Int):=by omega
     have hk0:(0:Int)≤(k:Int):=by omega
     have hmi:((bestK os k:Nat):Int)<(os.length:Int):=by omega
     have hm0:(0:Int)≤((bestK os k:Nat):Int):=by omega
     clear q1 q2 l1 l2 l3 l4 cp HQ HW
     generalize cmpQ (wq os k) (wq os (bestK os k))=cc at *
     generalize ofQ (wq os (bestK os k))=zy at *
     generalize ofQ (wq os k)=zx at *
     generalize hm:bestK os k=m at *
     generalize (os[k]'hlt)=x at *
     generalize (os[m]'hml)=y at *
     have HC:Hid (∀ W',Ext wr W'→W'.cell? ⟨b,o+k*7,none⟩=some (.string (bs x.other))∧W'.cell? ⟨b,o+k*7+1,none⟩=some (.string (bs x.r.num))∧W'.cell? ⟨b,o+k*7+2,none⟩=some (.string (bs x.r.den))∧W'.cell? ⟨b,o+k*7+3,none⟩=some (.string (bs x.p.num))∧W'.cell? ⟨b,o+k*7+4,none⟩=some (.string (bs x.p.den))∧W'.cell? ⟨b,o+k*7+5,none⟩=some (.string (bs x.v.num))∧W'.cell? ⟨b,o+k*7+6,none⟩=some (.string (bs x.v.den))∧W'.cell? ⟨b,o+m*7,none⟩=some (.string (bs y.other))∧W'.cell? ⟨b,o+m*7+1,none⟩=some (.string (bs y.r.num))∧W'.cell? ⟨b,o+m*7+2,none⟩=some (.string (bs y.r.den))∧W'.cell? ⟨b,o+m*7+3,none⟩=some (.string (bs y.p.num))∧W'.cell? ⟨b,o+m*7+4,none⟩=some (.string (bs y.p.den))∧W'.cell? ⟨b,o+m*7+5,none⟩=some (.string (bs y.v.num))∧W'.cell? ⟨b,o+m*7+6,none⟩=some (.string (bs y.v.den))):=Lib.hid (fun W' hx=>⟨(hx.cell (p:=⟨b,_,none⟩) hb).trans c0,(hx.cell (p:=⟨b,_,none⟩) hb).trans c1,(hx.cell (p:=⟨b,_,none⟩) hb).trans c2,(hx.cell (p:=⟨b,_,none⟩) hb).trans c3,(hx.cell (p:=⟨b,_,none⟩) hb).trans c4,(hx.cell (p:=⟨b,_,none⟩) hb).trans c5,(hx.cell (p:=⟨b,_,none⟩) hb).trans c6,(hx.cell (p:=⟨b,_,none⟩) hb).trans d0,(hx.cell (p:=⟨b,_,none⟩) hb).trans d1,(hx.cell (p:=⟨b,_,none⟩) hb).trans d2,(hx.cell (p:=⟨b,_,none⟩) hb).trans d3,(hx.cell (p:=⟨b,_,none⟩) hb).trans d4,(hx.cell (p:=⟨b,_,none⟩) hb).trans d5,(hx.cell (p:=⟨b,_,none⟩) hb).trans d6⟩)
     have HD:Hid (Ext wr wr.drew):=Lib.hid (Ext.refl wr).drew
     clear HA HA1 e3 hb'
     by_cases hcc:0<cc
     ·have g1:decide (0<cc)=true:=decide_eq_true hcc
      have HBK:=Lib.hid (HY.out hcc)
      clear HY HN hcc
      go_wp2_with fail
      go_region_held3 (fun w'=>w'.cell? ⟨b,o+k*7,none⟩=some (.string (bs x.other))∧w'.cell? ⟨b,o+k*7+1,none⟩=some (.string (bs x.r.num))∧w'.cell? ⟨b,o+k*7+2,none⟩=some (.string (bs x.r.den))∧w'.cell? ⟨b,o+k*7+3,none⟩=some (.string (bs x.p.num))∧w'.cell? ⟨b,o+k*7+4,none⟩=some (.string (bs x.p.den))∧w'.cell? ⟨b,o+k*7+5,none⟩=some (.string (bs x.v.num))∧w'.cell? ⟨b,o+k*7+6,none⟩=some (.string (bs x.v.den))∧w'.cell? ⟨b,o+m*7,none⟩=some (.string (bs y.other))∧w'.cell? ⟨b,o+m*7+1,none⟩=some (.string (bs y.r.num))∧w'.cell? ⟨b,o+m*7+2,none⟩=some (.string (bs y.r.den))∧w'.cell? ⟨b,o+m*7+3,none⟩=some (.string (bs y.p.num))∧w'.cell? ⟨b,o+m*7+4,none⟩=some (.string (bs y.p.den))∧w'.cell? ⟨b,o+m*7+5,none⟩=some (.string (bs y.v.num))∧w'.cell? ⟨b,o+m*7+6,none⟩=some (.string (bs y.v.den)))
       (go_keep)
       (first
        |(go_at_call 100;((with_reducible refine (W1.out _).mono ?_);rintro e w5 ⟨rfl,hx⟩);(replace HD:=Lib.hid (HD.out.trans hx));(obtain ⟨e0,e1,e2,e3,e4,e5,e6,f0,f1,f2,f3,f4,f5,f6⟩:=HC.out _ HD.out);clear hx)
        |(go_at_call 100;((with_reducible refine (W2.out _).mono ?_);rintro e w5 ⟨rfl,hx⟩);(replace HD:=Lib.hid (HD.out.trans hx));(obtain ⟨e0,e1,e2,e3,e4,e5,e6,f0,f1,f2,f3,f4,f5,f6⟩:=HC.out _ HD.out);clear hx)
        |(go_at_call 99;((with_reducible refine (CP.out _).mono ?_);rintro e w5 ⟨rfl,hx⟩);(replace HD:=Lib.hid (HD.out.trans hx));(obtain ⟨e0,e1,e2,e3,e4,e5,e6,f0,f1,f2,f3,f4,f5,f6⟩:=HC.out _ HD.out);clear hx)
        |fail)
      all_goals
       go_wp2_with fail
       exact ⟨⟨k+1,by omega,by omega,by go_num,by rw [HBK.out],HX.out.trans HD.out⟩,by simp [intOf];omega⟩
     ·have g1:decide (0<cc)=false:=decide_eq_false hcc
      have HBK:=Lib.hid (HN.out hcc)
      clear HY HN hcc
      go_wp2_with fail
      go_region_held3 (fun w'=>w'.cell? ⟨b,o+k*7,none⟩=some (.string (bs x.other))∧w'.cell? ⟨b,o+k*7+1,none⟩=some (.string (bs x.r.num))∧w'.cell? ⟨b,o+k*7+2,none⟩=some (.string (bs x.r.den))∧w'.cell? ⟨b,o+k*7+3,none⟩=some (.string (bs x.p.num))∧w'.cell? ⟨b,o+k*7+4,none⟩=some (.string (bs x.p.den))∧w'.cell? ⟨b,o+k*7+5,none⟩=some (.string (bs x.v.num))∧w'.cell? ⟨b,o+k*7+6,none⟩=some (.string (bs x.v.den))∧w'.cell? ⟨b,o+m*7,none⟩=some (.string (bs y.other))∧w'.cell? ⟨b,o+m*7+1,none⟩=some (.string (bs y.r.num))∧w'.cell? ⟨b,o+m*7+2,none⟩=some (.string (bs y.r.den))∧w'.cell? ⟨b,o+m*7+3,none⟩=some (.string (bs y.p.num))∧w'.cell? ⟨b,o+m*7+4,none⟩=some (.string (bs y.p.den))∧w'.cell? ⟨b,o+m*7+5,none⟩=some (.string (bs y.v.num))∧w'.cell? ⟨b,o+m*7+6,none⟩=some (.string (bs y.v.den)))
       (go_keep)
       (first
        |(go_at_call 100;((with_reducible refine (W1.out _).mono ?_);rintro e w5 ⟨rfl,hx⟩);(replace HD:=Lib.hid (HD.out.trans hx));(obtain ⟨e0,e1,e2,e3,e4,e5,e6,f0,f1,f2,f3,f4,f5,f6⟩:=HC.out _ HD.out);clear hx)
        |(go_at_call 100;((with_reducible refine (W2.out _).mono ?_);rintro e w5 ⟨rfl,hx⟩);(replace HD:=Lib.hid (HD.out.trans hx));(obtain ⟨e0,e1,e2,e3,e4,e5,e6,f0,f1,f2,f3,f4,f5,f6⟩:=HC.out _ HD.out);clear hx)
        |(go_at_call 99;((with_reducible refine (CP.out _).mono ?_);rintro e w5 ⟨rfl,hx⟩);(replace HD:=Lib.hid (HD.out.trans hx));(obtain ⟨e0,e1,e2,e3,e4,e5,e6,f0,f1,f2,f3,f4,f5,f6⟩:=HC.out _ HD.out);clear hx)
        |fail)
      all_goals
       go_wp2_with fail
       exact ⟨⟨k+1,by omega,by omega,by go_num,by rw [HBK.out],HX.out.trans HD.out⟩,by simp [intOf];omega⟩
    ·have hkl:k=os.length:=by omega
     have hki:¬ (k:Int)<(os.length:Int):=by omega
     clear HW HQ
     subst hkl
     go_wp2_with fail
     go_ret2
     exact ⟨rfl,HX.out⟩
end
end Go.Proofs.YthgpheopnhajaaaGreatDoor
