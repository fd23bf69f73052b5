/- The seat's texts, part UT. -/
import Derived.Test.YthgpheopnhajaaaGreatDoorU33
set_option maxRecDepth 100000
set_option maxHeartbeats 8000000
namespace Go.Proofs.YthgpheopnhajaaaGreatDoor
section
open Go.RowKit Go.Shelf
theorem roundQ_nn {x:Rat} (h:0≤x):0≤roundQ x:=by
 have k:=(roundQ_near x).1
 have h2:((-1:Int):Rat)<((roundQ x:Int):Rat):=by
  generalize ((roundQ x:Int):Rat)=y at *
  have:((-1:Int):Rat) = -1:=rfl
  rw [this]
  grind
 rw [Rat.intCast_lt_intCast] at h2
 omega
theorem terms_value {o:OptV} {q:Bs} (h:optE o=0) (hq:checkI q=0) (hn:¬ valI q<0):valZ o.p q≤valI (termsV o q).2.1:=by
 obtain ⟨_,f1,_⟩:=terms_parts h hq hn
 obtain ⟨g,e1,e2,e3,eb⟩:=opt_ok h
 obtain ⟨_,_,_,p1,_⟩:=num_ok e3
 rw [terms_ok h hq hn]
 show valZ o.p q≤valI (termsZ o q (termsS o q).2.1)
 rw [termsZ_eq,valI_ofI]
 have:=roundQ_nn (Rat.mul_nonneg f1 p1)
 omega
theorem terms_err {o:OptV} {q:Bs} (h:(termsA o q).2.2.2=0):optE o=0∧checkI q=0∧¬ valI q<0∧termsA o q=termsV o q:=by
 have t:=termsB o q
 by_cases h1:optE o=0
 ·by_cases h2:checkI q=0
  ·by_cases h3:cmpI (valI q) 0<0
   ·rw [t.c h1 h2 h3] at h;exact absurd h (by decide)
   ·exact ⟨h1,h2,fun k=>h3 (cmpI_neg.2 k),t.k h1 h2 h3⟩
  ·rw [t.b h1 h2] at h;exact absurd h (by decide)
 ·rw [t.a h1] at h;exact absurd h (by decide)
theorem terms_fail {o:OptV} {q:Bs} (h:(termsA o q).2.2.2≠0):(termsA o q).1=[]∧(termsA o q).2.1=[]∧(termsA o q).2.2.1=⟨[],[]⟩:=by
 have t:=termsE o q
 by_cases h1:optE o=0
 ·by_cases h2:checkI q=0
  ·by_cases h3:cmpI (valI q) 0<0
   ·rw [t.c h1 h2 h3];exact ⟨rfl,rfl,rfl⟩
   ·rw [t.k h1 h2 h3] at h;exact absurd rfl h
  ·rw [t.b h1 h2];exact ⟨rfl,rfl,rfl⟩
 ·rw [t.a h1];exact ⟨rfl,rfl,rfl⟩
end
section
open Go.RowKit Go.Shelf
attribute [local go_sem] size_bs toList_bs
theorem walkTerms1 (haw:AwakeOK) (o:OptV) (q:Bs) (w:World) (hE:Env w) (hbad:greatO o=true∨longI q=true∨(termsA o q).2.2.2≠0) :
  Calls Tryz.prog 9 #[ov o,.string (bs q)] w fun e w'=>e = .returned (.bool true)∧Ext w w':=by
 have HE:=Lib.hid hE
 have HAW:=Lib.hid haw
 have HB:=Lib.hid (Blk.new w 50 (oc o))
 have HX:Hid (Ext w (w.alloc (.cells (oc o) 50))):=Lib.hid (Ext.new _ _)
 have GO:=Lib.hid (rfGreatO o)
 have LQ:=Lib.hid (fun g W (h:Blk W g 24 #[.string (bs q)])=>mgLawLong [q] (some ⟨g,0,none⟩) 1 W (listS h) (by simp))
 rw [show [q].any longI=longI q by simp] at LQ
 simp only [List.length_cons,List.length_nil,Nat.zero_add] at LQ
 have TT:Hid (greatO o=false→longI q=false→Pure 24 #[ov o,.string (bs q)] (.tuple #[.string (bs (termsA o q).1),.string (bs (termsA o q).2.1),fv (termsA o q).2.2.1,.int .i64 (termsA o q).2.2.2])):=Lib.hid (fun h1 h2=>mgTerms (L:=24) (by omega) (by omega) o q (greatO_small h1) (by unfold longI at h2;simp at h2;omega))
 have TF:=Lib.hid (@terms_fail o q)
 have BD:=Lib.hid hbad
 clear haw hE hbad
 generalize greatO o=go at *
 generalize longI q=lq at *
 generalize termsA o q=T at *
 obtain ⟨tx,ty,⟨tn,td⟩,te⟩:=T
 dsimp only at TT TF BD
 go_enter Tryz.func9,Tryz.ntmps9
 obtain ⟨g0,g1,g2,g3,g4,g5,g6⟩:=optBlk HB.out (Ext.refl _)
 go_wp2_with fail
 refine (GO.out _).mono ?_
 rintro e v1 ⟨rfl,hx1⟩
 replace HB:=Lib.hid (HB.out.ext hx1)
 replace HX:=Lib.hid (HX.out.trans hx1)
 clear hx1
 clear g0 g1 g2 g3 g4 g5 g6
 cases go
 rotate_left
 ·clear TT TF BD LQ
  go_wp2_with fail
  refine (HAW.out _ (HE.out.ext HX.out)).mono ?_
  rintro e v3 ⟨rfl,hx1⟩
  replace HX:=Lib.hid (HX.out.trans hx1)
  clear hx1
  go_wp2_with fail
  go_ret
  exact ⟨rfl,HX.out⟩
 go_wp2_with fail
 refine (LQ.out _ _ (Blk.new _ _ _)).mono ?_
 rintro e w2 ⟨rfl,hx1⟩
 replace HX:=Lib.hid (HX.out.trans ((Ext.new _ _).trans hx1))
 replace HB:=Lib.hid ((HB.out.alloc _).ext hx1)
 clear hx1
 cases lq
 rotate_left
 ·clear TT TF BD LQ
  go_wp2_with fail
  refine (HAW.out _ (HE.out.ext HX.out)).mono ?_
  rintro e v6 ⟨rfl,hx1⟩
  replace HX:=Lib.hid (HX.out.trans hx1)
  clear hx1
  go_wp2_with fail
  go_ret
  exact ⟨rfl,HX.out⟩
 have te0:te≠0:=by
  rcases BD.out with h | h | h
  ·exact absurd h (by decide)
  ·exact absurd h (by decide)
  ·exact h
 obtain ⟨e1,e2,e3⟩:=TF.out te0
 injection e3 with e3 e4
 subst e1;subst e2;subst e3;subst e4
 have q0:(te != 0)=true:=by rw [bne_iff_ne];exact te0
 have T1:=Lib.hid (TT.out (by trivial) (by trivial))
 clear TT TF BD LQ te0 GO
 obtain ⟨g0,g1,g2,g3,g4,g5,g6⟩:=optBlk HB.out (Ext.refl _)
 go_wp2_with fail
 refine (T1.out _ (HE.out.ext HX.out)).mono ?_
 rintro e V1 ⟨rfl,hx1⟩
 replace HB:=Lib.hid (HB.out.ext hx1)
 replace HX:=Lib.hid (HX.out.trans hx1)
 clear hx1
 clear g0 g1 g2 g3 g4 g5 g6 T1
 have HZ:=Lib.hid (Blk.new V1 26 #[.string (bs []),.string (bs [])])
 replace HX:=Lib.hid (HX.out.alloc (.cells #[.string (bs []),.string (bs [])] 26))
 obtain ⟨z0,z1,_,_⟩:=frBlk HZ.out (Ext.refl _)
 go_wp2_with fail
 refine (HAW.out _ (HE.out.ext HX.out)).mono ?_
 rintro e v10 ⟨rfl,hx1⟩
 replace HX:=Lib.hid (HX.out.trans hx1)
 clear hx1
 go_wp2_with fail
 go_ret
 exact ⟨rfl,HX.out⟩
end
section
open Go.RowKit Go.Shelf
structure TermsG (o:OptV) (q tx ty:Bs) (rest one fs fq fx:Fr) (sv q2 s2 df:Bs) (T2:Bs × Bs × Fr × Int) (k1 k2 k3:Int):Prop where
 of1:Pure 36 #[.string (bs tx)] (fv fs)
 add:Pure 37 #[fv fs,fv rest] (fv fx)
 of2:Pure 36 #[.string (bs q)] (fv fq)
 mul:Pure 38 #[fv fq,fv o.r] (fv fx)
 ofo:Pure 36 #[.string ⟨#[49]⟩] (fv one)
 ca:Pure 39 #[fv rest,fv one] (.int .i64 k1)
 cb:Pure 39 #[fv rest,.agg #[.string ⟨#[]⟩,.string ⟨#[]⟩]] (.int .i64 k2)
 pv:Pure 30 #[fv o.p,.string (bs q)] (.string (bs sv))
 cv:Pure 20 #[.string (bs ty),.string (bs sv)] (.int .i64 k3)
 aq:Pure 21 #[.string (bs q),.string (bs q)] (.string (bs q2))
 te:Pure 24 #[ov o,.string (bs q2)] (.tuple #[.string (bs T2.1),.string (bs T2.2.1),fv T2.2.2.1,.int .i64 0])
 as_:Pure 21 #[.string (bs tx),.string (bs tx)] (.string (bs s2))
 su:Pure 27 #[.string (bs T2.1),.string (bs s2)] (.string (bs df))
 n1:k1<0
 n2:¬ k2<0
 n3:¬ k3<0
 nd:df=[]∨df=[49]
theorem partsV_len {L:Nat} (h0:0<L) {q:Bs} {f:Fr} (hq:q.length≤L) (h1:f.num.length≤L) (h2:f.den.length≤L):(partsV q f).1.length≤L+L+1:=by
 have qp:QB (L+L) (partsP q f):=(qb_int h0 (valI_lt10 hq)).mul (frQ_qb h1 h2 h0)
 unfold partsV
 split
 ·exact flr_len qp
 ·simp
theorem termsA_ok {o:OptV} {q:Bs} (h:(termsA o q).2.2.2=0):termsA o q=((termsS o q).1,termsZ o q (termsS o q).2.1,(termsS o q).2.1,0):=by
 obtain ⟨h1,h2,h3,h4⟩:=terms_err h
 rw [h4,terms_ok h1 h2 h3]
theorem termsS_len {o:OptV} {q:Bs} (hs:OptSm 24 o) (hq:q.length≤24):(termsS o q).1.length≤49∧(termsS o q).2.1.num.length≤98∧(termsS o q).2.1.den.length≤98:=by
 have a:=partsV_len (L:=24) (by omega) hq hs.2.1 hs.2.2.1
 obtain ⟨b,c⟩:=rest_len (L:=24) (by omega) hq hs.2.1 hs.2.2.1
 unfold termsS
 split
 ·exact ⟨by simp,by simp,by simp⟩
 ·exact ⟨by omega,by omega,by omega⟩
theorem termsZ_len {o:OptV} {q:Bs} (hs:OptSm 24 o) (hq:q.length≤24):(termsZ o q (termsS o q).2.1).length≤400:=by
 obtain ⟨a,b,c⟩:=termsS_len hs hq
 obtain ⟨s0,s1,s2,s3,s4,s5,s6⟩:=hs
 have k1:=roundQ_abs (val_qb (L:=24) (by omega) s3 s4 hq)
 have k2:=roundQ_abs ((frQ_qb (L:=98) b c (by omega)).mul (frQ_qb (L:=24) s5 s6 (by omega)))
 rw [termsZ_eq]
 have h1:(valZ o.p q).natAbs<10 ^ 200:=Nat.lt_of_lt_of_le k1 (Nat.pow_le_pow_right (by omega) (by omega))
 have h2:(roundQ (frQ (termsS o q).2.1*frQ o.v)).natAbs<10 ^ 200:=Nat.lt_of_lt_of_le k2 (Nat.pow_le_pow_right (by omega) (by omega))
 have h3:(valZ o.p q+roundQ (frQ (termsS o q).2.1*frQ o.v)).natAbs<10 ^ 201:=by
  have:=Int.natAbs_add_le (valZ o.p q) (roundQ (frQ (termsS o q).2.1*frQ o.v))
  have e:(10:Nat) ^ 201=10 ^ 200*10:=Nat.pow_succ ..
  omega
 have:=ofI_lt10 h3
 omega
theorem dig_one {z:Int} (h:z=0∨z=1):ofI z=[]∨ofI z=[49]:=by
 rcases h with rfl | rfl
 ·exact .inl (ofI_nil.2 rfl)
 ·exact .inr (by decide +kernel)
theorem subP' (a b:Bs) (ha:a.length≤90000) (hb:b.length≤90000):Pure 27 #[.string (bs a),.string (bs b)] (.string (bs (ofI (valI a-valI b)))):=subP a b (by omega) (by omega)
theorem termsG {o:OptV} {q:Bs} (hs:OptSm 24 o) (hq:q.length≤24) (h:(termsA o q).2.2.2=0) :
  ∃ one fs fq fx sv q2 s2 df T2 k1 k2 k3,TermsG o q (termsA o q).1 (termsA o q).2.1 (termsA o q).2.2.1 one fs fq fx sv q2 s2 df T2 k1 k2 k3:=by
 obtain ⟨h1,h2,h3,h4⟩:=terms_err h
 obtain ⟨l1,l2,l3⟩:=termsS_len hs hq
 have lz:=termsZ_len hs hq
 obtain ⟨r0,r1,r2⟩:=terms_parts h1 h2 h3
 have tv:=terms_value h1 h2 h3
 obtain ⟨t1,t2⟩:=terms_twice h1 h2 h3
 rw [← h4] at tv t2
 rw [termsA_ok h] at tv t2 ⊢
 dsimp only at tv t2 ⊢
 have va:=valI_lt10 hq
 have lq2:(ofI (valI q+valI q)).length≤26:=ofI_lt10 (L:=25) (by have e:(10:Nat) ^ 25=10 ^ 24*10:=rfl;omega)
 have k4:checkI (ofI (valI q+valI q))=0:=checkI_ok.2 (by rw [valI_ofI])
 have hs26:OptSm 26 o:=by
  obtain ⟨s0,s1,s2,s3,s4,s5,s6⟩:=hs
  exact ⟨by omega,by omega,by omega,by omega,by omega,by omega,by omega⟩
 have te:=mgTerms (L:=26) (by omega) (by omega) o (ofI (valI q+valI q)) hs26 lq2
 have e5:termsA o (ofI (valI q+valI q))=termsV o (ofI (valI q+valI q)):=(termsB o _).k h1 k4 (by rw [valI_ofI,cmpI_neg];omega)
 have z0:(termsA o (ofI (valI q+valI q))).2.2.2=0:=by rw [e5];exact t1
 have lT:(termsA o (ofI (valI q+valI q))).1.length≤60:=by
  rw [termsA_ok z0]
  show (termsS o (ofI (valI q+valI q))).1.length≤60
  have k:=partsV_len (L:=26) (q:=ofI (valI q+valI q)) (f:=o.r) (by omega) lq2 hs26.2.1 hs26.2.2.1
  unfold termsS
  split
  ·simp
  ·omega
 rw [z0] at te
 have q1:=qb_int (L:=49) (by omega) (valI_lt10 l1)
 have q2:=qb_int (L:=24) (by omega) va
 have n1:=q1.num_len
 have n2:=q1.den_len
 have n3:=q2.num_len
 have n4:=q2.den_len
 have ad:=fracAdd (ofQ ((valI (termsS o q).1:Int):Rat)) (termsS o q).2.1 (by omega) (by omega) (by omega) (by omega)
 rw [frQ_ofQ,r0] at ad
 have mu:=fracMul (ofQ ((valI q:Int):Rat)) o.r (by omega) (by omega) (by have:=hs.2.1;omega) (by have:=hs.2.2.1;omega)
 rw [frQ_ofQ] at mu
 have o1:=qb_int (L:=1) (z:=valI [49]) (by omega) (by decide)
 have n5:=o1.num_len
 have n6:=o1.den_len
 have ca:=fracCmp (termsS o q).2.1 (ofQ ((valI [49]:Int):Rat)) (by omega) (by omega) (by omega) (by omega)
 rw [frQ_ofQ] at ca
 have cb:=fracCmp (termsS o q).2.1 ⟨[],[]⟩ (by omega) (by omega) (by simp) (by simp)
 rw [frQ_nilN] at cb
 have lv:(ofI (valZ o.p q)).length≤50:=round_len (val_qb (L:=24) (by omega) hs.2.2.2.1 hs.2.2.2.2.1 hq)
 have cv:=cmpP (termsZ o q (termsS o q).2.1) (ofI (valZ o.p q)) (by omega) (by omega)
 rw [valI_ofI] at cv
 have ls2:(ofI (valI (termsS o q).1+valI (termsS o q).1)).length≤51:=by
  have k:=valI_lt10 l1
  exact ofI_lt10 (L:=50) (by have e:(10:Nat) ^ 50=10 ^ 49*10:=rfl;omega)
 have su:=subP' (termsA o (ofI (valI q+valI q))).1 (ofI (valI (termsS o q).1+valI (termsS o q).1)) (by omega) (by omega)
 rw [valI_ofI] at su
 refine ⟨_,_,_,_,_,_,_,_,_,_,_,_,fracOf _ (by omega),ad,fracOf q (by omega),mu,fracOf [49] (by simp),ca,cb,priceVal (L:=24) (by omega) (by omega) o.p q hs.2.2.2.1 hs.2.2.2.2.1 hq,cv,addP q q (by omega) (by omega),te,addP _ _ (by omega) (by omega),su,?_,?_,?_,?_⟩
 ·rw [cmpQ_neg,show ((valI [49]:Int):Rat)=1 by decide +kernel];exact r2
 ·rw [cmpQ_neg];exact Rat.not_lt.2 r1
 ·rw [cmpI_neg];omega
 ·rw [e5];exact dig_one t2
end
section
open Go.RowKit Go.Shelf
attribute [local go_sem] size_bs toList_bs
theorem walkTerms2 (haw:AwakeOK) (o:OptV) (q:Bs) (w:World) (hE:Env w) (hg:greatO o=false) (hl:longI q=false) (h0:(termsA o q).2.2.2=0) :
  Calls Tryz.prog 9 #[ov o,.string (bs q)] w fun e w'=>e = .returned (.bool true)∧Ext w w':=by
 have HE:=Lib.hid hE
 have HAW:=Lib.hid haw
 have HB:=Lib.hid (Blk.new w 50 (oc o))
 have HX:Hid (Ext w (w.alloc (.cells (oc o) 50))):=Lib.hid (Ext.new _ _)
 have GO:=Lib.hid (rfGreatO o)
 rw [hg] at GO
 have LQ:=Lib.hid (fun g W (h:Blk W g 24 #[.string (bs q)])=>mgLawLong [q] (some ⟨g,0,none⟩) 1 W (listS h) (by simp))
 rw [show [q].any longI=longI q by simp,hl] at LQ
 simp only [List.length_cons,List.length_nil,Nat.zero_add] at LQ
 have hq:q.length≤24:=by unfold longI at hl;simp at hl;omega
 have hs:=greatO_small hg
 have tt:=mgTerms (L:=24) (by omega) (by omega) o q hs hq
 rw [h0] at tt
 have T1:=Lib.hid tt
 obtain ⟨one,fs,fq,fx,sv,q2,s2,df,T2,k1,k2,k3,gg⟩:=termsG hs hq h0
 have K1:=Lib.hid gg.of1
 have K2:=Lib.hid gg.add
 have K3:=Lib.hid gg.of2
 have K4:=Lib.hid gg.mul
 have K5:=Lib.hid gg.ofo
 have K6:=Lib.hid gg.ca
 have K7:=Lib.hid gg.cb
 have K8:=Lib.hid gg.pv
 have K9:=Lib.hid gg.cv
 have L1:=Lib.hid gg.aq
 have L2:=Lib.hid gg.te
 have L3:=Lib.hid gg.as_
 have L4:=Lib.hid gg.su
 have d1:decide (0≤k1)=false:=by have:=gg.n1;rw [decide_eq_false_iff_not];omega
 have d2:decide (k2<0)=false:=decide_eq_false gg.n2
 have d3:decide (k3<0)=false:=decide_eq_false gg.n3
 have ND:=Lib.hid gg.nd
 clear gg tt hs hq hl hg h0 haw hE
 generalize termsA o q=T at *
 obtain ⟨tx,ty,⟨tn,td⟩,te⟩:=T
 obtain ⟨ux,uy,⟨un,ud⟩,ue⟩:=T2
 dsimp only at T1 K1 K2 K6 K7 K9 L2 L3 L4
 go_enter Tryz.func9,Tryz.ntmps9
 obtain ⟨g0,g1,g2,g3,g4,g5,g6⟩:=optBlk HB.out (Ext.refl _)
 go_wp2_with fail
 refine (GO.out _).mono ?_
 rintro e v1 ⟨rfl,hx1⟩
 replace HB:=Lib.hid (HB.out.ext hx1)
 replace HX:=Lib.hid (HX.out.trans hx1)
 clear hx1
 clear g0 g1 g2 g3 g4 g5 g6
 go_wp2_with fail
 refine (LQ.out _ _ (Blk.new _ _ _)).mono ?_
 rintro e w2 ⟨rfl,hx1⟩
 replace HX:=Lib.hid (HX.out.trans ((Ext.new _ _).trans hx1))
 replace HB:=Lib.hid ((HB.out.alloc _).ext hx1)
 clear hx1 LQ GO
 obtain ⟨g0,g1,g2,g3,g4,g5,g6⟩:=optBlk HB.out (Ext.refl _)
 go_wp2_with fail
 refine (T1.out _ (HE.out.ext HX.out)).mono ?_
 rintro e V1 ⟨rfl,hx1⟩
 replace HB:=Lib.hid (HB.out.ext hx1)
 replace HX:=Lib.hid (HX.out.trans hx1)
 clear hx1
 clear g0 g1 g2 g3 g4 g5 g6 T1
 have HZ:=Lib.hid (Blk.new V1 26 #[.string (bs tn),.string (bs td)])
 replace HX:=Lib.hid (HX.out.alloc (.cells #[.string (bs tn),.string (bs td)] 26))
 replace HB:=Lib.hid (HB.out.alloc (.cells #[.string (bs tn),.string (bs td)] 26))
 go_wp2_with fail
 refine (K5.out _ (HE.out.ext HX.out)).mono ?_
 rintro e V2 ⟨rfl,hx1⟩
 replace HB:=Lib.hid (HB.out.ext hx1)
 replace HZ:=Lib.hid (HZ.out.ext hx1)
 replace HX:=Lib.hid (HX.out.trans hx1)
 clear hx1
 have HO:=Lib.hid (Blk.new V2 26 #[.string (bs one.num),.string (bs one.den)])
 replace HX:=Lib.hid (HX.out.alloc (.cells #[.string (bs one.num),.string (bs one.den)] 26))
 replace HB:=Lib.hid (HB.out.alloc (.cells #[.string (bs one.num),.string (bs one.den)] 26))
 replace HZ:=Lib.hid (HZ.out.alloc (.cells #[.string (bs one.num),.string (bs one.den)] 26))
 go_upto_region 7 with fail
 generalize V2.alloc (.cells #[.string (bs one.num),.string (bs one.den)] 26)=W at *
 generalize V2.heap.size=G2 at *
 generalize V1.heap.size=G1 at *
 go_cut [78] (fun p78 wx=>p78 = .bool false∧Ext W wx)
 case first =>
  clear L1 L2 L3 L4 ND HAW K5
  obtain ⟨g0,g1,g2,g3,g4,g5,g6⟩:=optBlk HB.out (Ext.refl _)
  obtain ⟨p0,p1,_,_⟩:=frBlk HZ.out (Ext.refl _)
  obtain ⟨p2,p3,_,_⟩:=frBlk HO.out (Ext.refl _)
  have HD:Hid (Ext W W.drew):=Lib.hid (Ext.refl W).drew
  go_region_held3 (fun w'=>w'.cell? ⟨w.heap.size,1,none⟩=some (.string (bs o.r.num))∧w'.cell? ⟨w.heap.size,2,none⟩=some (.string (bs o.r.den))∧w'.cell? ⟨w.heap.size,3,none⟩=some (.string (bs o.p.num))∧w'.cell? ⟨w.heap.size,4,none⟩=some (.string (bs o.p.den))∧w'.cell? ⟨G1,0,none⟩=some (.string (bs tn))∧w'.cell? ⟨G1,1,none⟩=some (.string (bs td))∧w'.cell? ⟨G2,0,none⟩=some (.string (bs one.num))∧w'.cell? ⟨G2,1,none⟩=some (.string (bs one.den)))
   (go_keep)
   (first
    |(go_at_call 36;((with_reducible refine (K1.out _ (HE.out.ext (HX.out.trans HD.out))).mono ?_);rintro e w5 ⟨rfl,hx⟩);(replace HD:=Lib.hid (HD.out.trans hx));(obtain ⟨_,b1,b2,b3,b4,b5,b6⟩:=optBlk HB.out HD.out);(obtain ⟨p0,p1,_,_⟩:=frBlk HZ.out HD.out);(obtain ⟨p2,p3,_,_⟩:=frBlk HO.out HD.out);clear hx)
    |(go_at_call 36;((with_reducible refine (K3.out _ (HE.out.ext (HX.out.trans HD.out))).mono ?_);rintro e w5 ⟨rfl,hx⟩);(replace HD:=Lib.hid (HD.out.trans hx));(obtain ⟨_,b1,b2,b3,b4,b5,b6⟩:=optBlk HB.out HD.out);(obtain ⟨p0,p1,_,_⟩:=frBlk HZ.out HD.out);(obtain ⟨p2,p3,_,_⟩:=frBlk HO.out HD.out);clear hx)
    |(go_at_call 37;((with_reducible refine (K2.out _ (HE.out.ext (HX.out.trans HD.out))).mono ?_);rintro e w5 ⟨rfl,hx⟩);(replace HD:=Lib.hid (HD.out.trans hx));(obtain ⟨_,b1,b2,b3,b4,b5,b6⟩:=optBlk HB.out HD.out);(obtain ⟨p0,p1,_,_⟩:=frBlk HZ.out HD.out);(obtain ⟨p2,p3,_,_⟩:=frBlk HO.out HD.out);clear hx)
    |(go_at_call 38;((with_reducible refine (K4.out _ (HE.out.ext (HX.out.trans HD.out))).mono ?_);rintro e w5 ⟨rfl,hx⟩);(replace HD:=Lib.hid (HD.out.trans hx));(obtain ⟨_,b1,b2,b3,b4,b5,b6⟩:=optBlk HB.out HD.out);(obtain ⟨p0,p1,_,_⟩:=frBlk HZ.out HD.out);(obtain ⟨p2,p3,_,_⟩:=frBlk HO.out HD.out);clear hx)
    |(go_at_call 39;((with_reducible refine (K6.out _ (HE.out.ext (HX.out.trans HD.out))).mono ?_);rintro e w5 ⟨rfl,hx⟩);(replace HD:=Lib.hid (HD.out.trans hx));(obtain ⟨_,b1,b2,b3,b4,b5,b6⟩:=optBlk HB.out HD.out);(obtain ⟨p0,p1,_,_⟩:=frBlk HZ.out HD.out);(obtain ⟨p2,p3,_,_⟩:=frBlk HO.out HD.out);clear hx)
    |(go_at_call 39;((with_reducible refine (K7.out _ (HE.out.ext (HX.out.trans HD.out))).mono ?_);rintro e w5 ⟨rfl,hx⟩);(replace HD:=Lib.hid (HD.out.trans hx));(obtain ⟨_,b1,b2,b3,b4,b5,b6⟩:=optBlk HB.out HD.out);(obtain ⟨p0,p1,_,_⟩:=frBlk HZ.out HD.out);(obtain ⟨p2,p3,_,_⟩:=frBlk HO.out HD.out);clear hx)
    |(go_at_call 30;((with_reducible refine (K8.out _ (HE.out.ext (HX.out.trans HD.out))).mono ?_);rintro e w5 ⟨rfl,hx⟩);(replace HD:=Lib.hid (HD.out.trans hx));(obtain ⟨_,b1,b2,b3,b4,b5,b6⟩:=optBlk HB.out HD.out);(obtain ⟨p0,p1,_,_⟩:=frBlk HZ.out HD.out);(obtain ⟨p2,p3,_,_⟩:=frBlk HO.out HD.out);clear hx)
    |(go_at_call 20;((with_reducible refine (K9.out _ (HE.out.ext (HX.out.trans HD.out))).mono ?_);rintro e w5 ⟨rfl,hx⟩);(replace HD:=Lib.hid (HD.out.trans hx));(obtain ⟨_,b1,b2,b3,b4,b5,b6⟩:=optBlk HB.out HD.out);(obtain ⟨p0,p1,_,_⟩:=frBlk HZ.out HD.out);(obtain ⟨p2,p3,_,_⟩:=frBlk HO.out HD.out);clear hx)
    |fail)
  all_goals (go_wp2_with fail;go_meet;exact ⟨rfl,HD.out⟩)
 case rest =>
  obtain ⟨rfl,hxw⟩:=hcut
  replace HX:=Lib.hid (HX.out.trans hxw)
  replace HB:=Lib.hid (HB.out.ext hxw)
  clear hxw K1 K2 K3 K4 K5 K6 K7 K8 K9 HZ HO
  go_upto_region 9 with fail
  go_cut [10,11,12,13] (fun p10 p11 p12 p13 wx=>p10 = .string (bs ux)∧p13 = .int .i64 0∧Ext wc wx)
  case first =>
   clear L3 L4 ND HAW
   obtain ⟨q0,q1,q2,q3,q4,q5,q6⟩:=optBlk HB.out (Ext.refl _)
   have HD:Hid (Ext wc wc.drew):=Lib.hid (Ext.refl wc).drew
   have HBP:=Lib.hid (HB.out.drew)
   go_region_held3 (fun w'=>w'.cell? ⟨w.heap.size,0,none⟩=some (.string (bs o.other))∧w'.cell? ⟨w.heap.size,1,none⟩=some (.string (bs o.r.num))∧w'.cell? ⟨w.heap.size,2,none⟩=some (.string (bs o.r.den))∧w'.cell? ⟨w.heap.size,3,none⟩=some (.string (bs o.p.num))∧w'.cell? ⟨w.heap.size,4,none⟩=some (.string (bs o.p.den))∧w'.cell? ⟨w.heap.size,5,none⟩=some (.string (bs o.v.num))∧w'.cell? ⟨w.heap.size,6,none⟩=some (.string (bs o.v.den)))
    (go_keep)
    (first
     |(go_at_call 21;((with_reducible refine (L1.out _ (HE.out.ext (HX.out.trans HD.out))).mono ?_);rintro e w5 ⟨rfl,hx⟩);(replace HD:=Lib.hid (HD.out.trans hx));(obtain ⟨b0,b1,b2,b3,b4,b5,b6⟩:=optBlk HB.out HD.out);(replace HBP:=Lib.hid (HBP.out.ext hx));(obtain ⟨p0,p1,p2,p3⟩:=frBlk HBP.out (Ext.refl _));(have hq5:=Nat.ne_of_lt (HB.out.ext HD.out).lt);(have hq6:=Nat.ne_of_gt (HB.out.ext HD.out).lt);clear hx)
     |(go_at_call 21;((with_reducible refine (L1.out _ (HE.out.ext (HX.out.trans HD.out))).mono ?_);rintro e w5 ⟨rfl,hx⟩);(replace HD:=Lib.hid (HD.out.trans hx));(obtain ⟨b0,b1,b2,b3,b4,b5,b6⟩:=optBlk HB.out HD.out);(have hq5:=Nat.ne_of_lt (HB.out.ext HD.out).lt);(have hq6:=Nat.ne_of_gt (HB.out.ext HD.out).lt);clear hx)
     |(go_at_call 21;((with_reducible refine (L1.out _ (HE.out.ext (HX.out.trans (HD.out.alloc _)))).mono ?_);rintro e w5 ⟨rfl,hx⟩);(have HLE:=Lib.hid HD.out.size);(have hpq:=Nat.ne_of_lt (Nat.lt_of_lt_of_le HB.out.lt HLE.out));(have hqp:=Nat.ne_of_gt (Nat.lt_of_lt_of_le HB.out.lt HLE.out));(replace HBP:=Lib.hid ((Blk.new _ _ _).ext hx));(replace HD:=Lib.hid ((HD.out.alloc _).trans hx));(obtain ⟨b0,b1,b2,b3,b4,b5,b6⟩:=optBlk HB.out HD.out);(obtain ⟨p0,p1,p2,p3⟩:=frBlk HBP.out (Ext.refl _));(have hq5:=Nat.ne_of_lt (HB.out.ext HD.out).lt);(have hq6:=Nat.ne_of_gt (HB.out.ext HD.out).lt);clear hx)
     |(go_at_call 21;((with_reducible refine (L1.out _ (HE.out.ext (HX.out.trans ((Ext.new _ _).drew)))).mono ?_);rintro e w5 ⟨rfl,hx⟩);(have HLE:=Lib.hid (Nat.le_refl wc.heap.size));(have hpq:=Nat.ne_of_lt (Nat.lt_of_lt_of_le HB.out.lt HLE.out));(have hqp:=Nat.ne_of_gt (Nat.lt_of_lt_of_le HB.out.lt HLE.out));(replace HBP:=Lib.hid (((Blk.new _ _ _).drew).ext hx));(replace HD:=Lib.hid (((Ext.new wc _).drew).trans hx));(obtain ⟨b0,b1,b2,b3,b4,b5,b6⟩:=optBlk HB.out HD.out);(obtain ⟨p0,p1,p2,p3⟩:=frBlk HBP.out (Ext.refl _));(have hq5:=Nat.ne_of_lt (HB.out.ext HD.out).lt);(have hq6:=Nat.ne_of_gt (HB.out.ext HD.out).lt);clear hx)
     |(go_at_call 24;((with_reducible refine (L2.out _ (HE.out.ext (HX.out.trans HD.out))).mono ?_);rintro e w5 ⟨rfl,hx⟩);(replace HD:=Lib.hid (HD.out.trans hx));(obtain ⟨b0,b1,b2,b3,b4,b5,b6⟩:=optBlk HB.out HD.out);(replace HBP:=Lib.hid (HBP.out.ext hx));(obtain ⟨p0,p1,p2,p3⟩:=frBlk HBP.out (Ext.refl _));(have hq5:=Nat.ne_of_lt (HB.out.ext HD.out).lt);(have hq6:=Nat.ne_of_gt (HB.out.ext HD.out).lt);clear hx)
     |(go_at_call 24;((with_reducible refine (L2.out _ (HE.out.ext (HX.out.trans HD.out))).mono ?_);rintro e w5 ⟨rfl,hx⟩);(replace HD:=Lib.hid (HD.out.trans hx));(obtain ⟨b0,b1,b2,b3,b4,b5,b6⟩:=optBlk HB.out HD.out);(have hq5:=Nat.ne_of_lt (HB.out.ext HD.out).lt);(have hq6:=Nat.ne_of_gt (HB.out.ext HD.out).lt);clear hx)
     |(go_at_call 24;((with_reducible refine (L2.out _ (HE.out.ext (HX.out.trans (HD.out.alloc _)))).mono ?_);rintro e w5 ⟨rfl,hx⟩);(have HLE:=Lib.hid HD.out.size);(have hpq:=Nat.ne_of_lt (Nat.lt_of_lt_of_le HB.out.lt HLE.out));(have hqp:=Nat.ne_of_gt (Nat.lt_of_lt_of_le HB.out.lt HLE.out));(replace HBP:=Lib.hid ((Blk.new _ _ _).ext hx));(replace HD:=Lib.hid ((HD.out.alloc _).trans hx));(obtain ⟨b0,b1,b2,b3,b4,b5,b6⟩:=optBlk HB.out HD.out);(obtain ⟨p0,p1,p2,p3⟩:=frBlk HBP.out (Ext.refl _));(have hq5:=Nat.ne_of_lt (HB.out.ext HD.out).lt);(have hq6:=Nat.ne_of_gt (HB.out.ext HD.out).lt);clear hx)
     |(go_at_call 24;((with_reducible refine (L2.out _ (HE.out.ext (HX.out.trans ((Ext.new _ _).drew)))).mono ?_);rintro e w5 ⟨rfl,hx⟩);(have HLE:=Lib.hid (Nat.le_refl wc.heap.size));(have hpq:=Nat.ne_of_lt (Nat.lt_of_lt_of_le HB.out.lt HLE.out));(have hqp:=Nat.ne_of_gt (Nat.lt_of_lt_of_le HB.out.lt HLE.out));(replace HBP:=Lib.hid (((Blk.new _ _ _).drew).ext hx));(replace HD:=Lib.hid (((Ext.new wc _).drew).trans hx));(obtain ⟨b0,b1,b2,b3,b4,b5,b6⟩:=optBlk HB.out HD.out);(obtain ⟨p0,p1,p2,p3⟩:=frBlk HBP.out (Ext.refl _));(have hq5:=Nat.ne_of_lt (HB.out.ext HD.out).lt);(have hq6:=Nat.ne_of_gt (HB.out.ext HD.out).lt);clear hx)
     |fail)
   all_goals
    go_wp2_with fail
    go_meet
    first
     |exact ⟨rfl,rfl,HD.out.alloc _⟩
     |exact ⟨rfl,rfl,(HD.out.setCell (p:=⟨_,0,none⟩) HLE.out _).setCell (p:=⟨_,1,none⟩) HLE.out _⟩
  case rest =>
   obtain ⟨rfl,rfl,hxw⟩:=hcut
   replace HX:=Lib.hid (HX.out.trans hxw)
   clear hxw L1 L2 HB
   go_wp2_with fail
   refine (L3.out _ (HE.out.ext HX.out)).mono ?_
   rintro e v14 ⟨rfl,hx1⟩
   replace HX:=Lib.hid (HX.out.trans hx1)
   clear hx1
   go_wp2_with fail
   refine (L4.out _ (HE.out.ext HX.out)).mono ?_
   rintro e v15 ⟨rfl,hx1⟩
   replace HX:=Lib.hid (HX.out.trans hx1)
   clear hx1
   rcases ND.out with e | e
   ·subst e
    clear ND L3 L4
    go_wp2_with fail
    refine (HAW.out _ (HE.out.ext HX.out)).mono ?_
    rintro e v17 ⟨rfl,hx1⟩
    replace HX:=Lib.hid (HX.out.trans hx1)
    clear hx1
    go_wp2_with fail
    go_ret
    exact ⟨rfl,HX.out⟩
   ·subst e
    clear ND L3 L4
    go_wp2_with fail
    refine (HAW.out _ (HE.out.ext HX.out)).mono ?_
    rintro e v20 ⟨rfl,hx1⟩
    replace HX:=Lib.hid (HX.out.trans hx1)
    clear hx1
    go_wp2_with fail
    go_ret
    exact ⟨rfl,HX.out⟩
end
section
open Go.RowKit
theorem lawTerms (o:OptV) (q:Bs) (w:World) (hE:Env w) :
  Calls Tryz.prog 9 #[ov o,.string (bs q)] w fun e w'=>e = .returned (.bool true)∧Ext w w':=by
 cases h1:greatO o
 ·cases h2:longI q
  ·by_cases h3:(termsA o q).2.2.2=0
   ·exact walkTerms2 awakeOK o q w hE h1 h2 h3
   ·exact walkTerms1 awakeOK o q w hE (.inr (.inr h3))
  ·exact walkTerms1 awakeOK o q w hE (.inr (.inl h2))
 ·exact walkTerms1 awakeOK o q w hE (.inl h1)
end
end Go.Proofs.YthgpheopnhajaaaGreatDoor
