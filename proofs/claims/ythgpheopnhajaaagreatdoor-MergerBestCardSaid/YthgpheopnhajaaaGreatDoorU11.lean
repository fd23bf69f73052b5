/- The seat's texts, part U11. -/
import Derived.Test.YthgpheopnhajaaaGreatDoorU6
import Derived.Test.YthgpheopnhajaaaGreatDoorU7
import Derived.Test.YthgpheopnhajaaaGreatDoorU8
import Derived.Test.YthgpheopnhajaaaGreatDoorU10
import Derived.Laws.EntriesVeiled
import Derived.BigQuiet
set_option maxRecDepth 100000
set_option maxHeartbeats 8000000
namespace Go.Proofs.YthgpheopnhajaaaGreatDoor
section
open Go.RowKit
attribute [local go_sem] size_bs toList_bs
abbrev opV (k g:Nat):Value := .func (.func k) #[] #[.pointer (some ⟨g,0,none⟩)]
theorem results_op4 {fn:Func} {a:Tmp} (h:fn.results=#[.cell a 156]) (tmps:Array Value) (w:World) (g:Nat) (x y z u:Value) (ha:tmps.getD a undef = .pointer (some ⟨g,0,none⟩)) (hb:Blk w g 156 #[x,y,z,u]) :
  (results fn tmps).run Tryz.prog w = .ok (.agg #[x,y,z,u]) w:=by
 have h0:=hb.cell 0
 have h1:=hb.cell 1
 have h2:=hb.cell 2
 have h3:=hb.cell 3
 simp only [List.getElem?_toArray,List.getElem?_cons_zero,List.getElem?_cons_succ] at h0 h1 h2 h3
 unfold results
 rw [h]
 simp only [List.mapM_toArray,List.mapM_cons,List.mapM_nil,ha]
 go_simp
def OpsEnds (w:World) (e:Ending) (w':World):Prop :=
 ∃ g,e = .returned (.agg #[opV 161 g,opV 162 g,opV 163 g,opV 164 g])∧Ext w w'∧MulAt w' g
theorem fracOps (w:World):Calls Tryz.prog 95 #[] w (OpsEnds w):=by
 go_enter Tryz.func95,Tryz.ntmps95
 go_wp2_with fail
 refine bodyPost_ret (results_op4 rfl _ _ w.heap.size _ _ _ _ rfl ((Blk.new w _ _).alloc _)) rfl ⟨w.heap.size+1,rfl,(Ext.new _ _).alloc _,Blk.newAt _ _ _ _ (by simp)⟩
theorem fracApply (k g:Nat) (hk:∀ args w,(callFunc k args).run Tryz.prog w = .ok (.enter k args) w) (f h:Fr) (n m:Bs) (h2:f.den.length≤90000) (h4:h.den.length≤90000) (hO:OpAt k g f.num (dn f) h.num (dn h) n m) (hn:n.length≤90000) (hm:m.length≤90000) (h0:valI m≠0)
  (w:World) (hE:Env w) (hM:MulAt w g) :
  Calls Tryz.prog 94 #[opV k g,fv f,fv h] w fun e w'=>e = .returned (fv (ofQ (Rat.divInt (valI n) (valI m))))∧Ext w w':=by
 have HE:=Lib.hid hE
 have HM:=Lib.hid hM
 have HP1:=Lib.hid (fracParts f h2)
 have HP2:=Lib.hid (fracParts h h4)
 have HO:=Lib.hid hO
 have HMD:=Lib.hid (fracMade n m hn hm h0)
 generalize ofQ (Rat.divInt (valI n) (valI m))=r at *
 generalize dn f=d1 at *
 generalize dn h=d2 at *
 obtain ⟨n1,e1⟩:=f
 obtain ⟨n2,e2⟩:=h
 clear hE hM hO hn hm h0 h2 h4
 have HB:=Lib.hid (Blk.newAt ((w.alloc (.cells #[.string (bs n1),.string (bs e1)] 26)).alloc (.cells #[.string (bs n2),.string (bs e2)] 26)) 26 #[.string ⟨#[]⟩,.string ⟨#[]⟩] (w.heap.size+1+1) (by simp))
 have HB2:=Lib.hid ((Blk.newAt (w.alloc (.cells #[.string (bs n1),.string (bs e1)] 26)) 26 #[.string (bs n2),.string (bs e2)] (w.heap.size+1) (by simp)).alloc (.cells #[.string ⟨#[]⟩,.string ⟨#[]⟩] 26))
 have HX0:Hid (Ext w (((w.alloc (.cells #[.string (bs n1),.string (bs e1)] 26)).alloc (.cells #[.string (bs n2),.string (bs e2)] 26)).alloc (.cells #[.string ⟨#[]⟩,.string ⟨#[]⟩] 26))):=Lib.hid (((Ext.new _ _).alloc _).alloc _)
 go_enter Tryz.func94,Tryz.ntmps94
 go_wp2_with fail
 refine (HP1.out _ (HE.out.ext HX0.out)).mono ?_
 rintro e w1 ⟨rfl,hx1⟩
 obtain ⟨q0,q1,_,_⟩:=frBlk HB2.out hx1
 replace HB:=Lib.hid (HB.out.ext hx1)
 have HX:=Lib.hid (HX0.out.trans hx1)
 clear hx1
 go_wp2_with fail
 refine (HP2.out _ (HE.out.ext HX.out)).mono ?_
 rintro e w2 ⟨rfl,hx1⟩
 replace HB:=Lib.hid (HB.out.ext hx1)
 replace HX:=Lib.hid (HX.out.trans hx1)
 clear hx1
 go_wp2_with fail
 refine (HO.out _ (HE.out.ext HX.out) (HM.out.ext HX.out)).mono ?_
 rintro e w3 ⟨rfl,hx1⟩
 replace HB:=Lib.hid (HB.out.ext hx1)
 replace HX:=Lib.hid (HX.out.trans hx1)
 clear hx1
 go_wp2_with fail
 refine (HMD.out _ (HE.out.ext HX.out)).mono ?_
 rintro e w4 ⟨rfl,hx1⟩
 obtain ⟨q0,q1,f0,f1⟩:=frBlk HB.out hx1
 replace HB:=Lib.hid (HB.out.ext hx1)
 replace HX:=Lib.hid (HX.out.trans hx1)
 clear hx1
 go_wp2_with fail
 refine bodyPost_ret (results_fr rfl _ _ (w.heap.size+1+1) (.string (bs r.num)) (.string (bs r.den)) rfl ((HB.out.set_ 0 _).set_ 1 _)) rfl ?_
 exact ⟨rfl,(HX.out.setCell (p:=⟨w.heap.size+1+1,0,none⟩) (by show w.heap.size≤w.heap.size+1+1;omega) _).setCell (p:=⟨w.heap.size+1+1,1,none⟩) (by show w.heap.size≤w.heap.size+1+1;omega) _⟩
theorem idx4_0 (a b c d:Value) (W:World):(Instr.index 156 (.agg #[a,b,c,d]) (.int .i64 0)).run Tryz.prog W = .ok a W:=by kernel_rfl
theorem fracAdd (f h:Fr) (h1:f.num.length≤20000) (h2:f.den.length≤20000) (h3:h.num.length≤20000) (h4:h.den.length≤20000) :
  Pure 37 #[fv f,fv h] (fv (ofQ (frQ f+frQ h))):=by
 intro w hE
 have HE:=Lib.hid hE
 have hd1:(dn f).length≤30000:=dn_len f (by omega) (by omega)
 have hd2:(dn h).length≤30000:=dn_len h (by omega) (by omega)
 have hden:(ofI (valI (dn f)*valI (dn h))).length≤90000:=by have:=mul_len hd1 hd2;omega
 have hnum:(ofI (valI f.num*valI (dn h)+valI h.num*valI (dn f))).length≤90000:=by
  have k1:=mul_lt10 (valI_lt10 (Nat.le_trans h1 (by omega:20000≤30000))) (valI_lt10 hd2)
  have k2:=mul_lt10 (valI_lt10 (Nat.le_trans h3 (by omega:20000≤30000))) (valI_lt10 hd1)
  rw [← Int.natAbs_mul] at k1 k2
  have:=ofI_lt10 (Nat.lt_of_le_of_lt (Int.natAbs_add_le (valI f.num*valI (dn h)) (valI h.num*valI (dn f))) (add_lt10 k1 k2))
  omega
 have HA:=Lib.hid (fun g=>fracApply 161 g (fun _ _=>by rfl) f h _ _ (by omega) (by omega) (opPlus g f.num (dn f) h.num (dn h) (by omega) hd1 (by omega) hd2) hnum hden (by rw [valI_ofI,valI_dn,valI_dn];exact Int.mul_ne_zero (frD_ne f) (frD_ne h)))
 have he:Rat.divInt (valI f.num*valI (dn h)+valI h.num*valI (dn f)) (valI (dn f)*valI (dn h))=frQ f+frQ h:=by
  rw [valI_dn,valI_dn];exact (Rat.divInt_add_divInt _ _ (frD_ne f) (frD_ne h)).symm
 simp only [valI_ofI,he] at HA
 generalize ofQ (frQ f+frQ h)=r at *
 obtain ⟨n1,e1⟩:=f
 obtain ⟨n2,e2⟩:=h
 clear hE hd1 hd2 hden hnum he h1 h2 h3 h4
 have hix:=idx4_0
 have hn1:w.heap.size≠w.heap.size+1+1:=by omega
 have hn2:w.heap.size+1+1≠w.heap.size:=by omega
 have hn3:¬ (w.heap.size=w.heap.size+1+1):=by omega
 have HB:=Lib.hid (Blk.newAt ((w.alloc (.cells #[.string (bs n1),.string (bs e1)] 26)).alloc (.cells #[.string (bs n2),.string (bs e2)] 26)) 26 #[.string ⟨#[]⟩,.string ⟨#[]⟩] (w.heap.size+1+1) (by simp))
 have HB2:=Lib.hid ((Blk.newAt (w.alloc (.cells #[.string (bs n1),.string (bs e1)] 26)) 26 #[.string (bs n2),.string (bs e2)] (w.heap.size+1) (by simp)).alloc (.cells #[.string ⟨#[]⟩,.string ⟨#[]⟩] 26))
 have HB1:=Lib.hid (((Blk.new w 26 #[.string (bs n1),.string (bs e1)]).alloc (.cells #[.string (bs n2),.string (bs e2)] 26)).alloc (.cells #[.string ⟨#[]⟩,.string ⟨#[]⟩] 26))
 have HX:Hid (Ext w (((w.alloc (.cells #[.string (bs n1),.string (bs e1)] 26)).alloc (.cells #[.string (bs n2),.string (bs e2)] 26)).alloc (.cells #[.string ⟨#[]⟩,.string ⟨#[]⟩] 26))):=Lib.hid (((Ext.new _ _).alloc _).alloc _)
 go_enter Tryz.func37,Tryz.ntmps37
 go_wp2_with fail
 generalize ((w.alloc (.cells #[.string (bs n1),.string (bs e1)] 26)).alloc (.cells #[.string (bs n2),.string (bs e2)] 26)).alloc (.cells #[.string ⟨#[]⟩,.string ⟨#[]⟩] 26)=W0 at *
 obtain ⟨a0,a1,_,_⟩:=frBlk HB1.out (Ext.refl W0)
 obtain ⟨b0,b1,_,_⟩:=frBlk HB2.out (Ext.refl W0)
 obtain ⟨c0,c1,d0,d1⟩:=frBlk HB.out (Ext.refl W0)
 have HD:Hid (Ext W0 W0.drew):=Lib.hid (Ext.refl W0).drew
 go_region_held3 (fun w'=>w'.cell? ⟨w.heap.size,0,none⟩=some (.string (bs n1))∧w'.cell? ⟨w.heap.size,1,none⟩=some (.string (bs e1))∧w'.cell? ⟨w.heap.size+1,0,none⟩=some (.string (bs n2))∧w'.cell? ⟨w.heap.size+1,1,none⟩=some (.string (bs e2)))
  (go_keep)
  (first
   |(go_at_call 95;((with_reducible refine (fracOps _).mono ?_);rintro e w1 ⟨g,rfl,hx,hm⟩);(replace HD:=Lib.hid (HD.out.trans hx));(have HM:=Lib.hid hm);(obtain ⟨a2,a3,_,_⟩:=frBlk HB1.out HD.out);(obtain ⟨b2,b3,_,_⟩:=frBlk HB2.out HD.out);(obtain ⟨c2,c3,d2,d3⟩:=frBlk HB.out HD.out);clear hx hm)
   |(go_at_call 94;((with_reducible refine (HA.out _ _ (HE.out.ext (HX.out.trans HD.out)) HM.out).mono ?_);rintro e w2 ⟨rfl,hx⟩);(replace HD:=Lib.hid (HD.out.trans hx));(obtain ⟨a2,a3,_,_⟩:=frBlk HB1.out HD.out);(obtain ⟨b2,b3,_,_⟩:=frBlk HB2.out HD.out);(obtain ⟨c2,c3,d2,d3⟩:=frBlk HB.out HD.out);clear hx))
 all_goals
  go_wp2_with fail
  refine bodyPost_ret (results_fr rfl _ _ (w.heap.size+1+1) (.string (bs r.num)) (.string (bs r.den)) rfl (((HB.out.ext HD.out).set_ 0 _).set_ 1 _)) rfl ?_
  exact ⟨rfl,((HX.out.trans HD.out).setCell (p:=⟨w.heap.size+1+1,0,none⟩) (by show w.heap.size≤w.heap.size+1+1;omega) _).setCell (p:=⟨w.heap.size+1+1,1,none⟩) (by show w.heap.size≤w.heap.size+1+1;omega) _⟩
theorem idx4_1 (a b c d:Value) (W:World):(Instr.index 156 (.agg #[a,b,c,d]) (.int .i64 1)).run Tryz.prog W = .ok b W:=by kernel_rfl
theorem fracSub (f h:Fr) (h1:f.num.length≤20000) (h2:f.den.length≤20000) (h3:h.num.length≤20000) (h4:h.den.length≤20000) :
  Pure 97 #[fv f,fv h] (fv (ofQ (frQ f-frQ h))):=by
 intro w hE
 have HE:=Lib.hid hE
 have hd1:(dn f).length≤30000:=dn_len f (by omega) (by omega)
 have hd2:(dn h).length≤30000:=dn_len h (by omega) (by omega)
 have hden:(ofI (valI (dn f)*valI (dn h))).length≤90000:=by have:=mul_len hd1 hd2;omega
 have hnum:(ofI (valI f.num*valI (dn h)-valI h.num*valI (dn f))).length≤90000:=by
  have k1:=mul_lt10 (valI_lt10 (Nat.le_trans h1 (by omega:20000≤30000))) (valI_lt10 hd2)
  have k2:=mul_lt10 (valI_lt10 (Nat.le_trans h3 (by omega:20000≤30000))) (valI_lt10 hd1)
  rw [← Int.natAbs_mul] at k1 k2
  have:=ofI_lt10 (Nat.lt_of_le_of_lt (Int.natAbs_sub_le (valI f.num*valI (dn h)) (valI h.num*valI (dn f))) (add_lt10 k1 k2))
  omega
 have HA:=Lib.hid (fun g=>fracApply 162 g (fun _ _=>by rfl) f h _ _ (by omega) (by omega) (opMinus g f.num (dn f) h.num (dn h) (by omega) hd1 (by omega) hd2) hnum hden (by rw [valI_ofI,valI_dn,valI_dn];exact Int.mul_ne_zero (frD_ne f) (frD_ne h)))
 have he:Rat.divInt (valI f.num*valI (dn h)-valI h.num*valI (dn f)) (valI (dn f)*valI (dn h))=frQ f-frQ h:=by
  rw [valI_dn,valI_dn];exact (Rat.divInt_sub_divInt _ _ (frD_ne f) (frD_ne h)).symm
 simp only [valI_ofI,he] at HA
 generalize ofQ (frQ f-frQ h)=r at *
 obtain ⟨n1,e1⟩:=f
 obtain ⟨n2,e2⟩:=h
 clear hE hd1 hd2 hden hnum he h1 h2 h3 h4
 have hix:=idx4_1
 have hn1:w.heap.size≠w.heap.size+1+1:=by omega
 have hn2:w.heap.size+1+1≠w.heap.size:=by omega
 have hn3:¬ (w.heap.size=w.heap.size+1+1):=by omega
 have HB:=Lib.hid (Blk.newAt ((w.alloc (.cells #[.string (bs n1),.string (bs e1)] 26)).alloc (.cells #[.string (bs n2),.string (bs e2)] 26)) 26 #[.string ⟨#[]⟩,.string ⟨#[]⟩] (w.heap.size+1+1) (by simp))
 have HB2:=Lib.hid ((Blk.newAt (w.alloc (.cells #[.string (bs n1),.string (bs e1)] 26)) 26 #[.string (bs n2),.string (bs e2)] (w.heap.size+1) (by simp)).alloc (.cells #[.string ⟨#[]⟩,.string ⟨#[]⟩] 26))
 have HB1:=Lib.hid (((Blk.new w 26 #[.string (bs n1),.string (bs e1)]).alloc (.cells #[.string (bs n2),.string (bs e2)] 26)).alloc (.cells #[.string ⟨#[]⟩,.string ⟨#[]⟩] 26))
 have HX:Hid (Ext w (((w.alloc (.cells #[.string (bs n1),.string (bs e1)] 26)).alloc (.cells #[.string (bs n2),.string (bs e2)] 26)).alloc (.cells #[.string ⟨#[]⟩,.string ⟨#[]⟩] 26))):=Lib.hid (((Ext.new _ _).alloc _).alloc _)
 go_enter Tryz.func97,Tryz.ntmps97
 go_wp2_with fail
 generalize ((w.alloc (.cells #[.string (bs n1),.string (bs e1)] 26)).alloc (.cells #[.string (bs n2),.string (bs e2)] 26)).alloc (.cells #[.string ⟨#[]⟩,.string ⟨#[]⟩] 26)=W0 at *
 obtain ⟨a0,a1,_,_⟩:=frBlk HB1.out (Ext.refl W0)
 obtain ⟨b0,b1,_,_⟩:=frBlk HB2.out (Ext.refl W0)
 obtain ⟨c0,c1,d0,d1⟩:=frBlk HB.out (Ext.refl W0)
 have HD:Hid (Ext W0 W0.drew):=Lib.hid (Ext.refl W0).drew
 go_region_held3 (fun w'=>w'.cell? ⟨w.heap.size,0,none⟩=some (.string (bs n1))∧w'.cell? ⟨w.heap.size,1,none⟩=some (.string (bs e1))∧w'.cell? ⟨w.heap.size+1,0,none⟩=some (.string (bs n2))∧w'.cell? ⟨w.heap.size+1,1,none⟩=some (.string (bs e2)))
  (go_keep)
  (first
   |(go_at_call 95;((with_reducible refine (fracOps _).mono ?_);rintro e w1 ⟨g,rfl,hx,hm⟩);(replace HD:=Lib.hid (HD.out.trans hx));(have HM:=Lib.hid hm);(obtain ⟨a2,a3,_,_⟩:=frBlk HB1.out HD.out);(obtain ⟨b2,b3,_,_⟩:=frBlk HB2.out HD.out);(obtain ⟨c2,c3,d2,d3⟩:=frBlk HB.out HD.out);clear hx hm)
   |(go_at_call 94;((with_reducible refine (HA.out _ _ (HE.out.ext (HX.out.trans HD.out)) HM.out).mono ?_);rintro e w2 ⟨rfl,hx⟩);(replace HD:=Lib.hid (HD.out.trans hx));(obtain ⟨a2,a3,_,_⟩:=frBlk HB1.out HD.out);(obtain ⟨b2,b3,_,_⟩:=frBlk HB2.out HD.out);(obtain ⟨c2,c3,d2,d3⟩:=frBlk HB.out HD.out);clear hx))
 all_goals
  go_wp2_with fail
  refine bodyPost_ret (results_fr rfl _ _ (w.heap.size+1+1) (.string (bs r.num)) (.string (bs r.den)) rfl (((HB.out.ext HD.out).set_ 0 _).set_ 1 _)) rfl ?_
  exact ⟨rfl,((HX.out.trans HD.out).setCell (p:=⟨w.heap.size+1+1,0,none⟩) (by show w.heap.size≤w.heap.size+1+1;omega) _).setCell (p:=⟨w.heap.size+1+1,1,none⟩) (by show w.heap.size≤w.heap.size+1+1;omega) _⟩
theorem idx4_2 (a b c d:Value) (W:World):(Instr.index 156 (.agg #[a,b,c,d]) (.int .i64 2)).run Tryz.prog W = .ok c W:=by kernel_rfl
theorem fracMul (f h:Fr) (h1:f.num.length≤20000) (h2:f.den.length≤20000) (h3:h.num.length≤20000) (h4:h.den.length≤20000) :
  Pure 38 #[fv f,fv h] (fv (ofQ (frQ f*frQ h))):=by
 intro w hE
 have HE:=Lib.hid hE
 have hd1:(dn f).length≤30000:=dn_len f (by omega) (by omega)
 have hd2:(dn h).length≤30000:=dn_len h (by omega) (by omega)
 have hden:(ofI (valI (dn f)*valI (dn h))).length≤90000:=by have:=mul_len hd1 hd2;omega
 have hnum:(ofI (valI f.num*valI h.num)).length≤90000:=by have:=mul_len h1 h3;omega
 have HA:=Lib.hid (fun g=>fracApply 163 g (fun _ _=>by rfl) f h _ _ (by omega) (by omega) (opTimes g f.num (dn f) h.num (dn h) (by omega) hd1 (by omega) hd2) hnum hden (by rw [valI_ofI,valI_dn,valI_dn];exact Int.mul_ne_zero (frD_ne f) (frD_ne h)))
 have he:Rat.divInt (valI f.num*valI h.num) (valI (dn f)*valI (dn h))=frQ f*frQ h:=by
  rw [valI_dn,valI_dn];exact (Rat.divInt_mul_divInt _ _).symm
 simp only [valI_ofI,he] at HA
 generalize ofQ (frQ f*frQ h)=r at *
 obtain ⟨n1,e1⟩:=f
 obtain ⟨n2,e2⟩:=h
 clear hE hd1 hd2 hden hnum he h1 h2 h3 h4
 have hix:=idx4_2
 have hn1:w.heap.size≠w.heap.size+1+1:=by omega
 have hn2:w.heap.size+1+1≠w.heap.size:=by omega
 have hn3:¬ (w.heap.size=w.heap.size+1+1):=by omega
 have HB:=Lib.hid (Blk.newAt ((w.alloc (.cells #[.string (bs n1),.string (bs e1)] 26)).alloc (.cells #[.string (bs n2),.string (bs e2)] 26)) 26 #[.string ⟨#[]⟩,.string ⟨#[]⟩] (w.heap.size+1+1) (by simp))
 have HB2:=Lib.hid ((Blk.newAt (w.alloc (.cells #[.string (bs n1),.string (bs e1)] 26)) 26 #[.string (bs n2),.string (bs e2)] (w.heap.size+1) (by simp)).alloc (.cells #[.string ⟨#[]⟩,.string ⟨#[]⟩] 26))
 have HB1:=Lib.hid (((Blk.new w 26 #[.string (bs n1),.string (bs e1)]).alloc (.cells #[.string (bs n2),.string (bs e2)] 26)).alloc (.cells #[.string ⟨#[]⟩,.string ⟨#[]⟩] 26))
 have HX:Hid (Ext w (((w.alloc (.cells #[.string (bs n1),.string (bs e1)] 26)).alloc (.cells #[.string (bs n2),.string (bs e2)] 26)).alloc (.cells #[.string ⟨#[]⟩,.string ⟨#[]⟩] 26))):=Lib.hid (((Ext.new _ _).alloc _).alloc _)
 go_enter Tryz.func38,Tryz.ntmps38
 go_wp2_with fail
 generalize ((w.alloc (.cells #[.string (bs n1),.string (bs e1)] 26)).alloc (.cells #[.string (bs n2),.string (bs e2)] 26)).alloc (.cells #[.string ⟨#[]⟩,.string ⟨#[]⟩] 26)=W0 at *
 obtain ⟨a0,a1,_,_⟩:=frBlk HB1.out (Ext.refl W0)
 obtain ⟨b0,b1,_,_⟩:=frBlk HB2.out (Ext.refl W0)
 obtain ⟨c0,c1,d0,d1⟩:=frBlk HB.out (Ext.refl W0)
 have HD:Hid (Ext W0 W0.drew):=Lib.hid (Ext.refl W0).drew
 go_region_held3 (fun w'=>w'.cell? ⟨w.heap.size,0,none⟩=some (.string (bs n1))∧w'.cell? ⟨w.heap.size,1,none⟩=some (.string (bs e1))∧w'.cell? ⟨w.heap.size+1,0,none⟩=some (.string (bs n2))∧w'.cell? ⟨w.heap.size+1,1,none⟩=some (.string (bs e2)))
  (go_keep)
  (first
   |(go_at_call 95;((with_reducible refine (fracOps _).mono ?_);rintro e w1 ⟨g,rfl,hx,hm⟩);(replace HD:=Lib.hid (HD.out.trans hx));(have HM:=Lib.hid hm);(obtain ⟨a2,a3,_,_⟩:=frBlk HB1.out HD.out);(obtain ⟨b2,b3,_,_⟩:=frBlk HB2.out HD.out);(obtain ⟨c2,c3,d2,d3⟩:=frBlk HB.out HD.out);clear hx hm)
   |(go_at_call 94;((with_reducible refine (HA.out _ _ (HE.out.ext (HX.out.trans HD.out)) HM.out).mono ?_);rintro e w2 ⟨rfl,hx⟩);(replace HD:=Lib.hid (HD.out.trans hx));(obtain ⟨a2,a3,_,_⟩:=frBlk HB1.out HD.out);(obtain ⟨b2,b3,_,_⟩:=frBlk HB2.out HD.out);(obtain ⟨c2,c3,d2,d3⟩:=frBlk HB.out HD.out);clear hx))
 all_goals
  go_wp2_with fail
  refine bodyPost_ret (results_fr rfl _ _ (w.heap.size+1+1) (.string (bs r.num)) (.string (bs r.den)) rfl (((HB.out.ext HD.out).set_ 0 _).set_ 1 _)) rfl ?_
  exact ⟨rfl,((HX.out.trans HD.out).setCell (p:=⟨w.heap.size+1+1,0,none⟩) (by show w.heap.size≤w.heap.size+1+1;omega) _).setCell (p:=⟨w.heap.size+1+1,1,none⟩) (by show w.heap.size≤w.heap.size+1+1;omega) _⟩
theorem fracCmp (f h:Fr) (h1:f.num.length≤20000) (h2:f.den.length≤20000) (h3:h.num.length≤20000) (h4:h.den.length≤20000) :
  Pure 39 #[fv f,fv h] (.int .i64 (cmpQ (frQ f) (frQ h))):=by
 intro w hE
 have HE:=Lib.hid hE
 have HS:=Lib.hid (fracSub f h h1 h2 h3 h4)
 have hq:=(frQ_qb h1 h2 (by omega)).sub (frQ_qb h3 h4 (by omega))
 have hl1:=hq.num_len
 have hl2:=hq.den_len
 have HP:=Lib.hid (fracParts (ofQ (frQ f-frQ h)) (by omega))
 have HC:=Lib.hid (cmp0P (ofQ (frQ f-frQ h)).num (by omega))
 rw [show valI (ofQ (frQ f-frQ h)).num=(frQ f-frQ h).num from frN_ofQ _,cmpQ_num] at HC
 clear hq hl1 hl2
 generalize cmpQ (frQ f) (frQ h)=cc at *
 generalize dn (ofQ (frQ f-frQ h))=dd at *
 generalize ofQ (frQ f-frQ h)=r at *
 obtain ⟨n1,e1⟩:=f
 obtain ⟨n2,e2⟩:=h
 clear hE h1 h2 h3 h4
 have HX0:Hid (Ext w ((w.alloc (.cells #[.string (bs n1),.string (bs e1)] 26)).alloc (.cells #[.string (bs n2),.string (bs e2)] 26))):=Lib.hid ((Ext.new _ _).alloc _)
 go_enter Tryz.func39,Tryz.ntmps39
 go_wp2_with fail
 refine (HS.out _ (HE.out.ext HX0.out)).mono ?_
 rintro e w1 ⟨rfl,hx1⟩
 have HX:=Lib.hid (HX0.out.trans hx1)
 clear hx1
 go_wp2_with fail
 refine (HP.out _ (HE.out.ext HX.out)).mono ?_
 rintro e w2 ⟨rfl,hx1⟩
 replace HX:=Lib.hid (HX.out.trans hx1)
 clear hx1
 go_wp2_with fail
 refine (HC.out _ (HE.out.ext HX.out)).mono ?_
 rintro e w3 ⟨rfl,hx1⟩
 replace HX:=Lib.hid (HX.out.trans hx1)
 clear hx1
 go_wp2_with fail
 go_ret
 exact ⟨rfl,HX.out⟩
end
section
open Go.RowKit
attribute [local go_sem] size_bs toList_bs
theorem cmp_less {m:Bool} {x y:Nat} (h:x<y):cmpI (sgn m x) (sgn m y)=if m then 1 else -1:=by
 unfold cmpI sgn;cases m <;> simp <;> omega
theorem cmp_more {m:Bool} {x y:Nat} (h:y<x):cmpI (sgn m x) (sgn m y)=if m then -1 else 1:=by
 unfold cmpI sgn;cases m <;> simp <;> omega
theorem cmp_same (x:Int):cmpI x x=0:=by unfold cmpI;simp
theorem cmp_apart {m n:Bool} {x y:Nat} (hm:m=true→0<x) (hn:n=true→0<y) (h:m≠n):cmpI (sgn m x) (sgn n y)=if m then -1 else 1:=by
 unfold cmpI sgn
 cases m <;> cases n <;> simp at h hm hn <;> simp <;> omega
theorem refCmp (a b:Bs) (w:World) (ha:a.length≤1000000000) (hb:b.length≤1000000000) :
  Calls Tryz.prog 130 #[.string (bs a),.string (bs b)] w fun e w'=>e = .returned (.int .i64 (cmpI (valI a) (valI b)))∧w=w':=by
 have HD1:=Lib.hid (fun w=>refDigits a w ha)
 have HD2:=Lib.hid (fun w=>refDigits b w hb)
 have hla:(mag a).length≤1000000000:=Nat.le_trans (mag_le a) ha
 have hlb:(mag b).length≤1000000000:=Nat.le_trans (mag_le b) hb
 have HAP:=Lib.hid (cmp_apart (m:=neg a) (n:=neg b) (x:=natOf (mag a)) (y:=natOf (mag b)) neg_pos neg_pos)
 have HS1:=Lib.hid (fun h=>shorter_lt (mag_all a) (mag_all b) (mag_lead b) h)
 have HS2:=Lib.hid (fun h=>shorter_lt (mag_all b) (mag_all a) (mag_lead a) h)
 have HE1:=Lib.hid (fun h=>(lt_digits (mag_all a) (mag_all b) h).1)
 have HE2:=Lib.hid (fun h=>(lt_digits (mag_all b) (mag_all a) h).1)
 have HV:Hid (valI a=sgn (neg a) (natOf (mag a))∧valI b=sgn (neg b) (natOf (mag b))):=Lib.hid ⟨rfl,rfl⟩
 rw [HV.out.1,HV.out.2]
 clear HV ha hb
 generalize neg a=m at *
 generalize neg b=n at *
 generalize mag a=s at *
 generalize mag b=t at *
 by_cases hmn:m=n
 ·subst hmn
  clear HAP
  rcases Nat.lt_trichotomy s.length t.length with h | h | h
  ·have HC:=Lib.hid (cmp_less (m:=m) (HS1.out h))
   generalize cmpI (sgn m (natOf s)) (sgn m (natOf t))=z at *
   have hne:((s.length:Int) != (t.length:Int))=true:=by rw [bne_iff_ne];omega
   cases m
   all_goals
    go_enter Tryz.func130,Tryz.ntmps130
    go_wp2_with fail
    refine (HD1.out _).mono ?_
    rintro e w1 ⟨rfl,rfl⟩
    go_wp2_with fail
    refine (HD2.out _).mono ?_
    rintro e w1 ⟨rfl,rfl⟩
    go_wp2_with fail
    go_ret
    exact ⟨by rw [HC.out];rfl,rfl⟩
  ·have hne:((s.length:Int) != (t.length:Int))=false:=by rw [bne_eq_false_iff_eq];omega
   by_cases h1:Op.bytesLess s t=true
   ·have HC:=Lib.hid (cmp_less (m:=m) (HE1.out h h1))
    generalize cmpI (sgn m (natOf s)) (sgn m (natOf t))=z at *
    cases m
    all_goals
     go_enter Tryz.func130,Tryz.ntmps130
     go_wp2_with fail
     refine (HD1.out _).mono ?_
     rintro e w1 ⟨rfl,rfl⟩
     go_wp2_with fail
     refine (HD2.out _).mono ?_
     rintro e w1 ⟨rfl,rfl⟩
     go_wp2_with fail
     go_ret
     exact ⟨by rw [HC.out];rfl,rfl⟩
   ·have h1f:Op.bytesLess s t=false:=by simpa using h1
    by_cases h2:Op.bytesLess t s=true
    ·have HC:=Lib.hid (cmp_more (m:=m) (HE2.out h.symm h2))
     have hst:(s == t)=false:=by
      rw [beq_eq_false_iff_ne];intro e;subst e
      rw [h1f] at h2;cases h2
     generalize cmpI (sgn m (natOf s)) (sgn m (natOf t))=z at *
     cases m
     all_goals
      go_enter Tryz.func130,Tryz.ntmps130
      go_wp2_with fail
      refine (HD1.out _).mono ?_
      rintro e w1 ⟨rfl,rfl⟩
      go_wp2_with fail
      refine (HD2.out _).mono ?_
      rintro e w1 ⟨rfl,rfl⟩
      go_wp2_with fail
      go_ret
      exact ⟨by rw [HC.out];rfl,rfl⟩
    ·have h2f:Op.bytesLess t s=false:=by simpa using h2
     have est:s=t:=lt_total s t h1f h2f
     have HC:Hid (cmpI (sgn m (natOf s)) (sgn m (natOf t))=0):=Lib.hid (by rw [est,cmp_same])
     generalize cmpI (sgn m (natOf s)) (sgn m (natOf t))=z at *
     have hst:(s == t)=true:=by rw [est];simp
     clear est
     cases m
     all_goals
      go_enter Tryz.func130,Tryz.ntmps130
      go_wp2_with fail
      refine (HD1.out _).mono ?_
      rintro e w1 ⟨rfl,rfl⟩
      go_wp2_with fail
      refine (HD2.out _).mono ?_
      rintro e w1 ⟨rfl,rfl⟩
      go_wp2_with fail
      go_ret
      exact ⟨by rw [HC.out];rfl,rfl⟩
  ·have HC:=Lib.hid (cmp_more (m:=m) (HS2.out h))
   generalize cmpI (sgn m (natOf s)) (sgn m (natOf t))=z at *
   have hne:((s.length:Int) != (t.length:Int))=true:=by rw [bne_iff_ne];omega
   cases m
   all_goals
    go_enter Tryz.func130,Tryz.ntmps130
    go_wp2_with fail
    refine (HD1.out _).mono ?_
    rintro e w1 ⟨rfl,rfl⟩
    go_wp2_with fail
    refine (HD2.out _).mono ?_
    rintro e w1 ⟨rfl,rfl⟩
    go_wp2_with fail
    go_ret
    exact ⟨by rw [HC.out];rfl,rfl⟩
 ·have HC:=Lib.hid (HAP.out hmn)
  generalize cmpI (sgn m (natOf s)) (sgn n (natOf t))=z at *
  clear HAP
  cases m <;> cases n <;> simp at hmn
  all_goals
   go_enter Tryz.func130,Tryz.ntmps130
   go_wp2_with fail
   refine (HD1.out _).mono ?_
   rintro e w1 ⟨rfl,rfl⟩
   go_wp2_with fail
   refine (HD2.out _).mono ?_
   rintro e w1 ⟨rfl,rfl⟩
   go_wp2_with fail
   go_ret
   exact ⟨by rw [HC.out];rfl,rfl⟩
theorem valI_nilR:valI []=0:=by decide
theorem refSign (a:Bs) (w:World) (ha:a.length≤1000000000) :
  Calls Tryz.prog 75 #[.string (bs a)] w fun e w'=>e = .returned (.int .i64 (cmpI (valI a) 0))∧w=w':=by
 have HC:=Lib.hid (refCmp a [] w ha (by simp))
 rw [valI_nilR] at HC
 generalize cmpI (valI a) 0=z at *
 go_enter Tryz.func75,Tryz.ntmps75
 go_wp2_with fail
 refine HC.out.mono ?_
 rintro e w1 ⟨rfl,rfl⟩
 go_wp2_with fail
 go_ret
 exact ⟨rfl,rfl⟩
end
section
open Go.RowKit
attribute [local go_sem] size_bs toList_bs
def RowI (w:World) (g cap:Nat) (gs:List Nat):Prop:=∃ cur,Row w g 3 1 gs.length cap (icells gs) cur
theorem RowI.cell {w:World} {g cap:Nat} {gs:List Nat} (h:RowI w g cap gs) {k x:Nat} (hk:gs[k]? = some x):w.cell? ⟨g,k,none⟩=some (.int .i64 x):=by
 obtain ⟨cur,h⟩:=h;exact h.cell (by simp [icells,hk])
theorem RowI.frozen {w:World} {g cap:Nat} {gs:List Nat} (h:RowI w g cap gs) (k:Nat):w.frozen? ⟨g,k,none⟩=false:=by
 obtain ⟨cur,h⟩:=h;exact h.frozen k
theorem RowI.lt {w:World} {g cap:Nat} {gs:List Nat} (h:RowI w g cap gs):g<w.heap.size:=by obtain ⟨cur,h⟩:=h;exact h.blk.lt
theorem RowI.reads {w:World} {g cap:Nat} {gs:List Nat} (h:RowI w g cap gs):RdI w (some ⟨g,0,none⟩) gs:=by obtain ⟨cur,h⟩:=h;exact h.reads
theorem RowI.caps {w:World} {g cap:Nat} {gs:List Nat} (h:RowI w g cap gs):gs.length≤cap∧cap≤maxLen:=by obtain ⟨cur,h⟩:=h;exact ⟨h.le,h.big⟩
theorem RowI.ext {w w':World} {g cap:Nat} {gs:List Nat} (h:RowI w g cap gs) (hx:Ext w w'):RowI w' g cap gs:=by obtain ⟨cur,h⟩:=h;exact ⟨cur,h.ext hx⟩
theorem RowI.set_ {w:World} {g cap:Nat} {gs:List Nat} (h:RowI w g cap gs) (k x:Nat) (_hk:k<gs.length):RowI (w.setCell ⟨g,k,none⟩ (.int .i64 x)) g cap (gs.set k x):=by
 obtain ⟨cur,h⟩:=h
 have h1:=h.blk.set_ k (.int .i64 x)
 rw [List.setIfInBounds_toArray] at h1
 refine ⟨cur.set k (.int .i64 x),h1,by simp [icells],by simpa using h.le,h.big,by simpa using h.full,?_⟩
 rw [List.length_set,List.take_set,h.take];simp [icells,List.map_set]
theorem RowI.put {w:World} {g cap:Nat} {gs:List Nat} (h:RowI w g cap gs) (k:Nat) (z:Int) (x:Nat) (hk:k<gs.length) (hz:z=(x:Int)):RowI (w.setCell ⟨g,k,none⟩ (.int .i64 z)) g cap (gs.set k x):=by
 subst hz;exact h.set_ k x hk
theorem icells_rep (n:Nat):icells (List.replicate n 0)=List.replicate n (.int .i64 0):=by simp [icells]
theorem makeI (n c:Nat) (w:World) (hc:n=c) (hn:n≤3000000):∃ W,(Instr.makeSlice 206 (.int .i64 (n:Int)) (.int .i64 (n:Int))).run Tryz.prog w = .ok (.slice (some ⟨w.heap.size,0,none⟩) n n) W∧RowI W w.heap.size n (List.replicate n 0)∧Ext w W:=by
 obtain ⟨i0,hI,hz0,hz1,hz2⟩:=info_parts i64Info
 have h:=run_make (P:=Tryz.prog) w 206 3 i0 _ Tryz.underlying206 hI hz0 .i64 .i64 (n:Int) (n:Int) (by omega) (by omega) (by rw [hz2];omega) (by omega)
 rw [hz1,Int.toNat_natCast,Nat.mul_one] at h
 refine ⟨_,h,⟨List.replicate n (.int .i64 0),?_,by rw [icells_rep];simp,by simp,by unfold maxLen;simp;omega,by simp,by rw [icells_rep];simp⟩,Ext.new _ _⟩
 have hb:=Blk.new w 3 (madeCells #[.int .i64 0] n)
 have e:madeCells (Value.int .i64 0).cells n=(List.replicate n (Value.int .i64 0)).toArray:=by
  rw [← toList_madeCells_one];rfl
 rw [e];exact Blk.new _ _ _
theorem RowI.cutOwn {w:World} {g cap:Nat} {R:List Nat} {base:Nat} (h:RowI w g cap R) (hb:base≤g):w.ownsRow base 3 1 (.slice (some ⟨g,0,none⟩) (cutL R).length cap) (cutL R).length (icells (cutL R)):=by
 obtain ⟨cur,h⟩:=h
 have hp:=cutL_prefix R
 have hl:=cutL_le R
 refine ⟨by simp [icells],.inr ⟨g,cap,cur.toArray,rfl,hb,h.blk,by have:=h.le;omega,h.big,by simpa using h.full,?_⟩⟩
 have ht:=h.take
 rw [Nat.mul_one] at ht ⊢
 have:(cur.take R.length).take (cutL R).length=(icells R).take (cutL R).length:=by rw [ht]
 rw [List.take_take,Nat.min_eq_left hl] at this
 show cur.take _=_
 rw [this]
 conv=>rhs;rw [hp]
 simp [icells,List.map_take]
theorem RowI.at0 {w:World} {g cap:Nat} {R:List Nat} (h:RowI w g cap R) {k:Nat} (hk:k<R.length):w.cell? ⟨g,k,none⟩=some (.int .i64 (at0 R k:Nat)):=by
 rw [at0_lt hk];exact h.cell (List.getElem?_eq_getElem hk)
theorem RowI.far {w:World} {g cap:Nat} {gs:List Nat} (h:RowI w g cap gs) {g':Nat} (hne:g≠g') (k:Nat) (u:Value):RowI (w.setCell ⟨g',k,none⟩ u) g cap gs:=by
 obtain ⟨cur,h⟩:=h
 exact ⟨cur,{ h with blk:=h.blk.far (p:=⟨g',k,none⟩) hne u }⟩
def OwnMagI (n:Nat) (w:World) (e:Ending) (w':World):Prop :=
 ∃ A c,e = .returned (.slice A (gr n).length c)∧w'.ownsRow w.heap.size 3 1 (.slice A (gr n).length c) (gr n).length (icells (gr n))∧Ext w w'
theorem OwnMagI.mag {n:Nat} {w:World} {e:Ending} {w':World} (h:OwnMagI n w e w'):MagEndsI n w e w':=by
 obtain ⟨A,c,rfl,ho,hx⟩:=h
 exact ⟨A,c,rfl,Reads.own ho,hx,(own_cap ho).1,(own_cap ho).2⟩
theorem mulQ2 (c o x y:Nat):((o:Int)+(x:Int)*(y:Int)+(c:Int)) / 1000000000=(((c+o+x*y) / B9:Nat):Int)∧((o:Int)+(x:Int)*(y:Int)+(c:Int)) % 1000000000=(((c+o+x*y) % B9:Nat):Int):=by
 have e:B9=1000000000:=rfl
 rw [← Int.natCast_mul,e]
 generalize x*y=z
 omega
def MulR (xi:Nat) (gx gy:List Nat) (L i k ca:Nat) (R:List Nat):Prop :=
 (k≤gy.length∧MulIn xi gy (gval (gx.take i)*gval gy) L i k ca R)∨(k=gy.length+1∧ca=0∧MulOut gx gy L (i+1) R)
theorem MulR.go {xi:Nat} {gx gy:List Nat} {L i k ca:Nat} {R:List Nat} (h:MulR xi gx gy L i k ca R) (hxi:at0 gx i=xi) (hx:xi<B9) (hy:AllB gy) (hL:i+gy.length<L) :
  (R.length=L∧AllB R∧ca<B9∧k≤gy.length+1) ∧
  ((k≤gy.length∧(k<gy.length∨(¬ k<gy.length∧0<ca))∧MulR xi gx gy L i (k+1) ((ca+at0 R (i+k)+xi*at0 gy k) / B9) (R.set (i+k) ((ca+at0 R (i+k)+xi*at0 gy k) % B9)))∨(¬ k<gy.length∧ca=0∧MulOut gx gy L (i+1) R)):=by
 rcases h with ⟨hk,hm⟩ | ⟨hk,hc,ho⟩
 ·refine ⟨⟨hm.len,hm.all,hm.cb,by omega⟩,?_⟩
  by_cases hlt:k<gy.length
  ·exact .inl ⟨hk,.inl hlt,.inl ⟨hlt,hm.step hx hy hlt (by omega)⟩⟩
  ·have hkl:k=gy.length:=by omega
   subst hkl
   rcases Nat.eq_zero_or_pos ca with h0 | h0
   ·subst h0
    refine .inr ⟨hlt,rfl,MulOut.next hm.len hm.all ?_ (fun j hj=>hm.tail j (by omega))⟩
    rw [hxi];exact hm.done0 (Nat.le_refl _)
   ·refine .inl ⟨hk,.inr ⟨hlt,h0⟩,.inr ⟨rfl,?_,?_⟩⟩
    ·have hz:=hm.tail _ (Nat.le_refl _)
     rw [hz,at0_ge (Nat.le_refl _),Nat.mul_zero,Nat.add_zero]
     exact Nat.div_eq_of_lt hm.cb
    ·obtain ⟨d1,d2,d3,d4⟩:=hm.done hL
     have hz:=hm.tail _ (Nat.le_refl _)
     have e:(ca+at0 R (i+gy.length)+xi*at0 gy gy.length) % B9=at0 R (i+gy.length)+ca:=by
      rw [hz,at0_ge (Nat.le_refl _),Nat.mul_zero,Nat.add_zero,Nat.zero_add]
      exact Nat.mod_eq_of_lt hm.cb
     rw [e]
     exact MulOut.next d1 d2 (by rw [hxi];exact d3) d4
 ·exact ⟨⟨ho.len,ho.all,by rw [hc];decide,by omega⟩,.inr ⟨by omega,hc,ho⟩⟩
theorem refTimes (x y:Nat) (A A':Option Addr) (c c':Nat) (w:World) (hA:RdI w A (gr x)) (hA':RdI w A' (gr y)) (hn:(gr x).length≤1000000) (hn':(gr y).length≤1000000) :
  Calls Tryz.prog 227 #[.slice A (gr x).length c,.slice A' (gr y).length c'] w (OwnMagI (x*y) w):=by
 have HA:=Lib.hid hA
 have HA':=Lib.hid hA'
 have HBX:Hid (AllB (gr x)):=Lib.hid (gr_lt x)
 have HBY:Hid (AllB (gr y)):=Lib.hid (gr_lt y)
 have HVX:=Lib.hid (gval_gr x)
 have HVY:=Lib.hid (gval_gr y)
 generalize gr x=gx at *
 generalize gr y=gy at *
 clear hA hA'
 obtain ⟨W,hmk,hrow,hxW⟩:=makeI (gx.length+gy.length) _ w rfl (by omega)
 rw [Int.natCast_add] at hmk
 have HROW:=Lib.hid hrow
 have HXW:=Lib.hid hxW
 clear hrow hxW
 go_enter Tryz.func227,Tryz.ntmps227
 go_wp2_with fail
 clear hmk
 go_loopw [6,7,8,9] (fun i _ _ _ wr=>∃ (k:Nat) (R:List Nat),k≤gx.length∧i = .int .i64 k∧RowI wr w.heap.size (gx.length+gy.length) R∧MulOut gx gy (gx.length+gy.length) k R∧Ext w wr) (fun i _ _ _ _=>gx.length-(intOf i).toNat)
 case atStart=>exact ⟨0,_,by omega,rfl,HROW.out,MulOut.start _ _ _,HXW.out⟩
 case round =>
  clear HROW HXW
  obtain ⟨i,R,hi,rfl,hrow,hmo,hx⟩:=hrel
  have HR:=Lib.hid hrow
  have HM:=Lib.hid hmo
  have HX:=Lib.hid hx
  clear hrow hmo hx
  by_cases hlt:i<gx.length
  ·have HIN:=Lib.hid (HM.out.in_ (at0 gx i))
   obtain ⟨wo,rfl⟩:∃ wo:World,wo=wr:=⟨_,rfl⟩
   have hbx:=HBX.out.at0 i
   have HCX:=Lib.hid (fun W hW=>(HA.out.ext (w':=W) hW).at_ hlt)
   rw [← at0_lt hlt] at HCX
   have HXI:Hid (∀ z,at0 gx i=z→z=at0 gx i):=Lib.hid (fun z h=>h.symm)
   obtain ⟨xi,hxi⟩:∃ xi,at0 gx i=xi:=⟨_,rfl⟩
   rw [hxi] at HCX HIN hbx
   have HXE:=Lib.hid hxi
   clear hxi HXI
   go_wp2_with fail
   go_loopw [7,8,9] (fun vc vk _ wr=>∃ (k ca:Nat) (R:List Nat),vk = .int .i64 k∧vc = .int .i64 ca∧RowI wr w.heap.size (gx.length+gy.length) R∧MulR xi gx gy (gx.length+gy.length) i k ca R∧Ext w wr) (fun _ vk _ _=>gy.length+2-(intOf vk).toNat)
   case atStart=>exact ⟨0,0,R,rfl,rfl,HR.out,.inl ⟨Nat.zero_le _,HIN.out⟩,HX.out⟩
   case round =>
    clear HR HM HX HIN
    obtain ⟨k,ca,R,rfl,rfl,hrow,hmr,hx⟩:=hrel
    have HR:=Lib.hid hrow
    have HX:=Lib.hid hx
    obtain ⟨⟨hRl,hall,hcb,hkl⟩,hcase⟩:=hmr.go HXE.out hbx HBY.out (by omega)
    clear hrow hmr hx
    rcases hcase with ⟨hk,hgo,hnx⟩ | ⟨hk,hc0,hmo⟩
    ·have HNX:=Lib.hid hnx
     have hcr:=HR.out.at0 (k:=i+k) (by omega)
     have hfr:=HR.out.frozen (i+k)
     have hor:=hall.at0 (i+k)
     have hby:=HBY.out.at0 k
     have HG:=Lib.hid (fun W h=>refGroup gy A' c' k W h hn')
     have HRS:=Lib.hid (fun W (hW:RowI W w.heap.size (gx.length+gy.length) R) v z hz=>hW.put (i+k) z v (by omega) hz)
     obtain ⟨b,o,rfl,hb,hcx⟩:=HCX.out _ HX.out
     clear hnx
     generalize at0 gy k=yk at *
     generalize at0 R (i+k)=ok at *
     obtain ⟨hm0,hm1⟩:=mulI hbx hby
     have e9:B9=1000000000:=rfl
     rw [e9] at hcb hor
     clear e9 hall
     have hik:((i:Int)+(k:Int)).toNat=i+k:=by omega
     rcases hgo with hgo | ⟨hgo,hgo2⟩
     all_goals
      go_wp2_with fail
      go_quiet ((go_at_call 280;exact quiet_same (HG.out _ (HA'.out.ext (HX.out.drewN _)))))
      go_wp2_with fail
      obtain ⟨hq,hr⟩:=mulQ2 ca ok xi yk
      exact ⟨⟨k+1,_,_,by go_num,by rw [hq],HRS.out _ (HR.out.ext ((Ext.refl _).drewN _)) _ _ hr,HNX.out,(HX.out.drewN _).setCell (p:=⟨w.heap.size,i+k,none⟩) (Nat.le_refl _) _⟩,by simp [intOf];omega⟩
    ·subst hc0
     have HMO:=Lib.hid hmo
     clear hmo hall hcb
     go_wp2_with fail
     exact ⟨⟨i+1,R,by omega,by go_num,HR.out,HMO.out,HX.out⟩,by simp [intOf];omega⟩
  ·have hil:i=gx.length:=by omega
   subst hil
   have HCF:Hid (cutL R=gr (x*y)):=Lib.hid (by rw [HM.out.fin (Nat.le_refl _),HVX.out,HVY.out])
   have hRl:=HM.out.len
   have HCP:=Lib.hid (HR.out.caps)
   have HCUT:=Lib.hid (refTrim R (some ⟨w.heap.size,0,none⟩) (gx.length+gy.length) wr HR.out.reads HCP.out.1 HCP.out.2 HM.out.all)
   have HOW:=Lib.hid (HR.out.cutOwn (base:=w.heap.size) (Nat.le_refl _))
   rw [HCF.out] at HCUT HOW
   rw [hRl] at HCUT
   clear hlt
   go_wp2_with fail
   refine HCUT.out.mono ?_
   rintro e w9 ⟨rfl,rfl⟩
   go_wp2_with fail
   go_ret
   exact ⟨_,_,rfl,HOW.out,HX.out⟩
end
section
open Go.RowKit
attribute [local go_sem] size_bs toList_bs
theorem refMul_long (a b:Bs) (w:World) (ha:a.length≤100000) (hb:b.length≤100000) (m n:Int) (is also:Bool)
  (hno:is=false∨(is=true∧also=false)∨(is=true∧also=true∧¬ m<1000000000)∨(is=true∧also=true∧m<1000000000∧¬ -1000000000<m)∨(is=true∧also=true∧m<1000000000 ∧ -1000000000<m∧¬ n<1000000000)∨(is=true∧also=true∧m<1000000000 ∧ -1000000000<m∧n<1000000000∧¬ -1000000000<n))
  (h1:∀ w,Calls Tryz.prog 191 #[.string (bs a)] w fun e w'=>e = .returned (.tuple #[.int .i64 m,.bool is])∧w=w')
  (h2:∀ w,Calls Tryz.prog 191 #[.string (bs b)] w fun e w'=>e = .returned (.tuple #[.int .i64 n,.bool also])∧w=w') :
  Calls Tryz.prog 166 #[.string (bs a),.string (bs b)] w fun e w'=>e = .returned (.string (bs (ofI (valI a*valI b))))∧Ext w w':=by
 have HR1:=Lib.hid (fun W=>refReadN a W (by omega))
 have HR2:=Lib.hid (fun W=>refReadN b W (by omega))
 obtain ⟨L,hLa,hLb,hL⟩:∃ L:Nat,a.length≤L∧b.length≤L∧L≤100000:=⟨max a.length b.length,by omega,by omega,by omega⟩
 have HL1:Hid ((gr (natOf (mag a))).length≤1000000):=Lib.hid (by have:=gr_len10 (mag_pow a hLa);omega)
 have HL2:Hid ((gr (natOf (mag b))).length≤1000000):=Lib.hid (by have:=gr_len10 (mag_pow b hLb);omega)
 have HL3:Hid ((gr (natOf (mag a)*natOf (mag b))).length≤1000000):=Lib.hid (by have:=mul_len10 (mag_pow a hLa) (mag_pow b hLb);omega)
 have HV:Hid (ofI (sgn (!(neg a == neg b)) (gval (gr (natOf (mag a)*natOf (mag b)))))=ofI (valI a*valI b)):=Lib.hid (by rw [gval_gr,show (!(neg a == neg b))=(neg a != neg b) from rfl,sgn_mul];rfl)
 generalize ofI (valI a*valI b)=z at *
 generalize natOf (mag a)=x at *
 generalize natOf (mag b)=y at *
 generalize neg a=ba at *
 generalize neg b=bb at *
 have H1:=Lib.hid h1
 have H2:=Lib.hid h2
 clear h1 h2 ha hb hLa hLb
 rcases hno with rfl | ⟨rfl,rfl⟩ | ⟨rfl,rfl,g1⟩ | ⟨rfl,rfl,g1,g2⟩ | ⟨rfl,rfl,g1,g2,g3⟩ | ⟨rfl,rfl,g1,g2,g3,g4⟩
 all_goals
  go_enter Tryz.func166,Tryz.ntmps166
  go_wp2_with fail
  refine (H1.out _).mono ?_
  rintro e w1 ⟨rfl,rfl⟩
  go_wp2_with fail
  refine (H2.out _).mono ?_
  rintro e w1 ⟨rfl,rfl⟩
  go_wp2_with fail
  refine (HR1.out _).mono ?_
  rintro e w1 ⟨A,c,rfl,hrd1,hx1,_,_⟩
  go_wp2_with fail
  refine (HR2.out _).mono ?_
  rintro e w2 ⟨A',c',rfl,hrd2,hx2,_,_⟩
  have HB1:=Lib.hid ((Blk.new w2 230 #[.bool ba,.slice A (gr x).length c]).alloc (.cells #[.bool bb,.slice A' (gr y).length c'] 230))
  have HB2:=Lib.hid (blk_at (w2.alloc (.cells #[.bool ba,.slice A (gr x).length c] 230)) 230 #[.bool bb,.slice A' (gr y).length c'] (w2.heap.size+1) (by simp))
  have HX:Hid (Ext w ((w2.alloc (.cells #[.bool ba,.slice A (gr x).length c] 230)).alloc (.cells #[.bool bb,.slice A' (gr y).length c'] 230))):=Lib.hid (((hx1.trans hx2).alloc _).alloc _)
  have HD1:=Lib.hid (((hrd1.ext hx2).ext (Ext.new _ (.cells #[.bool ba,.slice A (gr x).length c] 230))).ext (Ext.new _ (.cells #[.bool bb,.slice A' (gr y).length c'] 230)))
  have HD2:=Lib.hid ((hrd2.ext (Ext.new _ (.cells #[.bool ba,.slice A (gr x).length c] 230))).ext (Ext.new _ (.cells #[.bool bb,.slice A' (gr y).length c'] 230)))
  clear hrd1 hrd2 hx1 hx2
  go_wp2_with fail
  generalize ((w2.alloc (.cells #[.bool ba,.slice A (gr x).length c] 230)).alloc (.cells #[.bool bb,.slice A' (gr y).length c'] 230))=W at *
  generalize w2.heap.size=g at *
  have x0:=HB1.out.cell 0
  have x1:=HB1.out.cell 1
  have y0:=HB2.out.cell 0
  have y1:=HB2.out.cell 1
  simp only [List.getElem?_toArray,List.getElem?_cons_zero,List.getElem?_cons_succ] at x0 x1 y0 y1
  replace HX:=Lib.hid HX.out.drew
  replace HB1:=Lib.hid HB1.out.drew
  replace HB2:=Lib.hid HB2.out.drew
  replace HD1:=Lib.hid (HD1.out.ext (Ext.refl W).drew)
  replace HD2:=Lib.hid (HD2.out.ext (Ext.refl W).drew)
  go_region_held3 (fun w'=>w'.cell? ⟨g,0,none⟩=some (.bool ba)∧w'.cell? ⟨g,1,none⟩=some (.slice A (gr x).length c)∧w'.cell? ⟨g+1,0,none⟩=some (.bool bb)∧w'.cell? ⟨g+1,1,none⟩=some (.slice A' (gr y).length c'))
   (go_keep)
   (first
    |(go_at_call 227;((with_reducible refine (refTimes x y A A' c c' _ HD1.out HD2.out HL1.out HL2.out).mono ?_);rintro e w4 h4);(obtain ⟨A1,c1,rfl,hrd,hx,hc1,hc2⟩:=h4.mag);(have hb1:=HB1.out.ext hx);(have hb2:=HB2.out.ext hx);(have u0:=hb1.cell 0);(have u1:=hb1.cell 1);(have v0:=hb2.cell 0);(have v1:=hb2.cell 1);(simp only [List.getElem?_toArray,List.getElem?_cons_zero,List.getElem?_cons_succ] at u0 u1 v0 v1);(replace HB1:=Lib.hid hb1);(replace HB2:=Lib.hid hb2);(replace HX:=Lib.hid (HX.out.trans hx));(have HD:=Lib.hid hrd);clear hb1 hb2 hrd hx hc1 hc2 h4)
    |(go_at_call 193;((with_reducible refine (refWrite (!(ba == bb)) (gr (x*y)) A1 c1 _ HD.out HL3.out (gr_lt _)).mono ?_);rintro e w5 ⟨rfl,hx⟩);(have hb1:=HB1.out.ext hx);(have hb2:=HB2.out.ext hx);(have s0:=hb1.cell 0);(have s1:=hb1.cell 1);(have t0:=hb2.cell 0);(have t1:=hb2.cell 1);(simp only [List.getElem?_toArray,List.getElem?_cons_zero,List.getElem?_cons_succ] at s0 s1 t0 t1);(replace HX:=Lib.hid (HX.out.trans hx));clear hb1 hb2 hx))
  all_goals
   rw [HV.out]
   go_wp2_with fail
   go_ret
   exact ⟨rfl,HX.out⟩
theorem mul_small {m n:Int} (h1:m<1000000000) (h2 : -1000000000<m) (h3:n<1000000000) (h4 : -1000000000<n) : -1000000000000000000≤m*n∧m*n≤1000000000000000000:=by
 have h:(m*n).natAbs≤1000000000*1000000000:=by
  rw [Int.natAbs_mul];exact Nat.mul_le_mul (by omega) (by omega)
 omega
theorem refMul (a b:Bs) (w:World) (ha:a.length≤100000) (hb:b.length≤100000) :
  Calls Tryz.prog 166 #[.string (bs a),.string (bs b)] w fun e w'=>e = .returned (.string (bs (ofI (valI a*valI b))))∧Ext w w':=by
 by_cases h1:(mag a).length≤17
 ·by_cases h2:(mag b).length≤17
  ·by_cases hs:valI a<1000000000 ∧ -1000000000<valI a∧valI b<1000000000 ∧ -1000000000<valI b
   ·obtain ⟨g1,g2,g3,g4⟩:=hs
    have HS1:=Lib.hid (fun w=>refShort a w (by omega) h1)
    have HS2:=Lib.hid (fun w=>refShort b w (by omega) h2)
    obtain ⟨p1,p2⟩:=mul_small g1 g2 g3 g4
    have HOF:=Lib.hid (fun w=>refIntOf (valI a*valI b) (by omega) (by omega) w)
    clear h1 h2 ha hb
    generalize valI a=m at *
    generalize valI b=n at *
    go_enter Tryz.func166,Tryz.ntmps166
    go_wp2_with fail
    refine (HS1.out _).mono ?_
    rintro e w1 ⟨rfl,rfl⟩
    go_wp2_with fail
    refine (HS2.out _).mono ?_
    rintro e w1 ⟨rfl,rfl⟩
    go_wp2_with fail
    refine (HOF.out _).mono ?_
    rintro e w1 ⟨rfl,rfl⟩
    go_wp2_with fail
    go_ret
    exact ⟨rfl,Ext.refl _⟩
   ·exact refMul_long a b w ha hb _ _ true true (by simp;omega) (fun w=>refShort a w (by omega) h1) (fun w=>refShort b w (by omega) h2)
  ·exact refMul_long a b w ha hb _ _ true false (.inr (.inl ⟨rfl,rfl⟩)) (fun w=>refShort a w (by omega) h1) (fun w=>refShort_no b w (by omega) h2)
 ·by_cases h2:(mag b).length≤17
  ·exact refMul_long a b w ha hb _ _ false true (.inl rfl) (fun w=>refShort_no a w (by omega) h1) (fun w=>refShort b w (by omega) h2)
  ·exact refMul_long a b w ha hb _ _ false false (.inl rfl) (fun w=>refShort_no a w (by omega) h1) (fun w=>refShort_no b w (by omega) h2)
end
section
open Go.RowKit
structure BisAt (T y low high:Nat):Prop where
 lo:low≤T / y
 hi:T / y≤high
 top:high<B9
theorem BisAt.start {T y:Nat} (hy:0<y) (h:T<B9*y):BisAt T y 0 (B9-1) :=
 ⟨Nat.zero_le _,by have:T / y<B9:=(Nat.div_lt_iff_lt_mul hy).2 h;omega,by decide⟩
theorem BisAt.up {T y low high:Nat} (h:BisAt T y low high) (hy:0<y) (hc:(low+high+1) / 2*y≤T):BisAt T y ((low+high+1) / 2) high :=
 ⟨(Nat.le_div_iff_mul_le hy).2 hc,h.hi,h.top⟩
theorem BisAt.down {T y low high:Nat} (h:BisAt T y low high) (hy:0<y) (hc:¬ (low+high+1) / 2*y≤T):BisAt T y low ((low+high+1) / 2-1):=by
 have h1:¬ (low+high+1) / 2≤T / y:=fun h1=>hc ((Nat.le_div_iff_mul_le hy).1 h1)
 have h2:=h.top
 have h3:=h.hi
 have h4:=h.lo
 exact ⟨h4,by omega,by omega⟩
theorem BisAt.fin {T y low high:Nat} (h:BisAt T y low high) (he:¬ low<high):low=T / y:=by
 have:=h.lo;have:=h.hi;omega
theorem bis_less {low high:Nat} (h:low<high):high-(low+high+1) / 2<high-low∧(low+high+1) / 2-1-low<high-low∧low<(low+high+1) / 2∧(low+high+1) / 2≤high:=by omega
theorem cut_next {x r:Nat} (hx:x<B9):cutL (x :: gr r)=gr (r*B9+x):=by
 rw [cutL_gr (by intro g hg;rcases List.mem_cons.1 hg with rfl | h;exact hx;exact gr_lt r g h)]
 show gr (x+B9*gval (gr r))=_
 rw [gval_gr,Nat.mul_comm,Nat.add_comm]
theorem bis_rest (T y:Nat):T-y*(T / y)=T % y:=by
 have:=Nat.div_add_mod T y;omega
theorem bis_le (T y:Nat):y*(T / y)≤T:=Nat.mul_div_le T y
end
end Go.Proofs.YthgpheopnhajaaaGreatDoor
