/- The seat's texts, part P11. -/
import Derived.Test.YthgpheopnhajaaaGreatDoorP7
import Derived.Test.YthgpheopnhajaaaGreatDoorP8
import Derived.Test.YthgpheopnhajaaaGreatDoorP9
import Derived.Test.YthgpheopnhajaaaGreatDoorP10
import Derived.Laws.EntriesVeiled
import Derived.Lib.ParseIntB
import Derived.Deep.RegionHeld3
set_option maxRecDepth 100000
set_option maxHeartbeats 8000000
namespace Go.Proofs.YthgpheopnhajaaaGreatDoor
section
open Go.RowKit
attribute [local go_sem] size_bs toList_bs
abbrev xg(k g:Nat):Value := .func (.func k) #[] #[.pointer (some ⟨g,0,none⟩)]
theorem uh{fn:Func}{a:Tmp}(h:fn.results=#[.cell a 156])(tmps:Array Value)(w:World)(g:Nat)(x y z u:Value)(ha:tmps.getD a undef = .pointer (some ⟨g,0,none⟩))(hb:Blk w g 156 #[x,y,z,u]) :
  (results fn tmps).run Tryz.prog w = .ok (.agg #[x,y,z,u]) w:=by
 have h0:=hb.cell 0;have h1:=hb.cell 1;have h2:=hb.cell 2;have h3:=hb.cell 3;simp only[List.getElem?_toArray,List.getElem?_cons_zero,List.getElem?_cons_succ]at h0 h1 h2 h3;unfold results;rw[h];simp only[List.mapM_toArray,List.mapM_cons,List.mapM_nil,ha];go_simp
def Cc(w:World)(e:Ending)(w':World):Prop :=
 ∃g,e = .returned (.agg #[xg 161 g,xg 162 g,xg 163 g,xg 164 g])∧Ext w w'∧rM w' g
theorem pU(w:World):Calls Tryz.prog 95 #[] w (Cc w):=by
 go_enter Tryz.func95,Tryz.ntmps95;go_wp2_with fail;refine bodyPost_ret (uh rfl _ _ w.heap.size _ _ _ _ rfl ((Blk.new w _ _).alloc _)) rfl ⟨w.heap.size+1,rfl,(Ext.new _ _).alloc _,Blk.newAt _ _ _ _ (by simp)⟩
theorem mN(k g:Nat)(hk:∀args w,(callFunc k args).run Tryz.prog w = .ok (.enter k args) w)(f h:Fr)(n m:Bs)(h2:f.den.length≤90000)(h4:h.den.length≤90000)(hO:vL k g f.num (dn f) h.num (dn h) n m)(hn:n.length≤90000)(hm:m.length≤90000)(h0:valI m≠0)
  (w:World) (hE:Env w) (hM:rM w g) :
  Calls Tryz.prog 94 #[xg k g,fv f,fv h] w fun e w'=>e = .returned (fv (bz (Rat.divInt (valI n) (valI m))))∧Ext w w':=by
 have HE:=qh hE;have HM:=qh hM;have HP1:=qh (ic f h2);have HP2:=qh (ic h h4);have HO:=qh hO;have HMD:=qh (oD n m hn hm h0);generalize bz (Rat.divInt (valI n) (valI m))=r at *;generalize dn f=d1 at *;generalize dn h=d2 at *;obtain⟨n1,e1⟩:=f;obtain⟨n2,e2⟩:=h;clear hE hM hO hn hm h0 h2 h4;have HB:=qh (Blk.newAt ((w.alloc (.cells #[.string (bs n1),.string (bs e1)] 26)).alloc (.cells #[.string (bs n2),.string (bs e2)] 26)) 26 #[.string ⟨#[]⟩,.string ⟨#[]⟩] (w.heap.size+1+1) (by simp));have HB2:=qh ((Blk.newAt (w.alloc (.cells #[.string (bs n1),.string (bs e1)] 26)) 26 #[.string (bs n2),.string (bs e2)] (w.heap.size+1) (by simp)).alloc (.cells #[.string ⟨#[]⟩,.string ⟨#[]⟩] 26));have HX0:Hid (Ext w (((w.alloc (.cells #[.string (bs n1),.string (bs e1)] 26)).alloc (.cells #[.string (bs n2),.string (bs e2)] 26)).alloc (.cells #[.string ⟨#[]⟩,.string ⟨#[]⟩] 26))):=qh (((Ext.new _ _).alloc _).alloc _);go_enter Tryz.func94,Tryz.ntmps94;go_wp2_with fail;refine(HP1.out _ (HE.out.ext HX0.out)).mono ?_;rintro e w1⟨rfl,hx1⟩;obtain⟨q0,q1,_,_⟩:=ah HB2.out hx1;replace HB:=qh (HB.out.ext hx1);have HX:=HX0.qt hx1;clear hx1;go_wp2_with fail;refine(HP2.out _ (HE.out.ext HX.out)).mono ?_;rintro e w2⟨rfl,hx1⟩;replace HB:=qh (HB.out.ext hx1);replace HX:=HX.qt hx1;clear hx1;go_wp2_with fail;refine(HO.out _ (HE.out.ext HX.out) (HM.out.ext HX.out)).mono ?_;rintro e w3⟨rfl,hx1⟩;replace HB:=qh (HB.out.ext hx1);replace HX:=HX.qt hx1;clear hx1;go_wp2_with fail;refine(HMD.out _ (HE.out.ext HX.out)).mono ?_;rintro e w4⟨rfl,hx1⟩;obtain⟨q0,q1,f0,f1⟩:=ah HB.out hx1;replace HB:=qh (HB.out.ext hx1);replace HX:=HX.qt hx1;clear hx1;go_wp2_with fail;refine bodyPost_ret (dQ rfl _ _ (w.heap.size+1+1) (.string (bs r.num)) (.string (bs r.den)) rfl ((HB.out.set_ 0 _).set_ 1 _)) rfl ?_;exact⟨rfl,(HX.out.setCell (p:=⟨w.heap.size+1+1,0,none⟩) (by show w.heap.size≤w.heap.size+1+1;omega) _).setCell (p:=⟨w.heap.size+1+1,1,none⟩) (by show w.heap.size≤w.heap.size+1+1;omega) _⟩
theorem Dx(a b c d:Value)(W:World):(Instr.index 156 (.agg #[a,b,c,d]) (.int .i64 0)).run Tryz.prog W = .ok a W:=by kernel_rfl
theorem IG(f h:Fr)(h1:f.num.length≤20000)(h2:f.den.length≤20000)(h3:h.num.length≤20000)(h4:h.den.length≤20000) :
  bc 37 #[fv f,fv h] (fv (bz (aj f+aj h))):=by
 intro w hE;have HE:=qh hE;have hd1:(dn f).length≤30000:=iC f (by omega) (by omega);have hd2:(dn h).length≤30000:=iC h (by omega) (by omega);have hden:(ofI (valI (dn f)*valI (dn h))).length≤90000:=by have:=gj hd1 hd2;omega
 have hnum:(ofI (valI f.num*valI (dn h)+valI h.num*valI (dn f))).length≤90000:=by
  have k1:=eK (aF (Nat.le_trans h1 (by omega:20000≤30000))) (aF hd2);have k2:=eK (aF (Nat.le_trans h3 (by omega:20000≤30000))) (aF hd1);rw[←Int.natAbs_mul]at k1 k2;have:=bu (Nat.lt_of_le_of_lt (Int.natAbs_add_le (valI f.num*valI (dn h)) (valI h.num*valI (dn f))) (gV k1 k2));omega
 have HA:=qh (fun g=>mN 161 g (fun _ _=>by rfl) f h _ _ (by omega) (by omega) (Dw g f.num (dn f) h.num (dn h) (by omega) hd1 (by omega) hd2) hnum hden (by rw[ag,dA,dA];exact Int.mul_ne_zero (eT f) (eT h)))
 have he:Rat.divInt (valI f.num*valI (dn h)+valI h.num*valI (dn f)) (valI (dn f)*valI (dn h))=aj f+aj h:=by
  rw[dA,dA];exact(Rat.divInt_add_divInt _ _ (eT f) (eT h)).symm
 simp only[ag,he]at HA;generalize bz (aj f+aj h)=r at *;obtain⟨n1,e1⟩:=f;obtain⟨n2,e2⟩:=h;clear hE hd1 hd2 hden hnum he h1 h2 h3 h4;have hix:=Dx;have hn1:w.heap.size≠w.heap.size+1+1:=by omega
 have hn2:w.heap.size+1+1≠w.heap.size:=by omega
 have hn3:¬ (w.heap.size=w.heap.size+1+1):=by omega
 have HB:=qh (Blk.newAt ((w.alloc (.cells #[.string (bs n1),.string (bs e1)] 26)).alloc (.cells #[.string (bs n2),.string (bs e2)] 26)) 26 #[.string ⟨#[]⟩,.string ⟨#[]⟩] (w.heap.size+1+1) (by simp));have HB2:=qh ((Blk.newAt (w.alloc (.cells #[.string (bs n1),.string (bs e1)] 26)) 26 #[.string (bs n2),.string (bs e2)] (w.heap.size+1) (by simp)).alloc (.cells #[.string ⟨#[]⟩,.string ⟨#[]⟩] 26));have HB1:=qh (((Blk.new w 26 #[.string (bs n1),.string (bs e1)]).alloc (.cells #[.string (bs n2),.string (bs e2)] 26)).alloc (.cells #[.string ⟨#[]⟩,.string ⟨#[]⟩] 26));have HX:Hid (Ext w (((w.alloc (.cells #[.string (bs n1),.string (bs e1)] 26)).alloc (.cells #[.string (bs n2),.string (bs e2)] 26)).alloc (.cells #[.string ⟨#[]⟩,.string ⟨#[]⟩] 26))):=qh (((Ext.new _ _).alloc _).alloc _);go_enter Tryz.func37,Tryz.ntmps37;go_wp2_with fail;generalize ((w.alloc (.cells #[.string (bs n1),.string (bs e1)] 26)).alloc (.cells #[.string (bs n2),.string (bs e2)] 26)).alloc (.cells #[.string ⟨#[]⟩,.string ⟨#[]⟩] 26)=W0 at *;obtain⟨a0,a1,_,_⟩:=ah HB1.out (Ext.refl W0);obtain⟨b0,b1,_,_⟩:=ah HB2.out (Ext.refl W0);obtain⟨c0,c1,d0,d1⟩:=ah HB.out (Ext.refl W0);have HD:Hid (Ext W0 W0.drew):=qh (Ext.refl W0).drew
 go_region_held3 (fun w'=>w'.cell? ⟨w.heap.size,0,none⟩=some (.string (bs n1))∧w'.cell? ⟨w.heap.size,1,none⟩=some (.string (bs e1))∧w'.cell? ⟨w.heap.size+1,0,none⟩=some (.string (bs n2))∧w'.cell? ⟨w.heap.size+1,1,none⟩=some (.string (bs e2)))
  (go_keep)
  (first
   |(go_at_call 95;((with_reducible refine(pU _).mono ?_);rintro e w1⟨g,rfl,hx,hm⟩);(replace HD:=HD.qt hx);(have HM:=qh hm);(obtain⟨a2,a3,_,_⟩:=ah HB1.out HD.out);(obtain⟨b2,b3,_,_⟩:=ah HB2.out HD.out);(obtain⟨c2,c3,d2,d3⟩:=ah HB.out HD.out);clear hx hm)
   |(go_at_call 94;((with_reducible refine(HA.out _ _ (HE.out.ext (HX.out.trans HD.out)) HM.out).mono ?_);rintro e w2⟨rfl,hx⟩);(replace HD:=HD.qt hx);(obtain⟨a2,a3,_,_⟩:=ah HB1.out HD.out);(obtain⟨b2,b3,_,_⟩:=ah HB2.out HD.out);(obtain⟨c2,c3,d2,d3⟩:=ah HB.out HD.out);clear hx))
 all_goals
  go_wp2_with fail;refine bodyPost_ret (dQ rfl _ _ (w.heap.size+1+1) (.string (bs r.num)) (.string (bs r.den)) rfl (((HB.out.ext HD.out).set_ 0 _).set_ 1 _)) rfl ?_;exact⟨rfl,((HX.out.trans HD.out).setCell (p:=⟨w.heap.size+1+1,0,none⟩) (by show w.heap.size≤w.heap.size+1+1;omega) _).setCell (p:=⟨w.heap.size+1+1,1,none⟩) (by show w.heap.size≤w.heap.size+1+1;omega) _⟩
theorem Dy(a b c d:Value)(W:World):(Instr.index 156 (.agg #[a,b,c,d]) (.int .i64 1)).run Tryz.prog W = .ok b W:=by kernel_rfl
theorem uN(f h:Fr)(h1:f.num.length≤20000)(h2:f.den.length≤20000)(h3:h.num.length≤20000)(h4:h.den.length≤20000) :
  bc 97 #[fv f,fv h] (fv (bz (aj f-aj h))):=by
 intro w hE;have HE:=qh hE;have hd1:(dn f).length≤30000:=iC f (by omega) (by omega);have hd2:(dn h).length≤30000:=iC h (by omega) (by omega);have hden:(ofI (valI (dn f)*valI (dn h))).length≤90000:=by have:=gj hd1 hd2;omega
 have hnum:(ofI (valI f.num*valI (dn h)-valI h.num*valI (dn f))).length≤90000:=by
  have k1:=eK (aF (Nat.le_trans h1 (by omega:20000≤30000))) (aF hd2);have k2:=eK (aF (Nat.le_trans h3 (by omega:20000≤30000))) (aF hd1);rw[←Int.natAbs_mul]at k1 k2;have:=bu (Nat.lt_of_le_of_lt (Int.natAbs_sub_le (valI f.num*valI (dn h)) (valI h.num*valI (dn f))) (gV k1 k2));omega
 have HA:=qh (fun g=>mN 162 g (fun _ _=>by rfl) f h _ _ (by omega) (by omega) (B8 g f.num (dn f) h.num (dn h) (by omega) hd1 (by omega) hd2) hnum hden (by rw[ag,dA,dA];exact Int.mul_ne_zero (eT f) (eT h)))
 have he:Rat.divInt (valI f.num*valI (dn h)-valI h.num*valI (dn f)) (valI (dn f)*valI (dn h))=aj f-aj h:=by
  rw[dA,dA];exact(Rat.divInt_sub_divInt _ _ (eT f) (eT h)).symm
 simp only[ag,he]at HA;generalize bz (aj f-aj h)=r at *;obtain⟨n1,e1⟩:=f;obtain⟨n2,e2⟩:=h;clear hE hd1 hd2 hden hnum he h1 h2 h3 h4;have hix:=Dy;have hn1:w.heap.size≠w.heap.size+1+1:=by omega
 have hn2:w.heap.size+1+1≠w.heap.size:=by omega
 have hn3:¬ (w.heap.size=w.heap.size+1+1):=by omega
 have HB:=qh (Blk.newAt ((w.alloc (.cells #[.string (bs n1),.string (bs e1)] 26)).alloc (.cells #[.string (bs n2),.string (bs e2)] 26)) 26 #[.string ⟨#[]⟩,.string ⟨#[]⟩] (w.heap.size+1+1) (by simp));have HB2:=qh ((Blk.newAt (w.alloc (.cells #[.string (bs n1),.string (bs e1)] 26)) 26 #[.string (bs n2),.string (bs e2)] (w.heap.size+1) (by simp)).alloc (.cells #[.string ⟨#[]⟩,.string ⟨#[]⟩] 26));have HB1:=qh (((Blk.new w 26 #[.string (bs n1),.string (bs e1)]).alloc (.cells #[.string (bs n2),.string (bs e2)] 26)).alloc (.cells #[.string ⟨#[]⟩,.string ⟨#[]⟩] 26));have HX:Hid (Ext w (((w.alloc (.cells #[.string (bs n1),.string (bs e1)] 26)).alloc (.cells #[.string (bs n2),.string (bs e2)] 26)).alloc (.cells #[.string ⟨#[]⟩,.string ⟨#[]⟩] 26))):=qh (((Ext.new _ _).alloc _).alloc _);go_enter Tryz.func97,Tryz.ntmps97;go_wp2_with fail;generalize ((w.alloc (.cells #[.string (bs n1),.string (bs e1)] 26)).alloc (.cells #[.string (bs n2),.string (bs e2)] 26)).alloc (.cells #[.string ⟨#[]⟩,.string ⟨#[]⟩] 26)=W0 at *;obtain⟨a0,a1,_,_⟩:=ah HB1.out (Ext.refl W0);obtain⟨b0,b1,_,_⟩:=ah HB2.out (Ext.refl W0);obtain⟨c0,c1,d0,d1⟩:=ah HB.out (Ext.refl W0);have HD:Hid (Ext W0 W0.drew):=qh (Ext.refl W0).drew
 go_region_held3 (fun w'=>w'.cell? ⟨w.heap.size,0,none⟩=some (.string (bs n1))∧w'.cell? ⟨w.heap.size,1,none⟩=some (.string (bs e1))∧w'.cell? ⟨w.heap.size+1,0,none⟩=some (.string (bs n2))∧w'.cell? ⟨w.heap.size+1,1,none⟩=some (.string (bs e2)))
  (go_keep)
  (first
   |(go_at_call 95;((with_reducible refine(pU _).mono ?_);rintro e w1⟨g,rfl,hx,hm⟩);(replace HD:=HD.qt hx);(have HM:=qh hm);(obtain⟨a2,a3,_,_⟩:=ah HB1.out HD.out);(obtain⟨b2,b3,_,_⟩:=ah HB2.out HD.out);(obtain⟨c2,c3,d2,d3⟩:=ah HB.out HD.out);clear hx hm)
   |(go_at_call 94;((with_reducible refine(HA.out _ _ (HE.out.ext (HX.out.trans HD.out)) HM.out).mono ?_);rintro e w2⟨rfl,hx⟩);(replace HD:=HD.qt hx);(obtain⟨a2,a3,_,_⟩:=ah HB1.out HD.out);(obtain⟨b2,b3,_,_⟩:=ah HB2.out HD.out);(obtain⟨c2,c3,d2,d3⟩:=ah HB.out HD.out);clear hx))
 all_goals
  go_wp2_with fail;refine bodyPost_ret (dQ rfl _ _ (w.heap.size+1+1) (.string (bs r.num)) (.string (bs r.den)) rfl (((HB.out.ext HD.out).set_ 0 _).set_ 1 _)) rfl ?_;exact⟨rfl,((HX.out.trans HD.out).setCell (p:=⟨w.heap.size+1+1,0,none⟩) (by show w.heap.size≤w.heap.size+1+1;omega) _).setCell (p:=⟨w.heap.size+1+1,1,none⟩) (by show w.heap.size≤w.heap.size+1+1;omega) _⟩
theorem Dz(a b c d:Value)(W:World):(Instr.index 156 (.agg #[a,b,c,d]) (.int .i64 2)).run Tryz.prog W = .ok c W:=by kernel_rfl
theorem pV(f h:Fr)(h1:f.num.length≤20000)(h2:f.den.length≤20000)(h3:h.num.length≤20000)(h4:h.den.length≤20000) :
  bc 38 #[fv f,fv h] (fv (bz (aj f*aj h))):=by
 intro w hE;have HE:=qh hE;have hd1:(dn f).length≤30000:=iC f (by omega) (by omega);have hd2:(dn h).length≤30000:=iC h (by omega) (by omega);have hden:(ofI (valI (dn f)*valI (dn h))).length≤90000:=by have:=gj hd1 hd2;omega
 have hnum:(ofI (valI f.num*valI h.num)).length≤90000:=by have:=gj h1 h3;omega
 have HA:=qh (fun g=>mN 163 g (fun _ _=>by rfl) f h _ _ (by omega) (by omega) (Cb g f.num (dn f) h.num (dn h) (by omega) hd1 (by omega) hd2) hnum hden (by rw[ag,dA,dA];exact Int.mul_ne_zero (eT f) (eT h)))
 have he:Rat.divInt (valI f.num*valI h.num) (valI (dn f)*valI (dn h))=aj f*aj h:=by
  rw[dA,dA];exact(Rat.divInt_mul_divInt _ _).symm
 simp only[ag,he]at HA;generalize bz (aj f*aj h)=r at *;obtain⟨n1,e1⟩:=f;obtain⟨n2,e2⟩:=h;clear hE hd1 hd2 hden hnum he h1 h2 h3 h4;have hix:=Dz;have hn1:w.heap.size≠w.heap.size+1+1:=by omega
 have hn2:w.heap.size+1+1≠w.heap.size:=by omega
 have hn3:¬ (w.heap.size=w.heap.size+1+1):=by omega
 have HB:=qh (Blk.newAt ((w.alloc (.cells #[.string (bs n1),.string (bs e1)] 26)).alloc (.cells #[.string (bs n2),.string (bs e2)] 26)) 26 #[.string ⟨#[]⟩,.string ⟨#[]⟩] (w.heap.size+1+1) (by simp));have HB2:=qh ((Blk.newAt (w.alloc (.cells #[.string (bs n1),.string (bs e1)] 26)) 26 #[.string (bs n2),.string (bs e2)] (w.heap.size+1) (by simp)).alloc (.cells #[.string ⟨#[]⟩,.string ⟨#[]⟩] 26));have HB1:=qh (((Blk.new w 26 #[.string (bs n1),.string (bs e1)]).alloc (.cells #[.string (bs n2),.string (bs e2)] 26)).alloc (.cells #[.string ⟨#[]⟩,.string ⟨#[]⟩] 26));have HX:Hid (Ext w (((w.alloc (.cells #[.string (bs n1),.string (bs e1)] 26)).alloc (.cells #[.string (bs n2),.string (bs e2)] 26)).alloc (.cells #[.string ⟨#[]⟩,.string ⟨#[]⟩] 26))):=qh (((Ext.new _ _).alloc _).alloc _);go_enter Tryz.func38,Tryz.ntmps38;go_wp2_with fail;generalize ((w.alloc (.cells #[.string (bs n1),.string (bs e1)] 26)).alloc (.cells #[.string (bs n2),.string (bs e2)] 26)).alloc (.cells #[.string ⟨#[]⟩,.string ⟨#[]⟩] 26)=W0 at *;obtain⟨a0,a1,_,_⟩:=ah HB1.out (Ext.refl W0);obtain⟨b0,b1,_,_⟩:=ah HB2.out (Ext.refl W0);obtain⟨c0,c1,d0,d1⟩:=ah HB.out (Ext.refl W0);have HD:Hid (Ext W0 W0.drew):=qh (Ext.refl W0).drew
 go_region_held3 (fun w'=>w'.cell? ⟨w.heap.size,0,none⟩=some (.string (bs n1))∧w'.cell? ⟨w.heap.size,1,none⟩=some (.string (bs e1))∧w'.cell? ⟨w.heap.size+1,0,none⟩=some (.string (bs n2))∧w'.cell? ⟨w.heap.size+1,1,none⟩=some (.string (bs e2)))
  (go_keep)
  (first
   |(go_at_call 95;((with_reducible refine(pU _).mono ?_);rintro e w1⟨g,rfl,hx,hm⟩);(replace HD:=HD.qt hx);(have HM:=qh hm);(obtain⟨a2,a3,_,_⟩:=ah HB1.out HD.out);(obtain⟨b2,b3,_,_⟩:=ah HB2.out HD.out);(obtain⟨c2,c3,d2,d3⟩:=ah HB.out HD.out);clear hx hm)
   |(go_at_call 94;((with_reducible refine(HA.out _ _ (HE.out.ext (HX.out.trans HD.out)) HM.out).mono ?_);rintro e w2⟨rfl,hx⟩);(replace HD:=HD.qt hx);(obtain⟨a2,a3,_,_⟩:=ah HB1.out HD.out);(obtain⟨b2,b3,_,_⟩:=ah HB2.out HD.out);(obtain⟨c2,c3,d2,d3⟩:=ah HB.out HD.out);clear hx))
 all_goals
  go_wp2_with fail;refine bodyPost_ret (dQ rfl _ _ (w.heap.size+1+1) (.string (bs r.num)) (.string (bs r.den)) rfl (((HB.out.ext HD.out).set_ 0 _).set_ 1 _)) rfl ?_;exact⟨rfl,((HX.out.trans HD.out).setCell (p:=⟨w.heap.size+1+1,0,none⟩) (by show w.heap.size≤w.heap.size+1+1;omega) _).setCell (p:=⟨w.heap.size+1+1,1,none⟩) (by show w.heap.size≤w.heap.size+1+1;omega) _⟩
theorem lL(f h:Fr)(h1:f.num.length≤20000)(h2:f.den.length≤20000)(h3:h.num.length≤20000)(h4:h.den.length≤20000) :
  bc 39 #[fv f,fv h] (.int .i64 (bN (aj f) (aj h))):=by
 intro w hE;have HE:=qh hE;have HS:=qh (uN f h h1 h2 h3 h4);have hq:=(fm h1 h2 (by omega)).sub (fm h3 h4 (by omega));have hl1:=hq.num_len;have hl2:=hq.den_len;have HP:=qh (ic (bz (aj f-aj h)) (by omega));have HC:=qh (gk (bz (aj f-aj h)).num (by omega));rw[show valI (bz (aj f-aj h)).num=(aj f-aj h).num from uC _,yY]at HC;clear hq hl1 hl2;generalize bN (aj f) (aj h)=cc at *;generalize dn (bz (aj f-aj h))=dd at *;generalize bz (aj f-aj h)=r at *;obtain⟨n1,e1⟩:=f;obtain⟨n2,e2⟩:=h;clear hE h1 h2 h3 h4;have HX0:Hid (Ext w ((w.alloc (.cells #[.string (bs n1),.string (bs e1)] 26)).alloc (.cells #[.string (bs n2),.string (bs e2)] 26))):=qh ((Ext.new _ _).alloc _);go_enter Tryz.func39,Tryz.ntmps39;go_wp2_with fail;refine(HS.out _ (HE.out.ext HX0.out)).mono ?_;rintro e w1⟨rfl,hx1⟩;have HX:=HX0.qt hx1;clear hx1;go_wp2_with fail;refine(HP.out _ (HE.out.ext HX.out)).mono ?_;rintro e w2⟨rfl,hx1⟩;replace HX:=HX.qt hx1;clear hx1;go_wp2_with fail;refine(HC.out _ (HE.out.ext HX.out)).mono ?_;rintro e w3⟨rfl,hx1⟩;replace HX:=HX.qt hx1;clear hx1;go_wp2_with fail;go_ret;exact⟨rfl,HX.out⟩
end
section
open Go.RowKit
def cj(q:Rat):Int :=
 let lo:=q.num / (q.den:Int)
 let re:=q.num % (q.den:Int)
 if 2*re<q.den then lo else if 2*re=q.den then(if lo % 2=0 then lo else lo+1) else lo+1
theorem sP(q:Rat):let lo:=q.num / (q.den:Int);let re:=q.num % (q.den:Int)
  (re+re<q.den→cj q=lo)∧(re+re=q.den→lo % 2=0→cj q=lo)∧(re+re=q.den→lo % 2≠0→cj q=lo+1)∧((q.den:Int)<re+re→cj q=lo+1):=by
 simp only;unfold cj;simp only;refine⟨fun h=>?_,fun h h2=>?_,fun h h2=>?_,fun h=>?_⟩
 ·rw[if_pos (by omega)]
 ·rw[if_neg (by omega),if_pos (by omega),if_pos h2]
 ·rw[if_neg (by omega),if_pos (by omega),if_neg h2]
 ·rw[if_neg (by omega),if_neg (by omega)]
theorem ui(q:Rat):q-1 / 2≤(cj q:Rat)∧(cj q:Rat)≤q+1 / 2:=by
 have hd:(0:Int)<q.den:=by have:=q.den_pos;omega
 have h1:=Int.mul_ediv_add_emod q.num (q.den:Int);have h2:=Int.emod_nonneg q.num (b:=(q.den:Int)) (by omega);have h3:=Int.emod_lt_of_pos q.num hd
 have key:(q.num:Int)*2-q.den≤cj q*2*q.den∧cj q*2*q.den≤q.num*2+q.den:=by
  unfold cj;simp only;generalize q.num / (q.den:Int)=lo at *;generalize q.num % (q.den:Int)=re at *;generalize (q.den:Int)=d at *;rw[←h1];have e1:lo*2*d=2*(d*lo):=by rw[Int.mul_comm d lo,Int.mul_assoc,Int.mul_comm 2 d,←Int.mul_assoc,Int.mul_comm 2]
  have e2:(lo+1)*2*d=2*(d*lo)+2*d:=by rw[Int.add_mul,Int.add_mul,e1];omega
  split
  ·rw[e1];omega
  ·split
   ·split
    ·rw[e1];omega
    ·rw[e2];omega
   ·rw[e2];omega
 have hq:q=(q.num:Rat) / ((q.den:Int):Rat):=by
  rw[←Rat.divInt_eq_div,Rat.num_divInt_den]
 have hdR:(0:Rat)<((q.den:Int):Rat):=Rat.intCast_pos.2 hd
 have k1:((q.num:Rat))*2-((q.den:Int):Rat)≤(cj q:Rat)*2*((q.den:Int):Rat):=by
  have:=Rat.intCast_le_intCast.2 key.1;simpa using this
 have k2:(cj q:Rat)*2*((q.den:Int):Rat)≤(q.num:Rat)*2+((q.den:Int):Rat):=by
  have:=Rat.intCast_le_intCast.2 key.2;simpa using this
 have hm:q*((q.den:Int):Rat)=(q.num:Rat):=by
  conv=>lhs;lhs;rw[hq]
  exact Rat.div_mul_cancel (by grind)
 generalize (cj q:Rat)=r at *;generalize ((q.den:Int):Rat)=d at *;generalize (q.num:Rat)=n at *;constructor
 ·refine Rat.le_of_mul_le_mul_right (c:=d) ?_ hdR;rw[←hm]at k1;grind
 ·refine Rat.le_of_mul_le_mul_right (c:=d) ?_ hdR;rw[←hm]at k2;grind
theorem vM{q:Rat}{L:Nat}(h:QB L q):(cj q).natAbs<10 ^ (L+1):=by
 have hd:(0:Int)<q.den:=by have:=q.den_pos;omega
 have h1:=Int.natAbs_ediv_le_natAbs q.num (q.den:Int)
 have h2:(cj q).natAbs≤(q.num / (q.den:Int)).natAbs+1:=by
  unfold cj;simp only;split
  ·omega
  ·split
   ·split <;> omega
   ·omega
 have h3:=h.1;have h4:0<10 ^ L:=Nat.pow_pos (by decide);rw[Nat.pow_succ];omega
theorem ie{q:Rat}{L:Nat}(h:QB L q):(ofI (cj q)).length≤L+2:=bu (vM h)
end
section
open Go.RowKit
attribute [local go_sem] size_bs toList_bs
theorem sQ:valI [50]=2:=by decide +kernel
theorem Cd(a:Bs)(ha:a.length≤90000):bc 145 #[.string (bs a)] (.bool (decide (valI a % 2=0))):=by
 intro w hE;have HE:=qh hE;have hd:=mK a [50] (by omega) (by simp) (by rw[sQ];decide);rw[sQ,ou (by decide)]at hd;have HD:=qh hd
 have HQ:Hid (decide (valI a % 2=0)=(ofI (valI a % 2) == [])):=qh (by
  rw[Bool.eq_iff_iff,decide_eq_true_iff,beq_iff_eq,dr])
 rw[HQ.out];generalize ofI (valI a % 2)=m at *;generalize eS (valI a) 2=q at *;clear hd hE HQ;go_enter Tryz.func145,Tryz.ntmps145;go_wp2_with fail;refine(HD.out _ HE.out).mono ?_;rintro e w1⟨rfl,hx1⟩;have HX:=qh hx1;clear hx1;go_wp2_with fail;go_ret;exact⟨by cases m <;> rfl,HX.out⟩
theorem zn(f:Fr)(h1:f.num.length≤80000)(h2:f.den.length≤80000):bc 83 #[fv f,.int .i64 1] (.tuple #[.string (bs (ofI (cj (aj f)))),.int .i64 0]):=by
 intro w hE;have HE:=qh hE;have HP:=qh (vK f h1 h2);have hq:=fm (L:=80000) h1 h2 (by omega);have hn1:=bu hq.1;have hd1:(ofI ((aj f).den:Int)).length≤80000+1:=bu (by rw[Int.natAbs_natCast];exact hq.2);have hdp:=(aj f).den_pos;have hdv:=mK (ofI (aj f).num) (ofI ((aj f).den:Int)) (by omega) (by omega) (by rw[ag];omega);rw[ag,ag,gY (by omega),ou (by omega)]at hdv;have HD:=qh hdv;have hfl:(ofI ((aj f).num / ((aj f).den:Int))).length≤80001:=bu (Nat.lt_of_le_of_lt (Int.natAbs_ediv_le_natAbs _ _) hq.1)
 have hrl:(ofI ((aj f).num % ((aj f).den:Int))).length≤80001:=bu (by
  have a:=Int.emod_nonneg (aj f).num (b:=((aj f).den:Int)) (by omega);have b:=Int.emod_lt_of_pos (aj f).num (b:=((aj f).den:Int)) (by omega);have:=hq.2;omega)
 have ha1:=fS (ofI ((aj f).num / ((aj f).den:Int))) [49] (by omega) (by simp);rw[ag,i6]at ha1;have HA1:=qh ha1;have ha2:=fS (ofI ((aj f).num % ((aj f).den:Int))) (ofI ((aj f).num % ((aj f).den:Int))) (by omega) (by omega);rw[ag]at ha2;have HA2:=qh ha2;have hc1:=gk (ofI (aj f).num) (by omega);have HC1:=qh hc1
 have h2r:(ofI ((aj f).num % ((aj f).den:Int)+(aj f).num % ((aj f).den:Int))).length≤90000:=by
  have:=j8 (x:=ofI ((aj f).num % ((aj f).den:Int))) (y:=ofI ((aj f).num % ((aj f).den:Int))) hrl hrl;rw[ag]at this;omega
 have hc2:=cmpP (ofI ((aj f).num % ((aj f).den:Int)+(aj f).num % ((aj f).den:Int))) (ofI ((aj f).den:Int)) (by omega) (by omega);rw[ag,ag]at hc2;have HC2:=qh hc2;have he:=Cd (ofI ((aj f).num / ((aj f).den:Int))) (by omega);rw[ag]at he;have HEV:=qh he;have HR:=qh (sP (aj f));clear hE hq hn1 hd1 hdv hfl hrl ha1 ha2 hc1 h2r hc2 he h1 h2;generalize cj (aj f)=z at *;have hdp0:(0:Int)<((aj f).den:Int):=by omega
 clear hdp;generalize ((aj f).den:Int)=d at *;generalize (aj f).num=n at *;generalize hlo:n / d=lo at *;have hre1:=Int.emod_nonneg n (b:=d) (by omega);generalize hre:n % d=re at *;have hre2:0≤re:=hre1;clear hlo hre hre1;obtain⟨fn,fd⟩:=f;have HX0:Hid (Ext w (w.alloc (.cells #[.string (bs fn),.string (bs fd)] 26))):=qh (Ext.new _ _)
 have hre0:(!(ofI re).isEmpty)=!(decide (re=0)):=by
  by_cases h:re=0
  ·rw[h,dr.2 rfl];rfl
  ·have:ofI re≠[]:=fun h'=>h (dr.1 h')
   simp[h,this]
 have HRE:=qh hre0;clear hre0;have hdp:0<d:=hdp0;go_enter Tryz.func83,Tryz.ntmps83;go_wp2_with fail;refine(HP.out _ (HE.out.ext HX0.out)).mono ?_;rintro e w1⟨rfl,hx1⟩;have HX:=HX0.qt hx1;clear hx1;go_wp2_with fail;refine(HD.out _ (HE.out.ext HX.out)).mono ?_;rintro e w2⟨rfl,hx1⟩;replace HX:=HX.qt hx1;clear hx1;have hcs:0≤re:=hre2;by_cases hr0:re=0
 ·have hrb:(!(ofI re).isEmpty)=false:=by rw[HRE.out];simp[hr0]
  have hr1:re≤0:=by omega
  clear hr0;have hr0:=hr1;go_wp2_with fail;refine(HC1.out _ (HE.out.ext HX.out)).mono ?_;rintro e w3⟨rfl,hx1⟩;replace HX:=HX.qt hx1;clear hx1;go_wp2_with fail;refine(HA2.out _ (HE.out.ext HX.out)).mono ?_;rintro e w4⟨rfl,hx1⟩;replace HX:=HX.qt hx1;clear hx1;go_wp2_with fail;refine(HC2.out _ (HE.out.ext HX.out)).mono ?_;rintro e w5⟨rfl,hx1⟩;replace HX:=HX.qt hx1;clear hx1;have g1:decide (0<cmpI (re+re) d)=false:=by rw[decide_eq_false_iff_not,gW];omega
  have g2:(cmpI (re+re) d == 0)=false:=by rw[beq_eq_false_iff_ne,Ne,eZ];omega
  have HZ:Hid (z=lo):=qh (HR.out.1 (by omega));generalize cmpI (re+re) d=hf at *;clear hdp HRE HR hcs hr0 hr1;go_wp2_with fail;go_ret2;exact⟨by rw[HZ.out];rfl,HX.out⟩
 ·have hrb:(!(ofI re).isEmpty)=true:=by rw[HRE.out];simp[hr0]
  go_wp2_with fail;refine(HA1.out _ (HE.out.ext HX.out)).mono ?_;rintro e w3⟨rfl,hx1⟩;replace HX:=HX.qt hx1;clear hx1;go_wp2_with fail;refine(HC1.out _ (HE.out.ext HX.out)).mono ?_;rintro e w4⟨rfl,hx1⟩;replace HX:=HX.qt hx1;clear hx1;go_wp2_with fail;refine(HA2.out _ (HE.out.ext HX.out)).mono ?_;rintro e w5⟨rfl,hx1⟩;replace HX:=HX.qt hx1;clear hx1;go_wp2_with fail;refine(HC2.out _ (HE.out.ext HX.out)).mono ?_;rintro e w7⟨rfl,hx1⟩;replace HX:=HX.qt hx1;clear hx1;rcases Int.lt_trichotomy (re+re) d with hlt|hlt|hlt
  ·have g1:decide (0<cmpI (re+re) d)=false:=by rw[decide_eq_false_iff_not,gW];omega
   have g2:(cmpI (re+re) d == 0)=false:=by rw[beq_eq_false_iff_ne,Ne,eZ];omega
   have HZ:Hid (z=lo):=qh (HR.out.1 (by omega));generalize cmpI (re+re) d=hf at *;clear hdp HRE HR hcs hr0 hlt;go_wp2_with fail;go_ret2;exact⟨by rw[HZ.out];rfl,HX.out⟩
  ·by_cases hev:lo % 2=0
   ·have g1:decide (0<cmpI (re+re) d)=false:=by rw[decide_eq_false_iff_not,gW];omega
    have g2:(cmpI (re+re) d == 0)=true:=by rw[beq_iff_eq,eZ];omega
    have g3:decide (lo % 2=0)=true:=by rw[decide_eq_true_iff];exact hev
    have HZ:Hid (z=lo):=qh (HR.out.2.1 (by omega) hev);rw[g3]at HEV;generalize cmpI (re+re) d=hf at *;clear hdp HRE HR hcs hev g3 hr0 hlt;go_wp2_with fail;refine(HEV.out _ (HE.out.ext HX.out)).mono ?_;rintro e w6⟨rfl,hx1⟩;replace HX:=HX.qt hx1;clear hx1;go_wp2_with fail;go_ret2;exact⟨by rw[HZ.out];rfl,HX.out⟩
   ·have g1:decide (0<cmpI (re+re) d)=false:=by rw[decide_eq_false_iff_not,gW];omega
    have g2:(cmpI (re+re) d == 0)=true:=by rw[beq_iff_eq,eZ];omega
    have g3:decide (lo % 2=0)=false:=by rw[decide_eq_false_iff_not];exact hev
    have HZ:Hid (z=lo+1):=qh (HR.out.2.2.1 (by omega) hev);rw[g3]at HEV;generalize cmpI (re+re) d=hf at *;clear hdp HRE HR hcs hev g3 hr0 hlt;go_wp2_with fail;refine(HEV.out _ (HE.out.ext HX.out)).mono ?_;rintro e w6⟨rfl,hx1⟩;replace HX:=HX.qt hx1;clear hx1;go_wp2_with fail;go_ret2;exact⟨by rw[HZ.out];rfl,HX.out⟩
  ·have g1:decide (0<cmpI (re+re) d)=true:=by rw[decide_eq_true_iff,gW];omega
   have HZ:Hid (z=lo+1):=qh (HR.out.2.2.2 (by omega));generalize cmpI (re+re) d=hf at *;clear hdp HRE HR hcs hr0 hlt;go_wp2_with fail;go_ret2;exact⟨by rw[HZ.out];rfl,HX.out⟩
theorem xh(a:Bs)(ha:a.length≤90000):bc 289 #[.string (bs a)] (.bool (decide (valI a<0))):=by
 intro w hE;have HE:=qh hE;have HC:=qh (gk a (by omega));have HQ:Hid (decide (valI a<0)=decide (cmpI (valI a) 0<0)):=qh (by rw[Bool.eq_iff_iff,decide_eq_true_iff,decide_eq_true_iff,cC]);rw[HQ.out];generalize cmpI (valI a) 0=cc at *;clear hE HQ;go_enter Tryz.func289,Tryz.ntmps289;go_wp2_with fail;refine(HC.out _ HE.out).mono ?_;rintro e w1⟨rfl,hx1⟩;have HX:=qh hx1;clear hx1;go_wp2_with fail;go_ret;exact⟨rfl,HX.out⟩
end
section
open Go.RowKit Go.Shelf
attribute [local go_sem] size_bs toList_bs
structure LotsAt (w:World) (A:Option Addr) (ls:List LotV):Prop where
 rd:bp w A ls
 sm:∀x ∈ ls,bv x
 le:ls.length≤100000
end
section
open Go.RowKit Go.Shelf
attribute [local go_sem] size_bs toList_bs
theorem dR(z:Int):aq (ofI z)=0:=eE.2 (by rw[ag])
end
section
open Go.RowKit Go.Shelf
attribute [local go_sem] size_bs toList_bs
def aR(l:List Bs):Int:=(l.map valI).sum
theorem qQ(l:List Bs)(a:Bs):aR (l++[a])=aR l+valI a:=by simp[aR]
theorem kP(L:Nat)(l:List Bs)(hs:∀x ∈ l,x.length≤L)(hn:l.length≤100000):(ofI (aR l)).length≤L+7:=by
 have h:=pR valI (10 ^ L) l (fun x hx=>Nat.le_of_lt (aF (hs x hx)));have h2:l.length*10 ^ L≤10 ^ 5*10 ^ L:=Nat.mul_le_mul_right _ (by omega);have h4:10 ^ (L+6)=1000000*10 ^ L:=by rw[Nat.pow_add,Nat.mul_comm]
 have h5:0<10 ^ L:=Nat.pow_pos (by decide);exact bu (L:=L+6) (by unfold aR;omega)
theorem zo(l:List Bs)(k:Nat)(hs:∀x ∈ l,x.length≤4000)(hn:l.length≤100000):(ofI (aR (l.take k))).length≤4007 :=
 kP 4000 _ (fun x hx=>hs x (List.mem_of_mem_take hx)) (Nat.le_trans (by rw[List.length_take];exact Nat.min_le_right _ _) hn)
theorem sR(ls:List Bs)(A:Option Addr)(c:Nat)(w:World)(hE:Env w)(hA:RdS w A ls)(hs:∀x ∈ ls,x.length≤4000)(hn:ls.length≤100000) :
  Calls Tryz.prog 290 #[.slice A ls.length c] w fun e w'=>e = .returned (.string (bs (ofI (aR ls))))∧Ext w w':=by
 have HE:=qh hE;have HA:=qh hA;have HS:=qh hs;clear hE hA hs;have h0:(Value.string ⟨#[]⟩) = .string (bs (ofI (aR (ls.take 0)))):=by rw[show ofI (aR (ls.take 0))=[] from dr.2 rfl];rfl
 have H0:=qh h0;clear h0;go_enter Tryz.func290,Tryz.ntmps290;go_wp2_with fail;go_loopw [8,3,5] (fun i s _ wr=>∃k:Nat,k≤ls.length∧i = .int .i64 k∧s = .string (bs (ofI (aR (ls.take k))))∧Ext w wr) (fun i _ _ _=>ls.length-(intOf i).toNat)
 case atStart=>exact⟨0,by omega,rfl,H0.out,Ext.refl _⟩
 case round =>
  obtain⟨k,hk,rfl,rfl,hx⟩:=hrel;have HX:=qh hx;clear hx;by_cases hlt:k<ls.length
  ·obtain⟨b,o,rfl,hb,c0⟩:=(HA.out.ext HX.out).at_ hlt;have ha:=fS (ofI (aR (ls.take k))) (ls[k]'hlt) (by have:=zo ls k HS.out hn;omega) (by have:=HS.out _ (List.getElem_mem hlt);omega);rw[ag,←qQ,←List.take_succ_eq_append_getElem hlt]at ha;have HAD:=qh ha;clear ha;generalize (ls[k]'hlt)=x at *;generalize hz:ofI (aR (ls.take (k+1)))=z at *;have HZ:=qh hz;generalize ofI (aR (ls.take k))=y at *;clear hz;go_wp2_with fail;refine(HAD.out _ (HE.out.ext HX.out)).mono ?_;rintro e w1⟨rfl,hx1⟩;replace HX:=HX.qt hx1;clear hx1;go_wp2_with fail;go_roundw
   case rel=>exact⟨k+1,by omega,by go_num,by rw[HZ.out],HX.out⟩
   case measure=>simp[intOf];omega
  ·have HF:Hid (ls.take k=ls):=qh (List.take_of_length_le (by omega));go_wp2_with fail;go_ret;exact⟨by rw[HF.out];rfl,HX.out⟩
theorem xk(a:Bs)(ha:a.length≤4000)(hc:aq a=0)(h0:0≤valI a)(W:World)(hE:Env W):Calls Tryz.prog 288 #[.string (bs a)] W fun e w'=>e = .returned (.bool false)∧Ext W w':=by
 have k1:=lI a (by omega);rw[hc]at k1;have n1:=xh a (by omega);rw[show decide (valI a<0)=false by rw[decide_eq_false_iff_not];omega]at n1;have K1:=qh k1;have N1:=qh n1;have HE:=qh hE;clear k1 n1 hE hc h0;go_enter Tryz.func288,Tryz.ntmps288;go_wp2_with fail;refine(K1.out _ HE.out).mono ?_;rintro e w1⟨rfl,hx1⟩;have HX:=qh hx1;clear hx1;go_wp2_with fail;refine(N1.out _ (HE.out.ext HX.out)).mono ?_;rintro e w2⟨rfl,hx1⟩;replace HX:=HX.qt hx1;clear hx1;go_wp2_with fail;go_ret;exact⟨rfl,HX.out⟩
structure WtOK (ls:List Bs):Prop where
 pos:0<ls.length
 le:ls.length≤1000
 sm:∀x ∈ ls,x.length≤4000
 ok:∀x ∈ ls,aq x=0
 nn:∀x ∈ ls,0≤valI x
 sum:0<aR ls
theorem zt(t:Bs)(ls:List Bs)(A:Option Addr)(c:Nat)(w:World)(hE:Env w)(hA:RdS w A ls)(ht:t.length≤4000)(htc:aq t=0)(hW:WtOK ls) :
  Calls Tryz.prog 235 #[.string (bs t),.slice A ls.length c] w fun e w'=>e = .returned (.int .i64 0)∧Ext w w':=by
 have HE:=qh hE;have k1:=lI t (by omega);rw[htc]at k1;have K1:=qh k1;have HCF:=qh (fun W hx=>mM 288 #[] (fun _ _=>by rfl) (fun _=>false) ls A c W (hA.ext hx) (by have:=hW.le;omega) (fun a ha V hv=>xk a (hW.sm a ha) (hW.ok a ha) (hW.nn a ha) V ((hE.ext hx).ext hv)));rw[show ls.any (fun _=>false)=false by simp]at HCF;have HWH:=qh (fun W hx=>sR ls A c W (hE.ext hx) (hA.ext hx) hW.sm (by have:=hW.le;omega));have g1:((ls.length:Int) == 0)=false:=by rw[beq_eq_false_iff_ne];have:=hW.pos;omega
 have g2:decide (1000<(ls.length:Int))=false:=by rw[decide_eq_false_iff_not];have:=hW.le;omega
 have g3:(ofI (aR ls)).isEmpty=false:=by
  cases hh:ofI (aR ls) with
  |nil=>have:=dr.1 hh;have:=hW.sum;omega
  |cons _ _=>rfl
 clear hE hA k1 hW ht htc;generalize ofI (aR ls)=z at *;have HX:Hid (Ext w w):=qh (Ext.refl w);go_enter Tryz.func235,Tryz.ntmps235;go_wp2_with fail;refine(K1.out _ HE.out).mono ?_;rintro e w1⟨rfl,hx1⟩;replace HX:=HX.qt hx1;clear hx1;go_wp2_with fail;refine(HCF.out _ HX.out).mono ?_;rintro e w2⟨rfl,hx1⟩;replace HX:=HX.qt hx1;clear hx1;go_wp2_with fail;refine(HWH.out _ HX.out).mono ?_;rintro e w3⟨rfl,hx1⟩;replace HX:=HX.qt hx1;clear hx1;go_wp2_with fail;go_ret;exact⟨rfl,HX.out⟩
theorem uj{n:Nat}(h1:1≤n)(h:n≤100000000):Lib.parseIntB 64 (dig10 n) = .ok (n:Int):=by
 have hne:=kh (n:=n) (by omega);have hall:=fO n;have hval:=dY n;have hlen:=eY (g:=n) (L:=9) (by omega);have hp:=nF (dig10 n) hall hne hlen;rw[hval]at hp;generalize dig10 n=t at *;obtain⟨c,r,rfl⟩:=List.exists_cons_of_ne_nil hne;have hc:cF c=true:=by simp only[List.all_cons,Bool.and_eq_true]at hall;exact hall.1
 have hc2:=(fB c).1 hc;unfold Lib.parseIntB;simp only;rw[if_neg (by omega),hp];simp only;rw[if_neg (by omega),if_neg (by omega),if_neg (by omega)]
theorem o9(n:Nat):iu (ofI (n:Int))=if n=0 then [48] else dig10 n:=by
 unfold iu;rw[qA,ag];by_cases h:n=0
 ·subst h;rw[if_pos (show ofI ((0:Nat):Int)=[] from dr.2 rfl),if_pos rfl]
 ·rw[if_neg (by rw[dr];omega),if_neg h];unfold ofI;rw[if_neg (by omega)];simp
theorem uk{n:Nat}(h:n≤100000000):Lib.parseIntB 64 (iu (ofI (n:Int))) = .ok (n:Int):=by
 rw[o9];by_cases h0:n=0
 ·subst h0;decide +kernel
 ·rw[if_neg h0];exact uj (by omega) h
theorem DA(n:Nat)(h:n≤100000000):bc 315 #[.string (bs (ofI (n:Int)))] (.tuple #[.int .i64 (n:Int),.bool true]):=by
 intro w hE;have hl:(ofI (n:Int)).length≤10:=bu (L:=9) (by omega);have HP:=qh (fun W=>yQ (ofI (n:Int)) W (by omega))
 have hpl:(iu (ofI (n:Int))).length≤10:=by
  rw[o9];split
  ·simp
  ·have:=eY (g:=n) (L:=9) (by omega);omega
 have HI:=qh (fun W=>Tryz.strconv_ParseInt_10_at64_ok (bs (iu (ofI (n:Int)))) (by rw[size_bs];omega) n (by rw[data_bs];exact uk h) W);generalize iu (ofI (n:Int))=p at *;generalize ofI (n:Int)=z at *;clear hE;go_enter Tryz.func315,Tryz.ntmps315;go_wp2_with fail;refine(HP.out _).mono ?_;rintro e w1⟨rfl,hx1⟩;have HX:=qh hx1;clear hx1;go_wp2_with fail;refine(HI.out _).mono ?_;rintro e w2⟨rfl,hx⟩
 have hx2:Ext w1 w2:=by
  rcases hx with rfl | ⟨t,rfl⟩
  ·exact Ext.refl _
  ·exact qO _ _ _
 replace HX:=HX.qt hx2;clear hx hx2;go_wp2_with fail;go_ret2;exact⟨rfl,HX.out⟩
end
end Go.Proofs.YthgpheopnhajaaaGreatDoor
