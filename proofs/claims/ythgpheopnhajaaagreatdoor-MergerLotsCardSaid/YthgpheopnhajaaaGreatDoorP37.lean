/- Part. -/
import Derived.Test.YthgpheopnhajaaaGreatDoorP32
set_option maxRecDepth 100000
set_option maxHeartbeats 8000000
namespace Go.Proofs.YthgpheopnhajaaaGreatDoor
section
open Go.RowKit Go.Shelf
attribute [local go_sem] size_bs toList_bs append_bs append_lit Oper.semAt_some
theorem AU(w:World)(ls:List LotV)(A:Option Addr)(c:Nat)(f:FactV)(ps:List Fr)(os:List OptV)(pa:Option Addr)(pc oq ch:Nat)(o:OptV)(N cash cs:Bs)(fr:Fr)(qty:Bs)(A':Option Addr)(c':Nat)(bo oo G9 G12 G18 G21:Nat)(W9 W11:World)(B0 B1 B2 B3:Nat)(basis oth:Bs)(olds:List LotV)(ns pp kk:List Bs)(vl:Value)(fn:FuncId)(lp:Loop)
  {eQ ge gt iD lE nE Eq Ge Gt GT Id ID Jv Jw Jx Jy Jz JA JB JC JD JE JF JG JH JI JJ JK JL JM JN JO JP JQ JR JS JT JU JV JW JX JY JZ J0 J1 J2 J3 J4 J5 J6 J7 J8 J9 Ka Kb Kc Kd Ke Kf Kg Kh Ki Kj Kk Kl Km Kn Ko Kp Kq Kr Ks Kt Ku Kv Kw Kx Ky Kz KA KD KE KF KG KH KJ KL KM KO KP KQ KR KS KT KU KV KW KX KY KZ K0 K4 K5 K6 K7 K8 K9 Lb Lc Ld Le Lf Lg Lh Li Lj Lk Ll Lm Ln Lo Lp Lq Lr Ls Lt Lu Lv Lw Lx Ly Lz LA LB LC LD LE LH LI LJ LK LM LO LQ LR LS LT LU LV LW LZ L0 L4 L5 L6 L7 L8 L9 Ma Mb Mc Md Me Mf Mg Mh Mi Mj Mk Ml Mm Mn Mo Mp Mq Mr Ms Mt Mu Mv Mw Mx My Mz MA MB MC MD ME MF MG MH MI MJ MK ML MM MN MO MP MQ MR MS MU MV MW MX MY MZ M2 M3 M4 M5 M6 M7 M8 M9 Na Nb Nc Nd Nf:Value}
  (HKL:Hid (f.key.length≤9000)) (HE:Hid (Env w)) (HOO:Hid (aN o f.ins N=oth)) (HSO:Hid (∀x ∈ olds,bv x)) (HOn:Hid (olds.length≤1000)) (HN21:Hid (G12<G21∧W9.heap.size≤G21)) (hUV:Hid (G18≠G21∧G18≠G21+1∧G21≠G21+1)) (HUw:Hid (w.heap.size≤G18∧w.heap.size≤G21))
  (HX:Hid (Ext w W11)) (HF:Hid (Blk W11 w.heap.size 30 (af f (ac pa ps.length pc) (ac (some ⟨bo,oo,none⟩) os.length oq)))) (HP:Hid (Blk W11 G9 50 (oc o))) (HN:Hid (Blk W11 G12 24 #[.string (bs N)]))
  (HUr:Hid (Blk W11 G18 rT #[vl,.slice none 0 0,.slice none 0 0,.slice none 0 0])) (HV:Hid (Blk W11 G21 22 #[.slice none 0 0])) (HZ:Hid (Blk W11 (G21+1) 24 #[.string ⟨#[]⟩]))
  (HKK:Hid (∀b ∈ kk,b.length≤5000)) (HLn:Hid (ns.length=olds.length∧pp.length=olds.length∧kk.length=olds.length))
  (hlp:lp=eF fn (nA w ls A c f ps os pa pc oq ch o N cash cs fr qty A' c' bo oo G9 G12 G18 G21 B0 B1 B2 B3 basis oth olds eQ ge gt iD lE nE Eq Ge Gt GT Id ID Jv Jw Jx Jy Jz JA JB JC JD JE JF JG JH JI JJ JK JL JM JN JO JP JQ JR JS JT JU JV JW JX JY JZ J0 J1 J2 J3 J4 J5 J6 J7 J8 J9 Ka Kb Kc Kd Ke Kf Kg Kh Ki Kj Kk Kl Km Kn Ko Kp Kq Kr Ks Kt Ku Kv Kw Kx Ky Kz KA KD KE KF KG KH KJ KL KM KO KP KQ KR KS KT KU KV KW KX KY KZ K0 K4 K5 K6 K7 K8 K9 Lb Lc Ld Le Lf Lg Lh Li Lj Lk Ll Lm Ln Lo Lp Lq Lr Ls Lt Lu Lv Lw Lx Ly Lz LA LB LC LD LE LH LI LJ LK LM LO LQ LR LS LT LU LV LW LZ L0 L4 L5 L6 L7 L8 L9 Ma Mb Mc Md Me Mf Mg Mh Mi Mj Mk Ml Mm Mn Mo Mp Mq Mr Ms Mt Mu Mv Mw Mx My Mz MA MB MC MD ME MF MG MH MI MJ MK ML MM MN MO MP MQ MR MS MU MV MW MX MY MZ M2 M3 M4 M5 M6 M7 M8 M9 Na Nb Nc Nd Nf) #[135] jk lY W11.heap.size) (hN0:N≠[])
  (k:Nat) (hk:k<olds.length) (hn0:ns[k]'(by have:=HLn.out.1;omega)≠[]) (W:World) (hJ:dL W11 G18 G21 (G21+1) lp vl f.key f.ins f.day (bM N f.key oth olds ns pp kk k) W) :
  YieldAt Fence.wide 3 Tryz.prog (W11.heap.size+1) #[sv (olds[k]'hk) (ns[k]'(by have:=HLn.out.1;omega)) (pp[k]'(by have:=HLn.out.2.1;omega)) (kk[k]'(by have:=HLn.out.2.2;omega))] W (lK (fun k W=>dL W11 G18 G21 (G21+1) lp vl f.key f.ins f.day (bM N f.key oth olds ns pp kk k) W) k):=by
 have hfn:∀k,Fence.wide.fn k:=fun _=>trivial
 have hdp:Fence.wide.depth.isSome=false:=rfl;have HN0:=qh hN0;clear hN0;have Hn0:=qh hn0;clear hn0;obtain⟨vg,vs,vf,hrb⟩:=hJ;have hkn:=ji (N:=N) (key:=f.key) (other:=oth) (ls:=olds) (ns:=ns) (ps:=pp) (ks:=kk) hk (by have:=HLn.out.1;omega) (by have:=HLn.out.2.1;omega) (by have:=HLn.out.2.2;omega);have HKN:=qh hkn;have HLS:=qh (gw (N:=N) (key:=f.key) (other:=oth) (ls:=olds) (ns:=ns) (ps:=pp) (L:=5000) (ks:=kk) HKK.out k);have hbk:(kk[k]'(by have:=HLn.out.2.2;omega)).length≤5000:=HKK.out _ (List.getElem_mem _);have hxk:bv (olds[k]'hk):=HSO.out _ (List.getElem_mem _);have hok:k<olds.length:=hk;generalize hS1:bM N f.key oth olds ns pp kk (k+1)=s1 at *;have HS1:=qh hS1;clear hS1;generalize bM N f.key oth olds ns pp kk k=s0 at *;generalize olds[k]'hk=x at *;generalize ns[k]'_=n at *;generalize pp[k]'_=p at *;generalize kk[k]'_=b at *;unfold nA at hlp;have e1:=congrArg Loop.assign hlp;have e2:=congrArg Loop.body hlp;have e3:=congrArg Loop.tmps hlp;have e4:=congrArg Loop.params hlp;have e5:{ lp with state := .ready,pending:=none }=lp:=by rw[hlp];rfl
 obtain⟨lb,hlb⟩:∃lb,{ lp with state := .busy }=lb:=⟨_,rfl⟩;simp only[eF]at e1 e2 e3 e4;unfold jk ip Tryz.f14 at e1;unfold lY ip Tryz.f14 at e2;dsimp only[kG,Option.getD,Option.or]at e1 e2;refine eU (rec:=lp) hrb.L (by rw[hlp];rfl) (by rw[hlp];rfl) trivial e1 e2 e4 e3 (sL _ _ _) hlb ?_;clear e1 e2 e3 e4 hlp;have HLB:=qh hlb;have HE5:=qh e5;have HNE:Hid ((w.heap.size≠G18∧w.heap.size≠G21∧w.heap.size≠G21+1)∧(G9≠G18∧G9≠G21∧G9≠G21+1)∧(G12≠G18∧G12≠G21∧G12≠G21+1)):=qh ⟨⟨az HF.out HUr.out (by decide),az HF.out HV.out (by decide),az HF.out HZ.out (by decide)⟩,⟨az HP.out HUr.out (by decide),az HP.out HV.out (by decide),az HP.out HZ.out (by decide)⟩,⟨az HN.out HUr.out (by decide),az HN.out HV.out (by decide),by have:=HN21.out.1;omega⟩⟩;have HW3:Hid (w.heap.size≤G18∧w.heap.size≤G21∧w.heap.size≤G21+1):=qh ⟨HUw.out.1,HUw.out.2,by have:=HUw.out.2;omega⟩;clear hlb e5;obtain⟨ig,hIg,zg0,zg1,zg2⟩:=info_parts oL;obtain⟨is',hIs,zs0,zs1,zs2⟩:=info_parts oM;obtain⟨il,hIl,zl0,zl1,zl2⟩:=info_parts fF;have HIg:=qh hIg;have HIs:=qh hIs;have HIl:=qh hIl;clear hIg hIs hIl;obtain⟨Ag,cg,rfl⟩:=aC hrb.og;obtain⟨As,cs',rfl⟩:=aC hrb.os;obtain⟨Af,cf,rfl⟩:=aC hrb.fo;have HXN:Hid (Ext W (W.alloc (.cells (jM x n p b) 102))):=qh (Ext.new _ _);have HL0:=qh (hrb.on HXN.out).L;have HRB:=qh ((hrb.on HXN.out).put (lp':=lb) HUr.out.lt HV.out.lt HZ.out.lt);have HS:=qh ((Blk.new W 102 (jM x n p b)).put (.loop lb) (l:=W11.heap.size+1) (by have:=(Array.getElem?_eq_some_iff.1 hrb.L).1;omega));clear hrb;gi_wp2
 refine⟨HL0.out,?_⟩;generalize hSS:W.heap.size=S at *;generalize (W.alloc (.cells (jM x n p b) 102)).putObj (W11.heap.size+1) (.loop lb)=Wb at *;clear hSS HXN HL0;obtain⟨x0A,-,-,x3A,-,x5A,-⟩:=ae (HRB.out.fr.blk HF.out HNE.out.1.1 HNE.out.1.2.1 HNE.out.1.2.2) (Ext.refl _);obtain⟨o0A,-⟩:=ar (HRB.out.fr.blk HP.out HNE.out.2.1.1 HNE.out.2.1.2.1 HNE.out.2.1.2.2) (Ext.refl _);have n0A:=(HRB.out.fr.blk HN.out HNE.out.2.2.1 HNE.out.2.2.2.1 HNE.out.2.2.2.2).cell 0;have y0A:=HRB.out.v.cell 0;have y1A:=HRB.out.v.frozen 0;have z0A:=HRB.out.z.cell 0;have z1A:=HRB.out.z.frozen 0;simp only[List.getElem?_toArray,List.getElem?_cons_zero]at n0A y0A z0A;obtain⟨s0A,s1A,s2A,s3A,s4A,s5A,s6A,s7A,s8A,s9A ⟩:=ez HS.out (Ext.refl _);obtain⟨u0A,u1A,u2A,u3A ⟩:=bh HRB.out.u (Ext.refl _);have u4A:=HRB.out.u.frozen 1;have u5A:=HRB.out.u.frozen 2;have SB:=qh (gX x.c b (by have:=hxk.2.2.2.1;omega) (by omega));rw[show ofI (valI x.c-valI b)=dw x b from rfl]at SB;generalize hlo:dw x b=lo at *;have HLO:=qh hlo;have HBK:=qh hbk;clear hlo hbk hxk;gi_wp2_with fail;refine(CallsIn.inRound _ (callsIn_wide.2 (SB.out _ (HE.out.ext (Ex3.after HX.out HRB.out.fr HW3.out.1 HW3.out.2.1 HW3.out.2.2))))).mono ?_;rintro e Wc⟨rfl,hx1⟩;replace HRB:=qh (HRB.out.on hx1);replace HS:=qh (HS.out.ext hx1);clear hx1 SB;clear x0A x3A x5A o0A n0A y0A y1A z0A z1A s0A s1A s2A s3A s4A s5A s6A s7A s8A s9A u0A u1A u2A u3A u4A u5A;obtain⟨x0A,-,-,x3A,-,x5A,-⟩:=ae (HRB.out.fr.blk HF.out HNE.out.1.1 HNE.out.1.2.1 HNE.out.1.2.2) (Ext.refl _);obtain⟨o0A,-⟩:=ar (HRB.out.fr.blk HP.out HNE.out.2.1.1 HNE.out.2.1.2.1 HNE.out.2.1.2.2) (Ext.refl _);have n0A:=(HRB.out.fr.blk HN.out HNE.out.2.2.1 HNE.out.2.2.2.1 HNE.out.2.2.2.2).cell 0;have y0A:=HRB.out.v.cell 0;have y1A:=HRB.out.v.frozen 0;have z0A:=HRB.out.z.cell 0;have z1A:=HRB.out.z.frozen 0;simp only[List.getElem?_toArray,List.getElem?_cons_zero]at n0A y0A z0A;obtain⟨s0A,s1A,s2A,s3A,s4A,s5A,s6A,s7A,s8A,s9A ⟩:=ez HS.out (Ext.refl _);obtain⟨u0A,u1A,u2A,u3A ⟩:=bh HRB.out.u (Ext.refl _);have u4A:=HRB.out.u.frozen 1;have u5A:=HRB.out.u.frozen 2;obtain⟨gb,hgb⟩:∃gb:Bool,gb=!(p.isEmpty && lo.isEmpty):=⟨_,rfl⟩;have HGB:=qh hgb;clear hgb;gi_upto_region 31 with fail;gi_cut [148] from 142 (fun v wx=>v = .bool gb∧wx=Wc)
 case first =>
  by_cases hp:p=[]
  ·subst hp;have hg2:Hid (gb=!lo.isEmpty):=qh (by rw[HGB.out];rfl);gi_wp2_with fail;gi_meet
   exact⟨by rw[hg2.out],rfl⟩
  ·have qe:p.isEmpty=false:=by simpa using hp
   have qn:(!p.isEmpty)=true:=by rw[qe];rfl
   have hg2:Hid (gb=true):=qh (by rw[HGB.out,qe];rfl);clear hp;gi_wp2_with fail;gi_meet
   exact⟨by rw[hg2.out],rfl⟩
 case rest =>
  obtain⟨rfl,hwc⟩:=hcut;replace hwc:=hwc.symm;subst hwc;have hl1:=HLS.out.lg;have hl2:=HLS.out.ls;have hl3:=HLS.out.lf;have hl4:=HOn.out;have ITO:=qh (fun W (hx:Env W)=>nX ((s0.fs.length:Int)+1) W (by omega) (by omega) hx);have HBL:Hid (s0.fs.length+1≤maxLen∧(s0.fs.length+1)*96≤140737488355328):=qh ⟨by simp only[maxLen];omega,by omega⟩;have HIT:=qh (wz (n:=s0.fs.length) (by omega));gi_upto_if 148 with fail
  gi_cut [] from 142 (fun wx=>AJ W11 G18 G21 (G21+1) lb vl (.slice As s0.ss.length cs') (.slice Af s0.fs.length cf) f.key f.ins f.day ⟨s0.gs++bE N x p lo,s0.ss,s0.fs,s0.ex⟩ S (jM x n p b) wx)
  case first =>
   cases gb with
   |false =>
    have hgn:Hid (bE N x p lo=[]):=qh (by
     have h1:=HGB.out
     have h2:(p.isEmpty && lo.isEmpty)=true:=by
      revert h1
      cases (p.isEmpty && lo.isEmpty) <;> simp
     rw[Bool.and_eq_true]at h2;unfold bE;rw[if_pos ⟨List.isEmpty_iff.1 h2.1,List.isEmpty_iff.1 h2.2⟩])
    gi_wp2_with fail;gi_meet
    exact⟨.slice Ag s0.gs.length cg,by dsimp only;rw[hgn.out,List.append_nil];exact HRB.out,HS.out⟩
   |true =>
    have hgn:Hid (bE N x p lo=[⟨x.id,x.acq,if N=[] then x.q else [],p,lo⟩]):=qh (by
     have h1:=HGB.out
     have h2:¬ (p=[]∧lo=[]):=by
      rintro⟨rfl,rfl⟩
      cases h1
     unfold bE;rw[if_neg h2])
    have HG:=qh (Blk.new Wc 68 (cU f.key f.ins f.day x.id x.acq (.string ⟨#[]⟩) p lo));have hxg:=Ext.new Wc (.cells (cU f.key f.ins f.day x.id x.acq (.string ⟨#[]⟩) p lo) 68);by_cases hN:N=[]
    ·exact absurd hN HN0.out
    ·have hNe:N.isEmpty=false:=by simpa using hN
     have hNn:(!N.isEmpty)=true:=by rw[hNe];rfl
     rw[if_neg hN]at hgn;have hN2:=aQ hN;clear hN;replace HRB:=qh (HRB.out.on hxg);replace HS:=qh (HS.out.ext hxg);have n0D:=HRB.out.fr.blk HN.out HNE.out.2.2.1 HNE.out.2.2.2.1 HNE.out.2.2.2.2 |>.cell 0
     simp only[List.getElem?_toArray,List.getElem?_cons_zero]at n0D;clear hxg;gi_upto_region 35 with fail;clear x0A x3A x5A o0A n0A y0A y1A z0A z1A s0A s1A s2A s3A s4A s5A s6A s7A s8A s9A u0A u1A u2A u3A u4A u5A;clear n0D;generalize Wc.alloc (.cells (cU f.key f.ins f.day x.id x.acq (.string ⟨#[]⟩) p lo) 68)=W1g at *;obtain⟨x0B,-,-,x3B,-,x5B,-⟩:=ae (HRB.out.fr.blk HF.out HNE.out.1.1 HNE.out.1.2.1 HNE.out.1.2.2) (Ext.refl _);obtain⟨o0B,-⟩:=ar (HRB.out.fr.blk HP.out HNE.out.2.1.1 HNE.out.2.1.2.1 HNE.out.2.1.2.2) (Ext.refl _);have n0B:=(HRB.out.fr.blk HN.out HNE.out.2.2.1 HNE.out.2.2.2.1 HNE.out.2.2.2.2).cell 0;have y0B:=HRB.out.v.cell 0;have y1B:=HRB.out.v.frozen 0;have z0B:=HRB.out.z.cell 0;have z1B:=HRB.out.z.frozen 0;simp only[List.getElem?_toArray,List.getElem?_cons_zero]at n0B y0B z0B;obtain⟨s0B,s1B,s2B,s3B,s4B,s5B,s6B,s7B,s8B,s9B ⟩:=ez HS.out (Ext.refl _);obtain⟨u0B,u1B,u2B,u3B ⟩:=bh HRB.out.u (Ext.refl _);have u4B:=HRB.out.u.frozen 1;have u5B:=HRB.out.u.frozen 2;obtain⟨g0,g1,g2,g3,g4,g5,g6,g7,g8,g9⟩:=jA HG.out (Ext.refl _);have HRB3:=qh (HRB.out.on (Ext.new W1g (.cells (cU f.key f.ins f.day x.id x.acq (.string ⟨#[]⟩) p lo) 68)));have HS3:=qh (HS.out.ext (Ext.new W1g (.cells (cU f.key f.ins f.day x.id x.acq (.string ⟨#[]⟩) p lo) 68)));have hsz:=HRB3.out.fr.size;gi_wp2_with (gi_at_builtin;refine wpListIn_append_own _ rfl (.tmp 172) (.tmp 174) 33 rfl W11.heap.size 68 ig _ 10 144 Tryz.underlying33 HIg.out zg0 zg1 zg2 rfl (by decide) _ _ _ rfl HRB3.out.og ⟨W1g.heap.size,0,none⟩ 1 1 [.string (bs f.key),.string (bs x.id),.string (bs f.ins),.int .i64 x.acq,.int .i64 f.day,(.string ⟨#[]⟩),.string (bs p),.string (bs lo),.string ⟨#[]⟩,.string ⟨#[]⟩] rfl rfl (World.news_of_block (heap_alloc_new W1g _)) (rl _ _ _ _ _ _ _) (by simp only[maxLen];omega) (by omega) hsz ?_;intro v2 w' hown' hgrow hnil;(obtain⟨A2,d2,hv2⟩:=aC hown');subst hv2;clear hnil;refine bD ?_);refine aX ?_;clear x0B x3B x5B o0B n0B y0B y1B z0B z1B s0B s1B s2B s3B s4B s5B s6B s7B s8B s9B u0B u1B u2B u3B u4B u5B;clear g0 g1 g2 g3 g4 g5 g6 g7 g8 g9 HG;have HT:=qh (HRB3.out.gain HUr.out.lt HV.out.lt hUV.out.1 hUV.out.2.1 hUV.out.2.2 hgrow hown');have HSn:=qh ((ct HS3.out HRB3.out.og hgrow (by decide)).far (p:=⟨G18,1,none⟩) (az HS3.out HRB3.out.u (by decide)) (.slice A2 (s0.gs.length+1) d2));clear hgrow hown' HS3 HRB3 hsz
     have hst:(Instr.storeAt 33 (.pointer (some ⟨G18,1,none⟩)) (.slice A2 (s0.gs.length+1) d2)).run Tryz.prog w' = .ok () (w'.setCell ⟨G18,1,none⟩ (.slice A2 (s0.gs.length+1) d2)):=by
      obtain⟨t0,t1,t2,t3⟩:=bh HT.out.1 (Ext.refl _);have t4:=HT.out.1.frozen 1;go_simp
     gi_wp2_with (first|(refine aZ (fun _=>trivial) rfl 33 _ _ rfl _ _ rfl rfl _ hst ?_;refine bD ?_)|fail);refine aX ?_;clear hst;gi_wp2_with fail;gi_meet
     exact⟨.slice A2 (s0.gs.length+1) d2,by dsimp only;rw[hgn.out,List.length_append,qk,rt];exact HT.out.2,HSn.out⟩
  case rest =>
   obtain⟨vg',hRB,hSs⟩:=hcut;dsimp only at hRB;obtain⟨Ag',cg',rfl⟩:=aC hRB.og;replace HRB:=qh hRB;replace HS:=qh hSs;clear hRB hSs HGB;by_cases hN:N=[]
   ·exact absurd hN HN0.out
   ·have hNe:N.isEmpty=false:=by simpa using hN
    have hNn:(!N.isEmpty)=true:=by rw[hNe];rfl
    have hN2:=aQ hN;have hoo:oth=o.other:=by rw[←HOO.out];unfold aN;rw[if_neg hN]
    have hs1:Hid (s1=⟨s0.gs++bE N x p lo,(s0.ss++[⟨x.id,fL f.key s0 n,x.q,n,b⟩])++(if lo=[] then [] else [⟨x.id,[],[],[],lo⟩]),io f.key oth s0 x n b,jO s0 n b⟩):=qh (by rw[HKN.out,dm hN _ _ _ _ _ _ _ HLO.out]);have HOT:=qh hoo;clear hN hoo;generalize s0.gs++bE N x p lo=GL at *;obtain⟨x0A,-,-,x3A,-,x5A,-⟩:=ae (HRB.out.fr.blk HF.out HNE.out.1.1 HNE.out.1.2.1 HNE.out.1.2.2) (Ext.refl _);obtain⟨o0A,-⟩:=ar (HRB.out.fr.blk HP.out HNE.out.2.1.1 HNE.out.2.1.2.1 HNE.out.2.1.2.2) (Ext.refl _);have n0A:=(HRB.out.fr.blk HN.out HNE.out.2.2.1 HNE.out.2.2.2.1 HNE.out.2.2.2.2).cell 0;have y0A:=HRB.out.v.cell 0;have y1A:=HRB.out.v.frozen 0;have z0A:=HRB.out.z.cell 0;have z1A:=HRB.out.z.frozen 0;simp only[List.getElem?_toArray,List.getElem?_cons_zero]at n0A y0A z0A;obtain⟨s0A,s1A,s2A,s3A,s4A,s5A,s6A,s7A,s8A,s9A ⟩:=ez HS.out (Ext.refl _);obtain⟨u0A,u1A,u2A,u3A ⟩:=bh HRB.out.u (Ext.refl _);have u4A:=HRB.out.u.frozen 1;have u5A:=HRB.out.u.frozen 2;have hk1:¬ (9223372036854775807:Int)<(f.key.length:Int)+2:=by have:=HKL.out;omega
    gi_upto_if 201 with fail
    gi_cut [26] from 196 (fun a wx=>a = .string (bs (fL f.key s0 n))∧EI W11 G18 G21 (G21+1) lb vl (.slice Ag' GL.length cg') (.slice As s0.ss.length cs') GL.length s0.ss.length (GL.flatMap (dv f.key f.ins f.day)) (s0.ss.flatMap (dI f.key)) (io f.key oth s0 x n b) (jO s0 n b) S (jM x n p b) wx)
    case first =>
     by_cases hn:n=[]
     ·exact absurd hn Hn0.out
     ·have hnE:n.isEmpty=false:=by simpa using hn
      have hnN:(!n.isEmpty)=true:=by rw[hnE];rfl
      have hn2:=aQ hn;have hFX:Hid (f.key++[47]++Lib.itoa ((s0.fs.length:Int)+1)=fL f.key s0 n∧io f.key oth s0 x n b=s0.fs++[⟨fL f.key s0 n,oth,x.acq,x.opn,n,b,n⟩]∧jO s0 n b=s0.ex):=qh ⟨by unfold fL fZ;rw[if_neg hn,List.append_assoc];rfl,by unfold io js;rw[if_neg hn],by unfold jO;rw[if_neg hn]⟩;clear hn;have ew:IntKind.i64.wrap ((s0.fs.length:Int)+1)=(s0.fs.length:Int)+1:=IntWalk.i64_in _ (by omega);have ew2:wrap64 ((s0.fs.length:Int)+1)=(s0.fs.length:Int)+1:=by simp only[wrap64];omega
      have HED:Hid (Env wc.drew):=qh (HE.out.ext (Ex3.after HX.out (HRB.out.fr.on (Ext.refl wc).drew) HW3.out.1 HW3.out.2.1 HW3.out.2.2));have HXD:Hid (Ext wc wc.drew):=qh (Ext.refl wc).drew;gi_wp2_with fail;refine qP (S:=fun w'=>w'.cell? ⟨w.heap.size,0,none⟩=some (.string (bs f.key))∧w'.cell? ⟨G21,0,none⟩=some (.slice Af s0.fs.length cf)) (by kernel_rfl) (by simp[i8]) (by rintro⟨a,w,h⟩;exact h) ⟨x0A,y0A⟩ ?_;intro hHeld;refine tk 0 (.pointer (some ⟨w.heap.size,0,none⟩)) rfl (by kernel_rfl) (fun _ _ _ h=>h) (Or.inl ⟨by kernel_rfl,?_⟩) (by assumption) ?_
      ·intro w hSw;(try dsimp only at hSw)
       go_simp;try rfl
       try omega
      (try simp only[p4])
      refine tk 1 (.string (bs f.key)) rfl (by kernel_rfl) (fun _ _ _ h=>h) (Or.inl ⟨by kernel_rfl,?_⟩) (by assumption) ?_
      ·intro w hSw;(try dsimp only at hSw)
       go_simp;try rfl
       try omega
      (try simp only[p4])
      refine tk 2 (.string (bs (f.key++[47]))) rfl (by kernel_rfl) (fun _ _ _ h=>h) (Or.inl ⟨by kernel_rfl,?_⟩) (by assumption) ?_
      ·intro w hSw;(try dsimp only at hSw)
       go_simp;try rfl
       try omega
      (try simp only[p4])
      refine tk 3 (.slice Af s0.fs.length cf) rfl (by kernel_rfl) (fun _ _ _ h=>h) (Or.inl ⟨by kernel_rfl,?_⟩) (by assumption) ?_
      ·intro w hSw;(try dsimp only at hSw)
       go_simp;try rfl
       try omega
      (try simp only[p4])
      refine tk 4 (.int .i64 s0.fs.length) rfl (by kernel_rfl) (fun _ _ _ h=>h) (Or.inl ⟨by kernel_rfl,?_⟩) (by assumption) ?_
      ·intro w hSw;(try dsimp only at hSw)
       go_simp;try rfl
       try omega
      (try simp only[p4])
      refine tk 5 (.int .i64 ((s0.fs.length:Int)+1)) rfl (by kernel_rfl) (fun _ _ _ h=>h) (Or.inl ⟨by kernel_rfl,?_⟩) (by assumption) ?_
      ·intro w hSw;(try dsimp only at hSw)
       go_simp;try rfl
       try omega
      (try simp only[p4])
      refine wpAnyH_ready (rs:=[6]) (by kernel_rfl) (by simp) ?_;refine AllReadyH.cons rfl (fun K hK=>?_) (AllReadyH.nil);go_simp;refine(ITO.out wc.drew (HED.out)).mono ?_;rintro e We⟨rfl,hx1⟩;replace HRB:=qh (HRB.out.on (HXD.out.trans hx1));replace HS:=qh (HS.out.ext (HXD.out.trans hx1));clear hx1;clear x0A x3A x5A o0A n0A y0A y1A z0A z1A s0A s1A s2A s3A s4A s5A s6A s7A s8A s9A u0A u1A u2A u3A u4A u5A;obtain⟨x0A,-,-,x3A,-,x5A,-⟩:=ae (HRB.out.fr.blk HF.out HNE.out.1.1 HNE.out.1.2.1 HNE.out.1.2.2) (Ext.refl _);obtain⟨o0A,-⟩:=ar (HRB.out.fr.blk HP.out HNE.out.2.1.1 HNE.out.2.1.2.1 HNE.out.2.1.2.2) (Ext.refl _);have n0A:=(HRB.out.fr.blk HN.out HNE.out.2.2.1 HNE.out.2.2.2.1 HNE.out.2.2.2.2).cell 0;have y0A:=HRB.out.v.cell 0;have y1A:=HRB.out.v.frozen 0;have z0A:=HRB.out.z.cell 0;have z1A:=HRB.out.z.frozen 0;simp only[List.getElem?_toArray,List.getElem?_cons_zero]at n0A y0A z0A;obtain⟨s0A,s1A,s2A,s3A,s4A,s5A,s6A,s7A,s8A,s9A ⟩:=ez HS.out (Ext.refl _);obtain⟨u0A,u1A,u2A,u3A ⟩:=bh HRB.out.u (Ext.refl _);have u4A:=HRB.out.u.frozen 1;have u5A:=HRB.out.u.frozen 2;refine hK.out _ _ ⟨x0A,y0A⟩ (fun hHeld=>?_);clear hK K;(try simp only[p4])
      have hit:=HIT.out;have hk2:=HKL.out;refine tk 7 (.string (bs (f.key++[47]++Lib.itoa ((s0.fs.length:Int)+1)))) rfl (by kernel_rfl) (fun _ _ _ h=>h) (Or.inl ⟨by kernel_rfl,?_⟩) (by assumption) ?_
      ·intro w hSw;(try dsimp only at hSw)
       go_simp;try rfl
       try omega
      (try simp only[p4])
      clear hit hk2 ew ew2;refine tk 8 (.string (bs (f.key++[47]++Lib.itoa ((s0.fs.length:Int)+1)))) rfl (by kernel_rfl) (fun _ _ _ h=>h) (Or.inl ⟨by kernel_rfl,?_⟩) (by assumption) ?_
      ·intro w hSw;(try dsimp only at hSw)
       go_simp;try rfl
       try omega
      (try simp only[p4])
      refine wpAnyH_done (by kernel_rfl) ?_ _;clear hHeld;rw[hFX.out.1];generalize fL f.key s0 n=tk at *;have o0B:=o0A;rw[←HOT.out]at o0A;clear o0B;have HRB3:=qh (HRB.out.on (Ext.new We (.cells (lc ⟨tk,oth,x.acq,x.opn,n,b,n⟩) 71)));have HS3:=qh (HS.out.ext (Ext.new We (.cells (lc ⟨tk,oth,x.acq,x.opn,n,b,n⟩) 71)));have hsz:=HRB3.out.fr.size;gi_wp2_with (gi_at_builtin;refine wpListIn_append_own _ rfl (.tmp 210) (.tmp 227) 22 rfl W11.heap.size 71 il _ 7 96 Tryz.underlying22 HIl.out zl0 zl1 zl2 rfl (by decide) _ _ _ rfl HRB3.out.fo ⟨We.heap.size,0,none⟩ 1 1 (aU ⟨tk,oth,x.acq,x.opn,n,b,n⟩) rfl rfl (World.news_of_block (heap_alloc_new We _)) (j9 _) HBL.out.1 HBL.out.2 hsz ?_;intro v2 w' hown' hgrow hnil;(obtain⟨A3,c3,hv2⟩:=aC hown');subst hv2;clear hnil;refine bD ?_);refine aX ?_;clear x0A x3A x5A o0A n0A y0A y1A z0A z1A s0A s1A s2A s3A s4A s5A s6A s7A s8A s9A u0A u1A u2A u3A u4A u5A;have HT:=qh (HRB3.out.lot HUr.out.lt HV.out.lt hUV.out.1 hUV.out.2.1 hUV.out.2.2 hgrow hown');have HSn:=qh ((ct HS3.out HRB3.out.fo hgrow (by decide)).far (p:=⟨G21,0,none⟩) (az HS3.out HRB3.out.v (by decide)) (.slice A3 (s0.fs.length+1) c3));clear hgrow hown' HS3 HRB3 hsz
      have hst:(Instr.storeAt 22 (.pointer (some ⟨G21,0,none⟩)) (.slice A3 (s0.fs.length+1) c3)).run Tryz.prog w' = .ok () (w'.setCell ⟨G21,0,none⟩ (.slice A3 (s0.fs.length+1) c3)):=by
       have t0:=HT.out.1.cell 0;have t4:=HT.out.1.frozen 0;simp only[List.getElem?_toArray,List.getElem?_cons_zero]at t0;go_simp
      gi_wp2_with (first|(refine aZ (fun _=>trivial) rfl 22 _ _ rfl _ _ rfl rfl _ hst ?_;refine bD ?_)|fail);refine aX ?_;clear hst;gi_wp2_with fail;gi_meet
      exact⟨rfl,.slice A3 (s0.fs.length+1) c3,by rw[hFX.out.2.1,hFX.out.2.2,List.length_append,jb];exact HT.out.2,HSn.out⟩;have hh:(!n.isEmpty)=false:=by assumption
      rw[hnN]at hh
      cases hh
    case rest =>
     obtain⟨rfl,vf',hRB,hSs⟩:=hcut;clear x0A x3A x5A o0A n0A y0A y1A z0A z1A s0A s1A s2A s3A s4A s5A s6A s7A s8A s9A u0A u1A u2A u3A u4A u5A;obtain⟨Af',cf',rfl⟩:=aC hRB.fo;replace HRB:=qh hRB;replace HS:=qh hSs;clear hRB hSs;generalize fL f.key s0 n=tk at *;generalize io f.key oth s0 x n b=F2 at *;generalize jO s0 n b=X2 at *;obtain⟨x0A,-,-,x3A,-,x5A,-⟩:=ae (HRB.out.fr.blk HF.out HNE.out.1.1 HNE.out.1.2.1 HNE.out.1.2.2) (Ext.refl _);obtain⟨o0A,-⟩:=ar (HRB.out.fr.blk HP.out HNE.out.2.1.1 HNE.out.2.1.2.1 HNE.out.2.1.2.2) (Ext.refl _);have n0A:=(HRB.out.fr.blk HN.out HNE.out.2.2.1 HNE.out.2.2.2.1 HNE.out.2.2.2.2).cell 0;have y0A:=HRB.out.v.cell 0;have y1A:=HRB.out.v.frozen 0;have z0A:=HRB.out.z.cell 0;have z1A:=HRB.out.z.frozen 0;simp only[List.getElem?_toArray,List.getElem?_cons_zero]at n0A y0A z0A;obtain⟨s0A,s1A,s2A,s3A,s4A,s5A,s6A,s7A,s8A,s9A ⟩:=ez HS.out (Ext.refl _);obtain⟨u0A,u1A,u2A,u3A ⟩:=bh HRB.out.u (Ext.refl _);have u4A:=HRB.out.u.frozen 1;have u5A:=HRB.out.u.frozen 2;have HRB3:=qh (HRB.out.on (Ext.new wc (.cells (ju f.key (.string (bs x.id)) (.string (bs tk)) (.string (bs x.q)) (.string (bs n)) (.string (bs b))) 76)));have HS3:=qh (HS.out.ext (Ext.new wc (.cells (ju f.key (.string (bs x.id)) (.string (bs tk)) (.string (bs x.q)) (.string (bs n)) (.string (bs b))) 76)));have hsz:=HRB3.out.fr.size;gi_wp2_with (gi_at_builtin;refine wpListIn_append_own _ rfl (.tmp 234) (.tmp 249) 34 rfl W11.heap.size 76 is' _ 6 96 Tryz.underlying34 HIs.out zs0 zs1 zs2 rfl (by decide) _ _ _ rfl HRB3.out.os ⟨wc.heap.size,0,none⟩ 1 1 (dI f.key ⟨x.id,tk,x.q,n,b⟩) rfl rfl (World.news_of_block (heap_alloc_new wc _)) (jz _ _) (by simp only[maxLen];omega) (by omega) hsz ?_;intro v2 w' hown' hgrow hnil;(obtain⟨A4,c4,hv2⟩:=aC hown');subst hv2;clear hnil;refine bD ?_);refine aX ?_;clear x0A x3A x5A o0A n0A y0A y1A z0A z1A s0A s1A s2A s3A s4A s5A s6A s7A s8A s9A u0A u1A u2A u3A u4A u5A;have HT:=qh (HRB3.out.step HUr.out.lt HV.out.lt hUV.out.1 hUV.out.2.1 hUV.out.2.2 hgrow hown');have HSn:=qh ((ct HS3.out HRB3.out.os hgrow (by decide)).far (p:=⟨G18,2,none⟩) (az HS3.out HRB3.out.u (by decide)) (.slice A4 (s0.ss.length+1) c4));clear hgrow hown' HS3 HRB3 hsz
     have hst:(Instr.storeAt 34 (.pointer (some ⟨G18,2,none⟩)) (.slice A4 (s0.ss.length+1) c4)).run Tryz.prog w' = .ok () (w'.setCell ⟨G18,2,none⟩ (.slice A4 (s0.ss.length+1) c4)):=by
      obtain⟨t0,t1,t2,t3⟩:=bh HT.out.1 (Ext.refl _);have t4:=HT.out.1.frozen 2;go_simp
     gi_wp2_with (first|(refine aZ (fun _=>trivial) rfl 34 _ _ rfl _ _ rfl rfl _ hst ?_;refine bD ?_)|fail);refine aX ?_;replace HRB:=qh HT.out.2;replace HS:=HSn;clear HT HSn hst;generalize w'.setCell ⟨G18,2,none⟩ (.slice A4 (s0.ss.length+1) c4)=Wg at *;clear w';by_cases hlo:lo=[]
     ·rw[if_pos hlo,List.append_nil]at hs1;subst hlo;gi_wp2_with fail;refine⟨by rw[HLB.out];exact HRB.out.L,rfl,?_⟩;rw[HE5.out];show dL _ _ _ _ _ _ _ _ _ (bM _ _ _ _ _ _ _ (k+1)) _;rw[HS1.out,hs1.out];exact dL.close HRB.out HUr.out.lt HV.out.lt HZ.out.lt _ rfl rfl (by simp) rfl rfl (jj _ _ _) rfl
     ·rw[if_neg hlo]at hs1;have hlE:lo.isEmpty=false:=by simpa using hlo
      have hlN:(!lo.isEmpty)=true:=by rw[hlE];rfl
      have hl2':=aQ hlo;clear hlo;obtain⟨x0A,-,-,x3A,-,x5A,-⟩:=ae (HRB.out.fr.blk HF.out HNE.out.1.1 HNE.out.1.2.1 HNE.out.1.2.2) (Ext.refl _);obtain⟨o0A,-⟩:=ar (HRB.out.fr.blk HP.out HNE.out.2.1.1 HNE.out.2.1.2.1 HNE.out.2.1.2.2) (Ext.refl _);have n0A:=(HRB.out.fr.blk HN.out HNE.out.2.2.1 HNE.out.2.2.2.1 HNE.out.2.2.2.2).cell 0;have y0A:=HRB.out.v.cell 0;have y1A:=HRB.out.v.frozen 0;have z0A:=HRB.out.z.cell 0;have z1A:=HRB.out.z.frozen 0;simp only[List.getElem?_toArray,List.getElem?_cons_zero]at n0A y0A z0A;obtain⟨s0A,s1A,s2A,s3A,s4A,s5A,s6A,s7A,s8A,s9A ⟩:=ez HS.out (Ext.refl _);obtain⟨u0A,u1A,u2A,u3A ⟩:=bh HRB.out.u (Ext.refl _);have u4A:=HRB.out.u.frozen 1;have u5A:=HRB.out.u.frozen 2;have HRB3:=qh (HRB.out.on (Ext.new Wg (.cells (ju f.key (.string (bs x.id)) (.string ⟨#[]⟩) (.string ⟨#[]⟩) (.string ⟨#[]⟩) (.string (bs lo))) 76)));have HS3:=qh (HS.out.ext (Ext.new Wg (.cells (ju f.key (.string (bs x.id)) (.string ⟨#[]⟩) (.string ⟨#[]⟩) (.string ⟨#[]⟩) (.string (bs lo))) 76)));have hsz:=HRB3.out.fr.size;gi_wp2_with (gi_at_builtin;refine wpListIn_append_own _ rfl (.tmp 255) (.tmp 263) 34 rfl W11.heap.size 76 is' _ 6 96 Tryz.underlying34 HIs.out zs0 zs1 zs2 rfl (by decide) _ _ _ rfl HRB3.out.os ⟨Wg.heap.size,0,none⟩ 1 1 (dI f.key ⟨x.id,[],[],[],lo⟩) rfl rfl (World.news_of_block (heap_alloc_new Wg _)) (jz _ _) (by simp only[maxLen];omega) (by omega) hsz ?_;intro v2 w' hown' hgrow hnil;(obtain⟨A5,c5,hv2⟩:=aC hown');subst hv2;clear hnil;refine bD ?_);refine aX ?_;clear x0A x3A x5A o0A n0A y0A y1A z0A z1A s0A s1A s2A s3A s4A s5A s6A s7A s8A s9A u0A u1A u2A u3A u4A u5A;have HT:=qh (HRB3.out.step HUr.out.lt HV.out.lt hUV.out.1 hUV.out.2.1 hUV.out.2.2 hgrow hown');have HSn:=qh ((ct HS3.out HRB3.out.os hgrow (by decide)).far (p:=⟨G18,2,none⟩) (az HS3.out HRB3.out.u (by decide)) (.slice A5 (s0.ss.length+1+1) c5));clear hgrow hown' HS3 HRB3 hsz
      have hst:(Instr.storeAt 34 (.pointer (some ⟨G18,2,none⟩)) (.slice A5 (s0.ss.length+1+1) c5)).run Tryz.prog w' = .ok () (w'.setCell ⟨G18,2,none⟩ (.slice A5 (s0.ss.length+1+1) c5)):=by
       obtain⟨t0,t1,t2,t3⟩:=bh HT.out.1 (Ext.refl _);have t4:=HT.out.1.frozen 2;go_simp
      gi_wp2_with (first|(refine aZ (fun _=>trivial) rfl 34 _ _ rfl _ _ rfl rfl _ hst ?_;refine bD ?_)|fail);refine aX ?_;replace HRB:=qh HT.out.2;replace HS:=HSn;clear HT HSn hst;generalize w'.setCell ⟨G18,2,none⟩ (.slice A5 (s0.ss.length+1+1) c5)=Wh at *;clear w';gi_wp2_with fail;refine⟨by rw[HLB.out];exact HRB.out.L,rfl,?_⟩;rw[HE5.out];show dL _ _ _ _ _ _ _ _ _ (bM _ _ _ _ _ _ _ (k+1)) _;rw[HS1.out,hs1.out];exact dL.close HRB.out HUr.out.lt HV.out.lt HZ.out.lt _ rfl rfl (by simp) rfl rfl (by rw[jj,jj]) rfl
end
end Go.Proofs.YthgpheopnhajaaaGreatDoor
