/- The seat's texts, part P32. -/
import Derived.Test.YthgpheopnhajaaaGreatDoorP31
import Derived.Sort.CutIn
set_option maxRecDepth 100000
set_option maxHeartbeats 8000000
namespace Go.Proofs.YthgpheopnhajaaaGreatDoor
section
open Go.RowKit
attribute [local go_sem] size_bs toList_bs
theorem EC{w w':World}{base:Nat}{v:Value}{ls:List LotV}(h:mh w base v ls)(hx:Ext w w'):mh w' base v ls:=aP h hx
def AH(ls:List LotV)(w:World)(e:Ending)(w':World):Prop :=
 ∃A c,e = .returned (.tuple #[.slice A ls.length c,.int .i64 0])∧bp w' A ls∧ls.length≤c∧Ext w w'
theorem wv(ls:List LotV)(x:LotV)(A:Option Addr)(c:Nat)(w:World)(hE:Env w)(hL:LotsAt w A ls)(hs:bv x)(hv:aw ls=0)(hx:bU x=0)(hf:(cr ls x.id).isSome=false)(hl:ls.length<1000) :
  Calls Tryz.prog 57 #[.slice A ls.length c,lv x] w (AH (bO ls (eW ls x.ins ls.length) x) w):=by
 have HE:=qh hE;have HA:=qh hL.rd;have ca:=fun W hx=>d5 ls A c W (hE.ext hx) (hL.rd.ext hx) hL.sm hL.le
 rw[hv]at ca;have ck:=sK x hs;rw[hx]at ck;have lf:=fun W hx=>uM ls A c x.id W (hL.rd.ext hx) (by have:=hL.le;omega)
 rw[hf]at lf;have CA:=qh ca;have CK:=qh ck;have LF:=qh lf;have HCL:=qh (fun W hx=>DD ls A c W (hL.rd.ext hx) (by have:=hL.le;omega));have HB:=qh (Blk.new w 71 (lc x));have HX:Hid (Ext w (w.alloc (.cells (lc x) 71))):=qh (Ext.new _ _);have g1:decide (1000≤(ls.length:Int))=false:=by rw[decide_eq_false_iff_not];omega
 clear ca ck lf hE hL hv hx hf hs;generalize nh ls x.id=fi at *;go_enter Tryz.func57,Tryz.ntmps57;go_wp2_with fail;refine(CA.out _ HX.out).mono ?_;rintro e v4⟨rfl,hx1⟩;replace HB:=qh (HB.out.ext hx1);replace HX:=HX.qt hx1;clear hx1;generalize hg:w.heap.size=g at *;clear hg;obtain⟨p0,p1,p2,p3,p4,p5,p6⟩:=bK HB.out (Ext.refl _);go_wp2_with fail;refine(CK.out _ (HE.out.ext HX.out)).mono ?_;rintro e v5⟨rfl,hx1⟩;replace HB:=qh (HB.out.ext hx1);replace HX:=HX.qt hx1;clear hx1;obtain⟨p0,p1,p2,p3,p4,p5,p6⟩:=bK HB.out (Ext.refl _);go_wp2_with fail;refine(LF.out _ HX.out).mono ?_;rintro e v6⟨rfl,hx1⟩;replace HB:=qh (HB.out.ext hx1);replace HX:=HX.qt hx1;clear hx1;clear p0 p1 p2 p3 p4 p5 p6;go_wp2_with fail;go_loopw [33,9,10,11] (fun i at_ _ _ wr=>∃k:Nat,k≤ls.length∧i = .int .i64 k∧at_ = .int .i64 (eW ls x.ins k:Nat)∧Ext w wr∧Blk wr g 71 (lc x)) (fun i _ _ _ _=>ls.length-(intOf i).toNat)
 case atStart=>exact⟨0,by omega,rfl,rfl,HX.out,HB.out⟩
 case round =>
  clear HX HB;obtain⟨k,hk,rfl,rfl,hx,hb⟩:=hrel;have HX:=qh hx;have HB:=qh hb;clear hx hb;obtain⟨p0,p1,p2,p3,p4,p5,p6⟩:=bK HB.out (Ext.refl _);by_cases hlt:k<ls.length
  ·obtain⟨b,o,rfl,hbl,c0,c1,c2,c3,c4,c5,c6⟩:=(HA.out.ext HX.out).at_ hlt;have hki:(k:Int)<(ls.length:Int):=by omega
   have hk0:(0:Int)≤(k:Int):=by omega
   have hgl:=HB.out.lt;have PH:=qh (fun h=>AF (ins:=x.ins) hlt h);have PS:=qh (fun h=>yd (ins:=x.ins) hlt h);generalize hpk:eW ls x.ins k=pk at *;generalize ls[k]'hlt=y at *;have HXN:Hid (Ext w (wr.alloc (.cells (lc y) 71))):=qh (HX.out.alloc _);have HBN:Hid (Blk (wr.alloc (.cells (lc y) 71)) g 71 (lc x)):=qh (HB.out.alloc _);obtain⟨q0,q1,q2,q3,q4,q5,q6⟩:=bK HBN.out (Ext.refl _)
   cases hle:(Op.bytesLess y.ins x.ins || y.ins == x.ins)
   ·have HP:=qh (PS.out hle);clear PH PS hpk;go_wp2_with fail;go_roundw
    case rel=>exact⟨k+1,by omega,by go_num,by rw[HP.out],HXN.out,HBN.out⟩
    case measure=>simp[intOf];omega
   ·have HP:=qh (PH.out hle);clear PH PS hpk;go_wp2_with fail;go_roundw
    case rel=>exact⟨k+1,by omega,by go_num,by rw[HP.out];go_num,HXN.out,HBN.out⟩
    case measure=>simp[intOf];omega
  ·have hkl:k=ls.length:=by omega
   subst hkl;have hpl:=ny ls x.ins ls.length;generalize eW ls x.ins ls.length=pk at *;have HIN:=qh (fun A' c' vb w0 w1 ho hr hx hb=>Cg ls pk x A' c' vb w0 w1 hpl ho hr hx hb (by omega));have hgl:=HB.out.lt;have HD:Hid (Ext w wr.drew):=qh HX.out.drew;have HD2:Hid (Ext w (wr.alloc (.cells (lc x) 71)).drew):=qh (HX.out.alloc _).drew;go_upto_region 18 with fail;go_cut [4,5] (fun p4 p5 wx=>∃A' c',p4 = .slice A' (bO ls pk x).length c'∧p5 = .int .i64 0∧bp wx A' (bO ls pk x)∧(bO ls pk x).length≤c'∧Ext w wx)
   case first =>
    go_region_held3 (fun w'=>w'.cell? ⟨g,0,none⟩=some (.string (bs x.id))∧w'.cell? ⟨g,1,none⟩=some (.string (bs x.ins))∧w'.cell? ⟨g,2,none⟩=some (.int .i64 x.acq)∧w'.cell? ⟨g,3,none⟩=some (.int .i64 x.opn)∧w'.cell? ⟨g,4,none⟩=some (.string (bs x.q))∧w'.cell? ⟨g,5,none⟩=some (.string (bs x.c))∧w'.cell? ⟨g,6,none⟩=some (.string (bs x.u)))
     (go_keep)
     (first
      |(go_at_call 52;(with_reducible refine(HCL.out _ HD.out).mono ?_);(rintro e w5⟨A5,c5,rfl,hx5,ho5,hr5⟩);(have HBW:=qh (HB.out.drew.ext hx5));(have HO:=qh (And.intro hx5 (And.intro ho5 hr5)));(obtain⟨_,_,_,_,_,_,_⟩:=bK HBW.out (Ext.refl _));clear hx5 ho5 hr5)
      |(go_at_call 52;(with_reducible refine(HCL.out _ HD2.out).mono ?_);(rintro e w5⟨A5,c5,rfl,hx5,ho5,hr5⟩);(have HBW:=qh ((HB.out.alloc (.cells (lc x) 71)).drew.ext hx5));(have HO:=qh (And.intro hx5 (And.intro ho5 hr5)));(obtain⟨_,_,_,_,_,_,_⟩:=bK HBW.out (Ext.refl _));clear hx5 ho5 hr5)
      |(go_at_call 113;(with_reducible refine(HIN.out A5 c5 w5.heap.size wr.drew _ (EC HO.out.2.1 (Ext.new _ _)) ?_ (HO.out.1.alloc _) (Blk.new _ _ _)).mono ?_);(focus (intro h0;obtain⟨g5,e5,hg5,hrow5⟩:=HO.out.2.2 h0;exact⟨g5,e5,hg5,hrow5.ext (Ext.new _ _),Nat.ne_of_gt hrow5.lt⟩));(rintro e w6⟨A6,c6,rfl,hr6,hc6,hx6⟩);(have HX6:=HD.qt hx6);(have HBW:=qh (HB.out.drew.ext hx6));(have HR6:=qh (And.intro hr6 hc6));(obtain⟨_,_,_,_,_,_,_⟩:=bK HBW.out (Ext.refl _));clear hr6 hc6 hx6)
      |(go_at_call 113;(with_reducible refine(HIN.out A5 c5 wr.heap.size (wr.alloc (.cells (lc x) 71)).drew _ HO.out.2.1 ?_ HO.out.1 ((Blk.new _ _ _).drew.ext HO.out.1)).mono ?_);(focus (intro h0;obtain⟨g5,e5,hg5,hrow5⟩:=HO.out.2.2 h0;exact⟨g5,e5,hg5,hrow5,Nat.ne_of_lt (Nat.lt_of_lt_of_le (by simp) hg5)⟩));(rintro e w6⟨A6,c6,rfl,hr6,hc6,hx6⟩);(have HX6:=HD2.qt hx6);(have HBW:=qh ((HB.out.alloc (.cells (lc x) 71)).drew.ext hx6));(have HR6:=qh (And.intro hr6 hc6));(obtain⟨_,_,_,_,_,_,_⟩:=bK HBW.out (Ext.refl _));clear hr6 hc6 hx6))
    all_goals
     go_wp2_with fail;go_meet
     exact⟨A6,c6,rfl,rfl,HR6.out.1,HR6.out.2,HX6.out⟩
   case rest =>
    obtain⟨A9,c9,rfl,rfl,hr9,hc9,hx9⟩:=hcut;have HR:=qh (And.intro hr9 (And.intro hc9 hx9));clear hr9 hc9 hx9;go_wp2_with fail;go_ret2;exact⟨A9,c9,rfl,HR.out.1,HR.out.2.1,HR.out.2.2⟩
end
section
open Go.RowKit Go.Shelf
abbrev bX:Bs:=[120]
abbrev cA:Bs:=[97,98,99]
abbrev tC:LotV:=⟨[97,47,49],[97,98,99],19700,19700,[49,48],[49,48,48],[]⟩
abbrev ww:LotV:=⟨[98,47,49],[97,98,99],19710,19710,[53],[50,48],[]⟩
abbrev du:List LotV:=[tC,ww]
abbrev fA:OptV:=⟨[100,101,102],⟨[49],[50]⟩,⟨[50],[]⟩,⟨[49,54],[]⟩⟩
theorem dz{l:Bs}{z:Int}(h:aq l=0)(hv:valI l=z):ofI z=l:=by subst hv;exact eE.1 h
theorem ED{q:Rat}{n d:Bs}{z:Int}{k:Nat}(h1:q.num=z)(h2:q.den=k)(h3:k≠1)(hn:ofI z=n)(hd:ofI (k:Int)=d):bz q=⟨n,d⟩:=by
 unfold bz;rw[h1,h2,if_neg h3,hn,hd]
theorem EE:aw du=0:=by decide +kernel
theorem Ha:ap du cA=du:=by rfl
theorem Ix:aJ du cA=15:=by decide +kernel
theorem Iy:au du cA=120:=by decide +kernel
theorem Iz:dS fA=0:=by decide +kernel
theorem AI:cw [49,53] fA.r=([55],⟨[49],[50]⟩,0):=by
 have e1:dF [49,53] fA.r=0:=by decide +kernel
 have e2:ky [49,53] fA.r=[55]:=by
  unfold ky;rw[show bB (dl [49,53] fA.r)=7 by decide +kernel];exact dz (by decide +kernel) (by decide +kernel)
 have e3:fW [49,53] fA.r=⟨[49],[50]⟩:=by
  unfold fW;exact ED (z:=1) (k:=2) (by decide +kernel) (by decide +kernel) (by decide) (dz (by decide +kernel) (by decide +kernel)) (dz (by decide +kernel) (by decide +kernel))
 unfold cw;rw[if_pos e1,e2,e3]
theorem CH:bz (aj ⟨[49],[50]⟩*aj fA.v)=⟨[56],[]⟩:=by
 have:aj ⟨[49],[50]⟩*aj fA.v=((8:Int):Rat):=by decide +kernel
 rw[this,uD,dz (l:=[56]) (z:=8) (by decide +kernel) (by decide +kernel)]
theorem tD:da fA [49,53]=([55],[51,56],⟨[49],[50]⟩,0):=by
 have e1:bt fA [49,53]=([55],⟨[49],[50]⟩,0):=by
  unfold bt;rw[if_neg (by decide)];exact AI
 have e2:fy fA [49,53] ⟨[49],[50]⟩=[51,56]:=by
  unfold fy;rw[CH];exact dz (by decide +kernel) (by decide +kernel)
 unfold da;rw[e1];dsimp only;rw[if_pos rfl,e2]
theorem EF:cD fA.v [55]=112:=by decide +kernel
theorem EG:eB 120 38 112=30:=by decide +kernel
theorem IA:(ordR [10,5]).map (·.val)=[0,1]:=by
 have e:ordR [10,5]=[(0:Fin 2),1]:=by
  show List.mergeSort [(0:Fin 2),1] (fun a b=>!ltR [10,5] b a)=_;simp[List.mergeSort,List.MergeSort.Internal.splitInTwo,List.merge];decide
 rw[e];rfl
theorem IB:(ordR [5,10]).map (·.val)=[1,0]:=by
 have e:ordR [5,10]=[(1:Fin 2),0]:=by
  show List.mergeSort [(0:Fin 2),1] (fun a b=>!ltR [5,10] b a)=_;simp[List.mergeSort,List.MergeSort.Internal.splitInTwo,List.merge];decide
 rw[e];rfl
theorem IC:(ordR [40,80]).map (·.val)=[1,0]:=by
 have e:ordR [40,80]=[(1:Fin 2),0]:=by
  show List.mergeSort [(0:Fin 2),1] (fun a b=>!ltR [40,80] b a)=_;simp[List.mergeSort,List.MergeSort.Internal.splitInTwo,List.merge];decide
 rw[e];rfl
theorem tE{T a b x y:Int}{i j:Nat}(h0:¬ T<0)(hx:cJ T [a,b]=[x,y])(ho:(ordR [x,y]).map (·.val)=[i,j])(hm:(bV T [a,b]).toNat=1):dh T [a,b]=cI (cu T [a,b]) [i]:=by
 unfold dh bA db;rw[if_neg h0,hm,hx,List.map_take,ho];rfl
theorem Hb:fK (·.q) [55] du=[[53],[50]]:=by
 unfold fK;rw[show dh (valI [55]) ((du.map (·.q)).map valI)=[5,2] from(tE (T:=7) (by decide) (by decide +kernel) IA (by decide +kernel)).trans (by decide +kernel)];show [ofI 5,ofI 2]=_;rw[dz (l:=[53]) (z:=5) (by decide +kernel) (by decide +kernel),dz (l:=[50]) (z:=2) (by decide +kernel) (by decide +kernel)]
theorem Hc:fK (·.q) [51,56] du=[[50,53],[49,51]]:=by
 unfold fK;rw[show dh (valI [51,56]) ((du.map (·.q)).map valI)=[25,13] from(tE (T:=38) (by decide) (by decide +kernel) IB (by decide +kernel)).trans (by decide +kernel)];show [ofI 25,ofI 13]=_;rw[dz (l:=[50,53]) (z:=25) (by decide +kernel) (by decide +kernel),dz (l:=[49,51]) (z:=13) (by decide +kernel) (by decide +kernel)]
theorem Hd:fK (·.c) [49,49,50] du=[[57,51],[49,57]]:=by
 unfold fK;rw[show dh (valI [49,49,50]) ((du.map (·.c)).map valI)=[93,19] from(tE (T:=112) (by decide) (by decide +kernel) IC (by decide +kernel)).trans (by decide +kernel)];show [ofI 93,ofI 19]=_;rw[dz (l:=[57,51]) (z:=93) (by decide +kernel) (by decide +kernel),dz (l:=[49,57]) (z:=19) (by decide +kernel) (by decide +kernel)]
end
section
open Go.RowKit Go.BigFrame
section
variable {F:Fence} {n:Nat} {P:Program} {ops:Array Oper} {Q:Exit→Act→World→Prop} {a:Act} {w:World} {rest:List Oper} {o:Oper}
theorem eX(hfn:∀k,F.fn k)(hw:Region.wanted o (yielded ops a.tmps)=true)(ty:TypeId)(x:Operand)(ho:o.op = .load ty x)
  (b off:Nat) (hx:a.eval x = .pointer (some ⟨b,off,none⟩)) (cs:List Value) (d:TypeDesc) (hc:w.rangeAt b off cs)
  (hu:P.underlying ty=some d) (hd:d.isRow=true) (hi:(P.info? ty).map (·.size)=some cs.length)
  (h:wpListIn F n P ops Q rest (a.put o.dst (.agg cs.toArray)) w):wpListIn F n P ops Q (o :: rest) a w:=by
 refine wpListIn_want hw fun K hK=>?_
 unfold Oper.wpIn;refine⟨fun f _=>hfn f,?_⟩;rw[ll (by rw[ho];rfl)];unfold execOp;simp only[ho,hx,Instr.loadAt,Instr.sureAddr,Sem.run_bind,Sem.run_pure,Result.andThen_ok,run_loadVar_mid w b off ty cs d hc hu hd hi];exact hK _ _ h
theorem aZ(hfn:∀k,F.fn k)(hg:o.guard=none)(ty:TypeId)(x y:Operand)(ho:o.op = .store ty x y)(p v:Value)(hx:a.eval x=p)(hy:a.eval y=v)(w':World)
  (hrun:(Instr.storeAt ty p v).run P w = .ok () w') (h:wpListIn F n P ops Q rest (a.put o.dst undef) w'):wpListIn F n P ops Q (o :: rest) a w:=by
 refine wpListIn_plain hg fun K hK=>?_
 unfold Oper.wpIn;refine⟨fun f _=>hfn f,?_⟩;rw[ll (by rw[ho];rfl)];unfold execOp;simp only[ho,hx,hy,Sem.run_bind,hrun,Result.andThen_ok];exact hK _ _ h
end
end
section
open Go.RowKit Go.Shelf
attribute [local go_sem] size_bs toList_bs Oper.semAt_some
abbrev iV:LotV:=⟨[120,47,49],[100,101,102],19700,19700,[53],[57,51],[53]⟩
abbrev kF:LotV:=⟨[120,47,50],[100,101,102],19710,19710,[50],[49,57],[50]⟩
def EH(w:World)(e:Ending)(w':World):Prop:=∃AL cl gG oG cg AS n cs AE,e = .returned (.tuple #[.agg #[.slice AL 2 cl,.slice (some ⟨gG,oG,none⟩) 2 cg,.slice AS n cs,.slice AE 1 1],.int .i64 0])∧bp w' AL [iV,kF] ∧
 w'.cell? ⟨gG,oG+6,none⟩=some (.string (bs [50,53]))∧w'.cell? ⟨gG,oG+10+7,none⟩=some (.string (bs [49]))∧Ext w w'
theorem ez{w w':World}{g:Nat}{x:LotV}{n p k:Bs}(h:Blk w g 102 (jM x n p k))(hx:Ext w w') :
  w'.cell? ⟨g,0,none⟩=some (.string (bs x.id))∧w'.cell? ⟨g,1,none⟩=some (.string (bs x.ins))∧w'.cell? ⟨g,2,none⟩=some (.int .i64 x.acq)∧w'.cell? ⟨g,3,none⟩=some (.int .i64 x.opn)∧w'.cell? ⟨g,4,none⟩=some (.string (bs x.q)) ∧
  w'.cell? ⟨g,5,none⟩=some (.string (bs x.c))∧w'.cell? ⟨g,6,none⟩=some (.string (bs x.u))∧w'.cell? ⟨g,7,none⟩=some (.string (bs n))∧w'.cell? ⟨g,8,none⟩=some (.string (bs p))∧w'.cell? ⟨g,9,none⟩=some (.string (bs k)):=by
 have k:=h.ext hx;exact⟨k.cell 0,k.cell 1,k.cell 2,k.cell 3,k.cell 4,k.cell 5,k.cell 6,k.cell 7,k.cell 8,k.cell 9⟩
theorem eI{fn:Func}{a b:Tmp}(h:fn.results=#[.cell a 37,.tmp b])(tmps:Array Value)(w:World)(g:Nat)(x y z u v:Value)(ha:tmps.getD a undef = .pointer (some ⟨g,0,none⟩))(hv:tmps.getD b undef=v)(hb:Blk w g 37 #[x,y,z,u]) :
  (results fn tmps).run Tryz.prog w = .ok (.tuple #[.agg #[x,y,z,u],v]) w:=by
 have q0:w.cell? ⟨g,0,none⟩=some x:=hb.cell 0;have q1:w.cell? ⟨g,1,none⟩=some y:=hb.cell 1;have q2:w.cell? ⟨g,2,none⟩=some z:=hb.cell 2;have q3:w.cell? ⟨g,3,none⟩=some u:=hb.cell 3;unfold results;rw[h];simp only[List.mapM_toArray,List.mapM_cons,List.mapM_nil,ha,hv];go_simp
theorem jA{w w':World}{g:Nat}{t:TypeId}{a0 a1 a2 a3 a4 a5 a6 a7 a8 a9:Value}(h:Blk w g t #[a0,a1,a2,a3,a4,a5,a6,a7,a8,a9])(hx:Ext w w') :
  w'.cell? ⟨g,0,none⟩=some a0∧w'.cell? ⟨g,1,none⟩=some a1∧w'.cell? ⟨g,2,none⟩=some a2∧w'.cell? ⟨g,3,none⟩=some a3∧w'.cell? ⟨g,4,none⟩=some a4∧w'.cell? ⟨g,5,none⟩=some a5∧w'.cell? ⟨g,6,none⟩=some a6∧w'.cell? ⟨g,7,none⟩=some a7∧w'.cell? ⟨g,8,none⟩=some a8∧w'.cell? ⟨g,9,none⟩=some a9:=by
 have k:=h.ext hx;exact⟨k.cell 0,k.cell 1,k.cell 2,k.cell 3,k.cell 4,k.cell 5,k.cell 6,k.cell 7,k.cell 8,k.cell 9⟩
theorem bh{w w':World}{g:Nat}{x y z u:Value}(h:Blk w g 37 #[x,y,z,u])(hx:Ext w w') :
  w'.cell? ⟨g,0,none⟩=some x∧w'.cell? ⟨g,1,none⟩=some y∧w'.cell? ⟨g,2,none⟩=some z∧w'.cell? ⟨g,3,none⟩=some u:=by
 have k:=h.ext hx;exact⟨k.cell 0,k.cell 1,k.cell 2,k.cell 3⟩
end
section
open Go.RowKit Go.Shelf
attribute [local go_sem] size_bs toList_bs
def bd(ls:List LotV)(ins:Bs):List LotV:=ls.filter (fun x=>decide (x.ins≠ins))
theorem yf{ls:List LotV}{ins:Bs}{k:Nat}(h:k<ls.length):bd (ls.take (k+1)) ins=bd (ls.take k) ins++(if(ls[k]'h).ins=ins then [] else [ls[k]'h]):=by
 unfold bd;rw[List.take_succ_eq_append_getElem h,List.filter_append];congr 1
 by_cases e:(ls[k]'h).ins=ins
 ·rw[if_pos e];simp[e]
 ·rw[if_neg e];simp[e]
def aM(o:OptV)(cs N cash:Bs):Bs:=if N=[] then [] else ofI (valI cs+eB (valI cs) (valI cash) (valI (ofI (cD o.v N)))-valI cash)
def aN(o:OptV)(ins N:Bs):Bs:=if N=[] then ins else o.other
def dx(N key other:Bs)(olds:List LotV)(cash basis:Bs):ApSt:=bM N key other olds (aI (·.q) N olds) (aI (·.q) cash olds) (aI (·.c) basis olds) olds.length
abbrev cU(key ins:Bs)(day:Int)(id:Bs)(acq:Int)(q:Value)(p l:Bs):Array Value:=#[.string (bs key),.string (bs id),.string (bs ins),.int .i64 acq,.int .i64 day,q,.string (bs p),.string (bs l),.string ⟨#[]⟩,.string ⟨#[]⟩]
abbrev ju(key:Bs)(a b c d e:Value):Array Value:=#[.string (bs key),a,b,c,d,e]
theorem qk(key ins:Bs)(day:Int)(gs:List GainR)(g:GainR):(gs++[g]).flatMap (dv key ins day)=gs.flatMap (dv key ins day)++dv key ins day g:=by simp
theorem jj(key:Bs)(ss:List StepR)(s:StepR):(ss++[s]).flatMap (dI key)=ss.flatMap (dI key)++dI key s:=by simp
def AJ(W0:World)(U V Z:Nat)(lp:Loop)(vl vs vf:Value)(key ins:Bs)(day:Int)(s:ApSt)(S:Nat)(cs:Array Value)(W:World):Prop :=
 ∃vg,ARB W0 U V Z lp vl vg vs vf (ofI s.ex) s.gs.length s.ss.length s.fs.length (s.gs.flatMap (dv key ins day)) (s.ss.flatMap (dI key)) (lots s.fs) W∧Blk W S 102 cs
def EI(W0:World)(U V Z:Nat)(lp:Loop)(vl vg vs:Value)(kg ks:Nat)(gs ss:List Value)(F:List LotV)(X:Int)(S:Nat)(cs:Array Value)(W:World):Prop :=
 ∃vf,ARB W0 U V Z lp vl vg vs vf (ofI X) kg ks F.length gs ss (lots F) W∧Blk W S 102 cs
theorem dL.close{W0 W:World}{U V Z:Nat}{lp lp':Loop}{vl vg vs vf:Value}{ex key ins:Bs}{day:Int}{kg ks kf:Nat}{gs ss fs:List Value}(h:ARB W0 U V Z lp vl vg vs vf ex kg ks kf gs ss fs W)(hU:U<W0.heap.size)(hV:V<W0.heap.size)(hZ:Z<W0.heap.size)(s:ApSt)
  (e1:ofI s.ex=ex) (e2:s.gs.length=kg) (e3:s.ss.length=ks) (e4:s.fs.length=kf) (e5:s.gs.flatMap (dv key ins day)=gs) (e6:s.ss.flatMap (dI key)=ss) (e7:lots s.fs=fs) :
  dL W0 U V Z lp' vl key ins day s (W.putObj (W0.heap.size+1) (.loop lp')):=by
 subst e1 e2 e3 e4 e5 e6 e7;exact⟨_,_,_,h.put hU hV hZ⟩
theorem gA(key other:Bs)(s:ApSt)(x:LotV)(n p b:Bs){lo:Bs}(h:dw x b=lo):fz [] key other s x n p b=⟨s.gs++bE [] x p lo,s.ss++[⟨x.id,[],x.q,[],x.c⟩],s.fs,s.ex⟩:=by
 subst h;unfold fz;rw[if_pos rfl]
def io(key other:Bs)(s:ApSt)(x:LotV)(n b:Bs):List LotV:=s.fs++js key other s x n b
def jO(s:ApSt)(n b:Bs):Int:=if n=[] then s.ex+valI b else s.ex
theorem dm{N:Bs}(hN:N≠[])(key other:Bs)(s:ApSt)(x:LotV)(n p b:Bs){lo:Bs}(h:dw x b=lo):fz N key other s x n p b =
  ⟨s.gs++bE N x p lo,(s.ss++[⟨x.id,fL key s n,x.q,n,b⟩])++(if lo=[] then [] else [⟨x.id,[],[],[],lo⟩]),io key other s x n b,jO s n b⟩:=by
 subst h;unfold fz;rw[if_neg hN];rfl
def ay(s:ApSt):List LotV:=match s.fs with
 |[]=>[]
 |x :: r=>⟨x.id,x.ins,x.acq,x.opn,x.q,ofI (valI x.c+s.ex),x.u⟩ :: r
theorem gB(s:ApSt):(ay s).length=s.fs.length:=by unfold ay;split <;> simp_all
theorem py(s:ApSt)(k:Nat)(h:k<s.fs.length):(ay s)[k]'(by rw[gB];exact h)=if k=0 then⟨(s.fs[k]'h).id,(s.fs[k]'h).ins,(s.fs[k]'h).acq,(s.fs[k]'h).opn,(s.fs[k]'h).q,ofI (valI (s.fs[k]'h).c+s.ex),(s.fs[k]'h).u⟩ else s.fs[k]'h:=by
 obtain⟨gs,ss,fs,ex⟩:=s
 cases fs with
 |nil=>simp at h
 |cons x r=>cases k with
  |zero=>rfl
  |succ k=>rfl
def aG(L fs:List LotV):List LotV:=fs.foldl (fun l x=>bO l (eW l x.ins l.length) x) L
theorem pz(L:List LotV){fs:List LotV}{k:Nat}(h:k<fs.length):aG L (fs.take (k+1))=bO (aG L (fs.take k)) (eW (aG L (fs.take k)) (fs[k]'h).ins (aG L (fs.take k)).length) (fs[k]'h):=by
 unfold aG;rw[List.take_succ_eq_append_getElem h,List.foldl_append];rfl
structure OpOK (L:List LotV) (x:LotV):Prop where
 sm:∀y ∈ L,bv y
 ln:L.length<1000
 all:aw L=0
 sx:bv x
 cx:bU x=0
 nf:(cr L x.id).isSome=false
structure OPa (W0:World) (U V Z:Nat) (vg vs vf:Value) (s:ApSt) (key ins:Bs) (day:Int) (L:List LotV) (W:World):Prop where
 fr:Ex3 W0 U V Z W
 u:∃Ak ck,Blk W U rT #[.slice Ak L.length ck,vg,vs,.slice none 0 0]∧bp W Ak L∧L.length≤ck
 v:Blk W V bT #[vf]
 z:Blk W Z iT #[.string (bs (ofI s.ex))]
 og:W.ownsRow W0.heap.size gT 10 vg s.gs.length (s.gs.flatMap (dv key ins day))
 os:W.ownsRow W0.heap.size sT 6 vs s.ss.length (s.ss.flatMap (dI key))
 fo:W.ownsRow W0.heap.size lT 7 vf s.fs.length (lots s.fs)
 D:W.heap[W0.heap.size]? = some (.deferred (some []))
section
variable {W0 W W':World} {U V Z k ks:Nat} {vl vg vs vf:Value} {s:ApSt} {key ins:Bs} {day:Int} {L:List LotV} {lp:Loop}
theorem OPa.on(h:OPa W0 U V Z vg vs vf s key ins day L W)(hx:Ext W W'):OPa W0 U V Z vg vs vf s key ins day L W':=by
 obtain⟨Ak,ck,h1,h2,h3⟩:=h.u;exact⟨h.fr.on hx,⟨Ak,ck,h1.ext hx,h2.ext hx,h3⟩,h.v.ext hx,h.z.ext hx,aP h.og hx,aP h.os hx,aP h.fo hx,dK h.D hx⟩
theorem OPa.start{A:Option Addr}{c:Nat}(h:ARB W0 U V Z lp (.slice A L.length c) vg vs vf (ofI s.ex) s.gs.length s.ss.length s.fs.length (s.gs.flatMap (dv key ins day)) (s.ss.flatMap (dI key)) (lots s.fs) W)(hr:bp W A L)(hc:L.length≤c):OPa W0 U V Z vg vs vf s key ins day L W :=
 ⟨h.fr,⟨A,c,h.u,hr,hc⟩,h.v,h.z,h.og,h.os,h.fo,h.D⟩
theorem OPa.more{Ak A2:Option Addr}{n n2 ck c2:Nat}{L2:List LotV}(h:OPa W0 U V Z vg vs vf s key ins day L W)(hb:Blk W U rT #[.slice Ak n ck,vg,vs,.slice none 0 0])(hUV:U≠V)(hUZ:U≠Z)(hU:U<W0.heap.size)(hr:bp W A2 L2)(e:L2.length=n2)(hc:L2.length≤c2) :
  OPa W0 U V Z vg vs vf s key ins day L2 (W.setCell ⟨U,0,none⟩ (.slice A2 n2 c2)):=by
 subst e;exact⟨h.fr.set (.inl rfl) _,⟨A2,c2,hb.set_ 0 _,fG hr hb ⟨_,_,_,rfl⟩,hc⟩,h.v.far (p:=⟨U,0,none⟩) (Ne.symm hUV) _,h.z.far (p:=⟨U,0,none⟩) (Ne.symm hUZ) _,bH h.og hb (by decide),bH h.os hb (by decide),bH h.fo hb (by decide),de h.D (by omega)⟩
end
theorem bp.putD{W:World}{A:Option Addr}{L:List LotV}{l:Nat}{o:Obj}(h:bp W A L)(hl:W.heap[l]? = some o)(ho:∀cs t z,o ≠ .cells cs t z)(o':Obj):bp (W.putObj l o') A L:=by
 cases L with
 |nil=>exact⟨by simp,fun h=>absurd h (by simp)⟩
 |cons x r=>exact Reads.put h hl ho (by simp[aU]) o'
abbrev gC(cash cs basis:Bs):Array Value:=#[.string ⟨#[99,97,115,104]⟩,.string (bs cash),.string ⟨#[99,111,115,116]⟩,.string (bs cs),.string ⟨#[98,97,115,105,115]⟩,.string (bs basis)]
abbrev iW(f:FactV)(other:Bs)(v:Value):Array Value:=#[.int .i64 12,.int .i64 f.day,.string (bs f.key),.string (bs f.ins),.string (bs other),.string ⟨#[]⟩,v]
def BB(w:World)(f:FactV)(cash cs basis other:Bs)(oths:List LotV)(st:ApSt)(e:Ending)(w':World):Prop :=
 ∃AL cl AG cg AS cs' gE gT',e = .returned (.tuple #[.agg #[.slice AL (aG oths (ay st)).length cl,.slice AG st.gs.length cg,.slice AS st.ss.length cs',.slice (some ⟨gE,0,none⟩) 1 1],.int .i64 0]) ∧
   (bp w' AL (aG oths (ay st))∧(aG oths (ay st)).length≤cl)∧Reads w' 10 AG st.gs.length (st.gs.flatMap (dv f.key f.ins f.day))∧Reads w' 6 AS st.ss.length (st.ss.flatMap (dI f.key)) ∧
   Blk w' gE 62 (iW f other (.slice (some ⟨gT',0,none⟩) 3 3))∧Blk w' gT' 65 (gC cash cs basis)∧Ext w w'
def He(w:World)(ls:List LotV)(f:FactV)(cash cs basis other:Bs)(oths:List LotV)(st:ApSt)(e:Ending)(w':World):Prop :=
 ((∃x ∈ st.fs,(cr ls x.id).isSome=true)∧e = .returned (.tuple #[.agg #[.slice none 0 0,.slice none 0 0,.slice none 0 0,.slice none 0 0],.int .i64 5])∧Ext w w') ∨
 ((∀x ∈ st.fs,(cr ls x.id).isSome=false)∧BB w f cash cs basis other oths st e w')
structure ApIn (w:World) (ls:List LotV) (A:Option Addr) (c:Nat) (f:FactV) (ps:List Fr) (os:List OptV) (pa oa:Option Addr) (pc oq:Nat) (ch:Nat) (o:OptV) (N cash cs:Bs) (fr:Fr):Prop where
 la:bp w A ls
 lsm:∀x ∈ ls,bv x
 ln:ls.length≤1000
 all:aw ls=0
 fa:FactAt w f ps os pa oa pc
 fe:cP f ps os=0
 kd:f.kind=10
 at_:∃h:ch<os.length,os[ch]'h=o
 old:ap ls f.ins≠[]
 cst:cs=ofI (au ls f.ins)
 tv:da o (ofI (aJ ls f.ins))=(N,cash,fr,0)
 osm:eP 100 o
 lq:(ofI (aJ ls f.ins)).length≤100
 lc:cs.length≤100
 lN:N.length≤1000
 lcash:cash.length≤1000
 lval:(ofI (cD o.v N)).length≤1000
 cc:aq cash=0
 cn:0≤valI cash
 kS:∀b ∈ aI (·.c) (aM o cs N cash) (ap ls f.ins),b.length≤5000
 kN:fx N ((ap ls f.ins).map (·.q))
 kC:fx cash ((ap ls f.ins).map (·.q))
 kB:fx (aM o cs N cash) ((ap ls f.ins).map (·.c))
 fsm:∀x ∈ (dx N f.key (aN o f.ins N) (ap ls f.ins) cash (aM o cs N cash)).fs,x.c.length≤10000
 opn:(∀x ∈ (dx N f.key (aN o f.ins N) (ap ls f.ins) cash (aM o cs N cash)).fs,(cr ls x.id).isSome=false)→∀k (hk:k<(ay (dx N f.key (aN o f.ins N) (ap ls f.ins) cash (aM o cs N cash))).length),
  OpOK (aG (bd ls f.ins) ((ay (dx N f.key (aN o f.ins N) (ap ls f.ins) cash (aM o cs N cash))).take k)) ((ay (dx N f.key (aN o f.ins N) (ap ls f.ins) cash (aM o cs N cash)))[k]'hk)
end
section
open Go.RowKit Go.Shelf
attribute [local go_sem] size_bs toList_bs append_bs append_lit Oper.semAt_some
abbrev cz:Array Value:=#[.slice none 0 0,.slice none 0 0,.slice none 0 0,.slice none 0 0]
def tF(w:World)(k:Int)(e:Ending)(w':World):Prop:=e = .returned (.tuple #[.agg cz,.int .i64 k])∧Ext w w'
section
variable (w:World) (ls:List LotV) (A:Option Addr) (c:Nat) (f:FactV) (ps:List Fr) (os:List OptV) (pa oa:Option Addr) (pc oq:Nat) (ch:Int)
theorem yg(hE:Env w)(hA:bp w A ls)(hF:FactAt w f ps os pa oa pc)(hwf:(Lit.int .i64 f.kind).wf=true)(hsm:∀x ∈ ls,bv x)(hn:ls.length≤2000)(h1:aw ls≠0) :
  Calls Tryz.prog 14 #[.slice A ls.length c,aB f (ac pa ps.length pc) (ac oa os.length oq),.int .i64 ch] w (tF w 1):=by
 have hfn:∀k,Fence.wide.fn k:=fun _=>trivial
 have hdp:Fence.wide.depth.isSome=false:=rfl;have q1:(aw ls != 0)=true:=by rw[bne_iff_ne];exact h1
 have HE:=qh hE;have HA:=qh hA;have CA:=qh (fun W (hx:Ext w W)=>d5 ls A c W (hE.ext hx) (hA.ext hx) hsm (by omega));have CF:=qh (fun W (hx:Ext w W)=>jh f ps os pa oa pc oq W (hF.ext hx) hwf (hE.ext hx));have CO:=qh (fun W (hx:Ext w W)=>gH ls A c f.ins W (hA.ext hx) (by omega));have CL:=qh (fun W (hx:Ext w W)=>lM ls A c W (hA.ext hx) (by omega));clear hA hF hE;have HF:=qh ((Blk.new w 30 (af f (ac pa ps.length pc) (ac oa os.length oq))).alloc (.cells cz 37));have HR:=qh (Blk.newAt (w.alloc (.cells (af f (ac pa ps.length pc) (ac oa os.length oq)) 30)) 37 cz (w.heap.size+1) (by simp));have HX:Hid (Ext w ((w.alloc (.cells (af f (ac pa ps.length pc) (ac oa os.length oq)) 30)).alloc (.cells cz 37))):=qh ((Ext.new _ _).alloc _);have hs1:(Tryz.prog.info? 30).map (·.size)=some (af f (ac pa ps.length pc) (ac oa os.length oq)).toList.length:=by kernel_rfl
 generalize aw ls=z at *;clear h1 CF CO CL;refine(callsIn_wide (n:=5)).1 ?_;refine callsIn_of_wp_marks Tryz.func14 rfl trivial ?_ rfl;simp only[Tryz.ntmps14,List.size_toArray,List.length_cons,List.length_nil,Nat.reduceAdd,Nat.reduceSub,Array.replicate_succ,Array.replicate_zero,List.push_toArray,List.append_toArray,List.nil_append,List.cons_append];gi_wp2_with fail;refine(callsIn_wide.2 (CA.out _ HX.out)).mono ?_;rintro e w1⟨rfl,hx1⟩;replace HX:=HX.qt hx1;replace HF:=qh (HF.out.ext hx1);replace HR:=qh (HR.out.ext hx1);clear hx1 CA;obtain⟨u0,u1,u2,u3⟩:=bh HR.out (Ext.refl _);have u4:=HR.out.frozen 0;have u5:=HR.out.frozen 1;have u6:=HR.out.frozen 2;have u7:=HR.out.frozen 3;have hww:w.heap.size≤w.heap.size+1:=Nat.le_succ _;gi_wp2_with fail;refine⟨_,eI rfl _ _ (w.heap.size+1) _ _ _ _ (.int .i64 1) rfl rfl ((((HR.out.set_ 0 (.slice none 0 0)).set_ 1 (.slice none 0 0)).set_ 2 (.slice none 0 0)).set_ 3 (.slice none 0 0)),?_⟩;exact⟨rfl,(((HX.out.setCell (p:=⟨w.heap.size+1,0,none⟩) hww _).setCell (p:=⟨w.heap.size+1,1,none⟩) hww _).setCell (p:=⟨w.heap.size+1,2,none⟩) hww _).setCell (p:=⟨w.heap.size+1,3,none⟩) hww _⟩
theorem yh(hE:Env w)(hA:bp w A ls)(hF:FactAt w f ps os pa oa pc)(hwf:(Lit.int .i64 f.kind).wf=true)(hsm:∀x ∈ ls,bv x)(hn:ls.length≤2000)(h1:aw ls=0)(h2:cP f ps os≠0) :
  Calls Tryz.prog 14 #[.slice A ls.length c,aB f (ac pa ps.length pc) (ac oa os.length oq),.int .i64 ch] w (tF w 1):=by
 have hfn:∀k,Fence.wide.fn k:=fun _=>trivial
 have hdp:Fence.wide.depth.isSome=false:=rfl;have q1:(cP f ps os != 0)=true:=by rw[bne_iff_ne];exact h2
 have HE:=qh hE;have HA:=qh hA;have CA:=qh (fun W (hx:Ext w W)=>d5 ls A c W (hE.ext hx) (hA.ext hx) hsm (by omega));have CF:=qh (fun W (hx:Ext w W)=>jh f ps os pa oa pc oq W (hF.ext hx) hwf (hE.ext hx));have CO:=qh (fun W (hx:Ext w W)=>gH ls A c f.ins W (hA.ext hx) (by omega));have CL:=qh (fun W (hx:Ext w W)=>lM ls A c W (hA.ext hx) (by omega));clear hA hF hE;have HF:=qh ((Blk.new w 30 (af f (ac pa ps.length pc) (ac oa os.length oq))).alloc (.cells cz 37));have HR:=qh (Blk.newAt (w.alloc (.cells (af f (ac pa ps.length pc) (ac oa os.length oq)) 30)) 37 cz (w.heap.size+1) (by simp));have HX:Hid (Ext w ((w.alloc (.cells (af f (ac pa ps.length pc) (ac oa os.length oq)) 30)).alloc (.cells cz 37))):=qh ((Ext.new _ _).alloc _);have hs1:(Tryz.prog.info? 30).map (·.size)=some (af f (ac pa ps.length pc) (ac oa os.length oq)).toList.length:=by kernel_rfl
 rw[h1]at CA;generalize cP f ps os=z at *;clear h1 h2 CO CL;refine(callsIn_wide (n:=5)).1 ?_;refine callsIn_of_wp_marks Tryz.func14 rfl trivial ?_ rfl;simp only[Tryz.ntmps14,List.size_toArray,List.length_cons,List.length_nil,Nat.reduceAdd,Nat.reduceSub,Array.replicate_succ,Array.replicate_zero,List.push_toArray,List.append_toArray,List.nil_append,List.cons_append];gi_wp2_with fail;refine(callsIn_wide.2 (CA.out _ HX.out)).mono ?_;rintro e w1⟨rfl,hx1⟩;replace HX:=HX.qt hx1;replace HF:=qh (HF.out.ext hx1);replace HR:=qh (HR.out.ext hx1);clear hx1 CA;have hrg:=aA HF.out;gi_wp2_with (first|refine eX hfn (by rfl) 30 _ rfl w.heap.size 0 rfl _ _ hrg Tryz.underlying30 rfl hs1 ?_|fail);refine(callsIn_wide.2 (CF.out _ HX.out)).mono ?_;rintro e w2⟨rfl,hx1⟩;replace HX:=HX.qt hx1;replace HF:=qh (HF.out.ext hx1);replace HR:=qh (HR.out.ext hx1);clear hx1 hrg CF;obtain⟨u0,u1,u2,u3⟩:=bh HR.out (Ext.refl _);have u4:=HR.out.frozen 0;have u5:=HR.out.frozen 1;have u6:=HR.out.frozen 2;have u7:=HR.out.frozen 3;have hww:w.heap.size≤w.heap.size+1:=Nat.le_succ _;gi_wp2_with fail;refine⟨_,eI rfl _ _ (w.heap.size+1) _ _ _ _ (.int .i64 1) rfl rfl ((((HR.out.set_ 0 (.slice none 0 0)).set_ 1 (.slice none 0 0)).set_ 2 (.slice none 0 0)).set_ 3 (.slice none 0 0)),?_⟩;exact⟨rfl,(((HX.out.setCell (p:=⟨w.heap.size+1,0,none⟩) hww _).setCell (p:=⟨w.heap.size+1,1,none⟩) hww _).setCell (p:=⟨w.heap.size+1,2,none⟩) hww _).setCell (p:=⟨w.heap.size+1,3,none⟩) hww _⟩
theorem yi(hE:Env w)(hA:bp w A ls)(hF:FactAt w f ps os pa oa pc)(hwf:(Lit.int .i64 f.kind).wf=true)(hsm:∀x ∈ ls,bv x)(hn:ls.length≤2000)(h1:aw ls=0)(h2:cP f ps os=0)(h3:f.kind≠10) :
  Calls Tryz.prog 14 #[.slice A ls.length c,aB f (ac pa ps.length pc) (ac oa os.length oq),.int .i64 ch] w (tF w 7):=by
 have hfn:∀k,Fence.wide.fn k:=fun _=>trivial
 have hdp:Fence.wide.depth.isSome=false:=rfl;have q1:(f.kind != 10)=true:=by rw[bne_iff_ne];exact h3
 have HE:=qh hE;have HA:=qh hA;have CA:=qh (fun W (hx:Ext w W)=>d5 ls A c W (hE.ext hx) (hA.ext hx) hsm (by omega));have CF:=qh (fun W (hx:Ext w W)=>jh f ps os pa oa pc oq W (hF.ext hx) hwf (hE.ext hx));have CO:=qh (fun W (hx:Ext w W)=>gH ls A c f.ins W (hA.ext hx) (by omega));have CL:=qh (fun W (hx:Ext w W)=>lM ls A c W (hA.ext hx) (by omega));clear hA hF hE;have HF:=qh ((Blk.new w 30 (af f (ac pa ps.length pc) (ac oa os.length oq))).alloc (.cells cz 37));have HR:=qh (Blk.newAt (w.alloc (.cells (af f (ac pa ps.length pc) (ac oa os.length oq)) 30)) 37 cz (w.heap.size+1) (by simp));have HX:Hid (Ext w ((w.alloc (.cells (af f (ac pa ps.length pc) (ac oa os.length oq)) 30)).alloc (.cells cz 37))):=qh ((Ext.new _ _).alloc _);have hs1:(Tryz.prog.info? 30).map (·.size)=some (af f (ac pa ps.length pc) (ac oa os.length oq)).toList.length:=by kernel_rfl
 rw[h1]at CA;rw[h2]at CF;clear h1 h2 h3 CO CL;refine(callsIn_wide (n:=5)).1 ?_;refine callsIn_of_wp_marks Tryz.func14 rfl trivial ?_ rfl;simp only[Tryz.ntmps14,List.size_toArray,List.length_cons,List.length_nil,Nat.reduceAdd,Nat.reduceSub,Array.replicate_succ,Array.replicate_zero,List.push_toArray,List.append_toArray,List.nil_append,List.cons_append];gi_wp2_with fail;refine(callsIn_wide.2 (CA.out _ HX.out)).mono ?_;rintro e w1⟨rfl,hx1⟩;replace HX:=HX.qt hx1;replace HF:=qh (HF.out.ext hx1);replace HR:=qh (HR.out.ext hx1);clear hx1 CA;have hrg:=aA HF.out;gi_wp2_with (first|refine eX hfn (by rfl) 30 _ rfl w.heap.size 0 rfl _ _ hrg Tryz.underlying30 rfl hs1 ?_|fail);refine(callsIn_wide.2 (CF.out _ HX.out)).mono ?_;rintro e w2⟨rfl,hx1⟩;replace HX:=HX.qt hx1;replace HF:=qh (HF.out.ext hx1);replace HR:=qh (HR.out.ext hx1);clear hx1 hrg CF;obtain⟨x0,-,-,x3,x4,x5,-,-,-,-,-,-,-,-,-,-,-,-,-,x19,-⟩:=ae HF.out (Ext.refl _);obtain⟨u0,u1,u2,u3⟩:=bh HR.out (Ext.refl _);have u4:=HR.out.frozen 0;have u5:=HR.out.frozen 1;have u6:=HR.out.frozen 2;have u7:=HR.out.frozen 3;have hww:w.heap.size≤w.heap.size+1:=Nat.le_succ _;gi_wp2_with fail;refine⟨_,eI rfl _ _ (w.heap.size+1) _ _ _ _ (.int .i64 7) rfl rfl ((((HR.out.set_ 0 (.slice none 0 0)).set_ 1 (.slice none 0 0)).set_ 2 (.slice none 0 0)).set_ 3 (.slice none 0 0)),?_⟩;exact⟨rfl,(((HX.out.setCell (p:=⟨w.heap.size+1,0,none⟩) hww _).setCell (p:=⟨w.heap.size+1,1,none⟩) hww _).setCell (p:=⟨w.heap.size+1,2,none⟩) hww _).setCell (p:=⟨w.heap.size+1,3,none⟩) hww _⟩
theorem yj(hE:Env w)(hA:bp w A ls)(hF:FactAt w f ps os pa oa pc)(hwf:(Lit.int .i64 f.kind).wf=true)(hsm:∀x ∈ ls,bv x)(hn:ls.length≤2000)(h1:aw ls=0)(h2:cP f ps os=0)(h3:f.kind=10)(h4:ch<0∨(os.length:Int)≤ch) :
  Calls Tryz.prog 14 #[.slice A ls.length c,aB f (ac pa ps.length pc) (ac oa os.length oq),.int .i64 ch] w (tF w 2):=by
 have hfn:∀k,Fence.wide.fn k:=fun _=>trivial
 have hdp:Fence.wide.depth.isSome=false:=rfl;have HKD:=qh h3;have HE:=qh hE;have HA:=qh hA;have CA:=qh (fun W (hx:Ext w W)=>d5 ls A c W (hE.ext hx) (hA.ext hx) hsm (by omega));have CF:=qh (fun W (hx:Ext w W)=>jh f ps os pa oa pc oq W (hF.ext hx) hwf (hE.ext hx));have CO:=qh (fun W (hx:Ext w W)=>gH ls A c f.ins W (hA.ext hx) (by omega));have CL:=qh (fun W (hx:Ext w W)=>lM ls A c W (hA.ext hx) (by omega));clear hA hF hE;have HF:=qh ((Blk.new w 30 (af f (ac pa ps.length pc) (ac oa os.length oq))).alloc (.cells cz 37));have HR:=qh (Blk.newAt (w.alloc (.cells (af f (ac pa ps.length pc) (ac oa os.length oq)) 30)) 37 cz (w.heap.size+1) (by simp));have HX:Hid (Ext w ((w.alloc (.cells (af f (ac pa ps.length pc) (ac oa os.length oq)) 30)).alloc (.cells cz 37))):=qh ((Ext.new _ _).alloc _);have hs1:(Tryz.prog.info? 30).map (·.size)=some (af f (ac pa ps.length pc) (ac oa os.length oq)).toList.length:=by kernel_rfl
 rw[h1]at CA;rw[h2]at CF;clear h1 h2 h3 CO CL;refine(callsIn_wide (n:=5)).1 ?_;refine callsIn_of_wp_marks Tryz.func14 rfl trivial ?_ rfl;simp only[Tryz.ntmps14,List.size_toArray,List.length_cons,List.length_nil,Nat.reduceAdd,Nat.reduceSub,Array.replicate_succ,Array.replicate_zero,List.push_toArray,List.append_toArray,List.nil_append,List.cons_append];gi_wp2_with fail;refine(callsIn_wide.2 (CA.out _ HX.out)).mono ?_;rintro e w1⟨rfl,hx1⟩;replace HX:=HX.qt hx1;replace HF:=qh (HF.out.ext hx1);replace HR:=qh (HR.out.ext hx1);clear hx1 CA;have hrg:=aA HF.out;gi_wp2_with (first|refine eX hfn (by rfl) 30 _ rfl w.heap.size 0 rfl _ _ hrg Tryz.underlying30 rfl hs1 ?_|fail);refine(callsIn_wide.2 (CF.out _ HX.out)).mono ?_;rintro e w2⟨rfl,hx1⟩;replace HX:=HX.qt hx1;replace HF:=qh (HF.out.ext hx1);replace HR:=qh (HR.out.ext hx1);clear hx1 hrg CF;obtain⟨x0,-,-,x3,x4,x5,-,-,-,-,-,-,-,-,-,-,-,-,-,x19,-⟩:=ae HF.out (Ext.refl _);rw[HKD.out]at x4;obtain⟨u0,u1,u2,u3⟩:=bh HR.out (Ext.refl _);have u4:=HR.out.frozen 0;have u5:=HR.out.frozen 1;have u6:=HR.out.frozen 2;have u7:=HR.out.frozen 3;have hww:w.heap.size≤w.heap.size+1:=Nat.le_succ _;by_cases h0:ch<0
 ·have q2:decide (ch<0)=true:=decide_eq_true h0;clear h4 h0;gi_wp2_with fail;refine⟨_,eI rfl _ _ (w.heap.size+1) _ _ _ _ (.int .i64 2) rfl rfl ((((HR.out.set_ 0 (.slice none 0 0)).set_ 1 (.slice none 0 0)).set_ 2 (.slice none 0 0)).set_ 3 (.slice none 0 0)),?_⟩;exact⟨rfl,(((HX.out.setCell (p:=⟨w.heap.size+1,0,none⟩) hww _).setCell (p:=⟨w.heap.size+1,1,none⟩) hww _).setCell (p:=⟨w.heap.size+1,2,none⟩) hww _).setCell (p:=⟨w.heap.size+1,3,none⟩) hww _⟩
 ·have q2:decide (ch<0)=false:=decide_eq_false h0;have q3:decide ((os.length:Int)≤ch)=true:=decide_eq_true (by omega);clear h4 h0;gi_wp2_with fail;refine⟨_,eI rfl _ _ (w.heap.size+1) _ _ _ _ (.int .i64 2) rfl rfl ((((HR.out.set_ 0 (.slice none 0 0)).set_ 1 (.slice none 0 0)).set_ 2 (.slice none 0 0)).set_ 3 (.slice none 0 0)),?_⟩;exact⟨rfl,(((HX.out.setCell (p:=⟨w.heap.size+1,0,none⟩) hww _).setCell (p:=⟨w.heap.size+1,1,none⟩) hww _).setCell (p:=⟨w.heap.size+1,2,none⟩) hww _).setCell (p:=⟨w.heap.size+1,3,none⟩) hww _⟩
theorem AK{ls:List LotV}{w w':World}{e:Ending}(h:xt ls w e w'):∃B d,e = .returned (.slice B ls.length d)∧bp w' B ls∧Ext w w':=by
 obtain⟨B,d,he,hx,hr⟩:=h;refine⟨B,d,he,?_,hx⟩
 cases ls with
 |nil=>exact⟨by simp,fun h=>absurd h (by simp)⟩
 |cons x r =>
  obtain⟨g,rfl,_,h⟩:=hr (by simp);exact h.reads
def CJ(w:World)(ls:List LotV)(e:Ending)(w':World):Prop:=∃B d,e = .returned (.tuple #[.agg #[.slice B ls.length d,.slice none 0 0,.slice none 0 0,.slice none 0 0],.int .i64 0])∧bp w' B ls∧Ext w w'
theorem BC(hE:Env w)(hA:bp w A ls)(hF:FactAt w f ps os pa oa pc)(hwf:(Lit.int .i64 f.kind).wf=true)(hsm:∀x ∈ ls,bv x)(hn:ls.length≤2000)(h1:aw ls=0)(h2:cP f ps os=0)(h3:f.kind=10)(h4:0≤ch∧ch<(os.length:Int))(h5:ap ls f.ins=[]) :
  Calls Tryz.prog 14 #[.slice A ls.length c,aB f (ac pa ps.length pc) (ac oa os.length oq),.int .i64 ch] w (CJ w ls):=by
 have hfn:∀k,Fence.wide.fn k:=fun _=>trivial
 have hdp:Fence.wide.depth.isSome=false:=rfl;have HKD:=qh h3;have HE:=qh hE;have HA:=qh hA;have CA:=qh (fun W (hx:Ext w W)=>d5 ls A c W (hE.ext hx) (hA.ext hx) hsm (by omega));have CF:=qh (fun W (hx:Ext w W)=>jh f ps os pa oa pc oq W (hF.ext hx) hwf (hE.ext hx));have CO:=qh (fun W (hx:Ext w W)=>gH ls A c f.ins W (hA.ext hx) (by omega));have CL:=qh (fun W (hx:Ext w W)=>lM ls A c W (hA.ext hx) (by omega));clear hA hF hE;have HF:=qh ((Blk.new w 30 (af f (ac pa ps.length pc) (ac oa os.length oq))).alloc (.cells cz 37));have HR:=qh (Blk.newAt (w.alloc (.cells (af f (ac pa ps.length pc) (ac oa os.length oq)) 30)) 37 cz (w.heap.size+1) (by simp));have HX:Hid (Ext w ((w.alloc (.cells (af f (ac pa ps.length pc) (ac oa os.length oq)) 30)).alloc (.cells cz 37))):=qh ((Ext.new _ _).alloc _);have hs1:(Tryz.prog.info? 30).map (·.size)=some (af f (ac pa ps.length pc) (ac oa os.length oq)).toList.length:=by kernel_rfl
 rw[h1]at CA;rw[h2]at CF
 have CO2:Hid (∀W,Ext w W→Calls Tryz.prog 26 #[.slice A ls.length c,.string (bs f.ins)] W fun e w'=>(∃A c,e = .returned (.slice A 0 c))∧Ext W w'):=qh (fun W hr=>(CO.out W hr).mono (by
  rintro e w'⟨A1,c1,rfl,_,_,hx⟩;rw[h5];exact⟨⟨A1,c1,rfl⟩,hx⟩))
 have q2:decide (ch<0)=false:=decide_eq_false (by omega);have q3:decide ((os.length:Int)≤ch)=false:=decide_eq_false (by omega);clear h1 h2 h3 h4 h5 CO;refine(callsIn_wide (n:=5)).1 ?_;refine callsIn_of_wp_marks Tryz.func14 rfl trivial ?_ rfl;simp only[Tryz.ntmps14,List.size_toArray,List.length_cons,List.length_nil,Nat.reduceAdd,Nat.reduceSub,Array.replicate_succ,Array.replicate_zero,List.push_toArray,List.append_toArray,List.nil_append,List.cons_append];gi_wp2_with fail;refine(callsIn_wide.2 (CA.out _ HX.out)).mono ?_;rintro e w1⟨rfl,hx1⟩;replace HX:=HX.qt hx1;replace HF:=qh (HF.out.ext hx1);replace HR:=qh (HR.out.ext hx1);clear hx1 CA;have hrg:=aA HF.out;gi_wp2_with (first|refine eX hfn (by rfl) 30 _ rfl w.heap.size 0 rfl _ _ hrg Tryz.underlying30 rfl hs1 ?_|fail);refine(callsIn_wide.2 (CF.out _ HX.out)).mono ?_;rintro e w2⟨rfl,hx1⟩;replace HX:=HX.qt hx1;replace HF:=qh (HF.out.ext hx1);replace HR:=qh (HR.out.ext hx1);clear hx1 hrg CF;obtain⟨x0,-,-,x3,x4,x5,-,-,-,-,-,-,-,-,-,-,-,-,-,x19,-⟩:=ae HF.out (Ext.refl _);rw[HKD.out]at x4;gi_wp2_with fail;refine(callsIn_wide.2 (CO2.out _ HX.out)).mono ?_;rintro e w3⟨⟨A',c',rfl⟩,hx1⟩;replace HX:=HX.qt hx1;replace HF:=qh (HF.out.ext hx1);replace HR:=qh (HR.out.ext hx1);clear hx1 CO2;gi_wp2_with fail;refine(callsIn_wide.2 (CL.out _ HX.out)).mono ?_;rintro e w4 hcl;obtain⟨B,d,rfl,hrd,hx1⟩:=AK hcl;replace HX:=HX.qt hx1;replace HF:=qh (HF.out.ext hx1);replace HR:=qh (HR.out.ext hx1);have HRD:=qh hrd;clear hx1 hrd hcl x0 x3 x4 x5 x19;obtain⟨u0,u1,u2,u3⟩:=bh HR.out (Ext.refl _);have u4:=HR.out.frozen 0;have u5:=HR.out.frozen 1;have u6:=HR.out.frozen 2;have u7:=HR.out.frozen 3;have hww:w.heap.size≤w.heap.size+1:=Nat.le_succ _;gi_wp2_with fail;refine⟨_,eI rfl _ _ (w.heap.size+1) _ _ _ _ (.int .i64 0) rfl rfl ((((HR.out.set_ 0 (.slice B ls.length d)).set_ 1 (.slice none 0 0)).set_ 2 (.slice none 0 0)).set_ 3 (.slice none 0 0)),?_⟩;refine⟨B,d,rfl,?_,(((HX.out.setCell (p:=⟨w.heap.size+1,0,none⟩) hww _).setCell (p:=⟨w.heap.size+1,1,none⟩) hww _).setCell (p:=⟨w.heap.size+1,2,none⟩) hww _).setCell (p:=⟨w.heap.size+1,3,none⟩) hww _⟩;have r0:=fG (u := .slice B ls.length d) HRD.out HR.out (k:=0) ⟨_,_,_,rfl⟩;have b0:=HR.out.set_ 0 (.slice B ls.length d);have r1:=fG (u := .slice none 0 0) r0 b0 (k:=1) ⟨_,_,_,rfl⟩;have b1:=b0.set_ 1 (.slice none 0 0);have r2:=fG (u := .slice none 0 0) r1 b1 (k:=2) ⟨_,_,_,rfl⟩;have b2:=b1.set_ 2 (.slice none 0 0);exact fG (u := .slice none 0 0) r2 b2 (k:=3) ⟨_,_,_,rfl⟩
end
end
section
open Go.RowKit Go.Shelf
attribute [local go_sem] size_bs toList_bs append_bs append_lit Oper.semAt_some
theorem rl(k i n p l:Bs)(a d:Int):∀u ∈ [Value.string (bs k),.string (bs i),.string (bs n),.int .i64 a,.int .i64 d,.string ⟨#[]⟩,.string (bs p),.string (bs l),.string ⟨#[]⟩,.string ⟨#[]⟩],u.oneCell'=true:=by
 intro u hu;simp only[List.mem_cons,List.not_mem_nil,or_false]at hu;rcases hu with rfl|rfl|rfl|rfl|rfl|rfl|rfl|rfl|rfl|rfl <;> rfl
theorem wz{n:Nat}(h:n≤9998):(Lib.itoa ((n:Int)+1)).length≤4:=by
 have h1:Lib.itoa (((n+1:Nat)):Int)=dig10 (n+1):=by
  unfold Lib.itoa;rw[if_neg (by omega),Int.toNat_natCast,fN (n+1) (by omega)]
 rw[show(((n+1:Nat)):Int)=(n:Int)+1 by omega]at h1;rw[h1];exact eY (L:=4) (by omega)
theorem ym(key ins i q p l:Bs)(day a:Int):dv key ins day ⟨i,a,q,p,l⟩=[.string (bs key),.string (bs i),.string (bs ins),.int .i64 a,.int .i64 day,.string (bs q),.string (bs p),.string (bs l),.string ⟨#[]⟩,.string ⟨#[]⟩]:=rfl
theorem rm(k i n q p l:Bs)(a d:Int):∀u ∈ [Value.string (bs k),.string (bs i),.string (bs n),.int .i64 a,.int .i64 d,.string (bs q),.string (bs p),.string (bs l),.string ⟨#[]⟩,.string ⟨#[]⟩],u.oneCell'=true:=by
 intro u hu;simp only[List.mem_cons,List.not_mem_nil,or_false]at hu;rcases hu with rfl|rfl|rfl|rfl|rfl|rfl|rfl|rfl|rfl|rfl <;> rfl
theorem rt(key ins i p l:Bs)(day a:Int):dv key ins day ⟨i,a,[],p,l⟩=[.string (bs key),.string (bs i),.string (bs ins),.int .i64 a,.int .i64 day,.string ⟨#[]⟩,.string (bs p),.string (bs l),.string ⟨#[]⟩,.string ⟨#[]⟩]:=rfl
noncomputable def nA(w:World)(ls:List LotV)(A:Option Addr)(c:Nat)(f:FactV)(ps:List Fr)(os:List OptV)(pa:Option Addr)(pc oq ch:Nat)(o:OptV)(N cash cs:Bs)(fr:Fr)(qty:Bs)(A':Option Addr)(c':Nat)(bo oo G9 G12 G18 G21 B0 B1 B2 B3:Nat)(basis oth:Bs)(olds:List LotV)(eQ ge gt iD lE nE Eq Ge Gt GT Id ID Jv Jw Jx Jy Jz JA JB JC JD JE JF JG JH JI JJ JK JL JM JN JO JP JQ JR JS JT JU JV JW JX JY JZ J0 J1 J2 J3 J4 J5 J6 J7 J8 J9 Ka Kb Kc Kd Ke Kf Kg Kh Ki Kj Kk Kl Km Kn Ko Kp Kq Kr Ks Kt Ku Kv Kw Kx Ky Kz KA KD KE KF KG KH KJ KL KM KO KP KQ KR KS KT KU KV KW KX KY KZ K0 K4 K5 K6 K7 K8 K9 Lb Lc Ld Le Lf Lg Lh Li Lj Lk Ll Lm Ln Lo Lp Lq Lr Ls Lt Lu Lv Lw Lx Ly Lz LA LB LC LD LE LH LI LJ LK LM LO LQ LR LS LT LU LV LW LZ L0 L4 L5 L6 L7 L8 L9 Ma Mb Mc Md Me Mf Mg Mh Mi Mj Mk Ml Mm Mn Mo Mp Mq Mr Ms Mt Mu Mv Mw Mx My Mz MA MB MC MD ME MF MG MH MI MJ MK ML MM MN MO MP MQ MR MS MU MV MW MX MY MZ M2 M3 M4 M5 M6 M7 M8 M9 Na Nb Nc Nd Nf:Value):Act :=
{
    tmps :=
     #[Value.slice A ls.length c,
      aB f (ac pa ps.length pc) (ac (some { block:=bo,off:=oo }) os.length oq),
      Value.int IntKind.i64 ↑ch,undef,Value.pointer (some { block:=w.heap.size,off:=0 }),undef,
      Value.pointer (some { block:=w.heap.size+1,off:=0 }),Value.int IntKind.i64 0,
      Value.slice A' olds.length c',Value.pointer (some { block:=G9,off:=0 }),Value.string (bs qty),
      Value.string (bs cs),Value.pointer (some { block:=G12,off:=0 }),Value.string (bs cash),
      Value.pointer (some { block:=G12+1,off:=0 }),Value.int IntKind.i64 0,Value.string (bs basis),
      Value.string (bs oth),Value.pointer (some { block:=G18,off:=0 }),undef,eQ,
      Value.pointer (some { block:=G21,off:=0 }),Value.pointer (some { block:=G21+1,off:=0 }),undef,
      undef,undef,undef,undef,undef,undef,undef,undef,undef,undef,undef,Value.bool false,
      Value.slice A ls.length c,Value.int IntKind.i64 0,Value.bool false,Value.bool false,
      Value.agg
       #[Value.string (bs f.key),Value.int IntKind.i64 f.stamp,Value.bool f.canc,Value.int IntKind.i64 f.day,
        Value.int IntKind.i64 f.kind,Value.string (bs f.ins),Value.string (bs f.other),
        Value.string (bs f.cur),Value.string (bs f.tgt),Value.string (bs f.qty),Value.string (bs f.amt),
        Value.string (bs f.fee),Value.string (bs f.price.num),Value.string (bs f.price.den),
        Value.string (bs f.ratio.num),Value.string (bs f.ratio.den),Value.string (bs f.share.num),
        Value.string (bs f.share.den),ac pa ps.length pc,
        ac (some { block:=bo,off:=oo }) os.length oq,Value.int IntKind.i64 f.choice],
      Value.int IntKind.i64 0,Value.bool false,Value.bool false,undef,Value.bool false,
      Value.pointer (some { block:=w.heap.size,off:=4 }),Value.int IntKind.i64 10,Value.bool false,undef,
      Value.bool false,Value.int IntKind.i64 ↑ch,Value.bool false,Value.bool false,Value.int IntKind.i64 ↑ch,
      Value.pointer (some { block:=w.heap.size,off:=19 }),
      ac (some { block:=bo,off:=oo }) os.length oq,Value.int IntKind.i64 ↑os.length,Value.bool false,
      Value.bool false,undef,Value.slice A ls.length c,Value.pointer (some { block:=w.heap.size,off:=5 }),
      Value.string (bs f.ins),Value.slice A' olds.length c',Value.slice A' olds.length c',
      Value.int IntKind.i64 ↑olds.length,Value.bool false,undef,undef,undef,
      Value.pointer (some { block:=w.heap.size,off:=19 }),
      ac (some { block:=bo,off:=oo }) os.length oq,Value.int IntKind.i64 ↑ch,
      Value.pointer (some { block:=bo,off:=oo+ch*7 }),
      Value.agg
       #[Value.string (bs o.other),Value.string (bs o.r.num),Value.string (bs o.r.den),
        Value.string (bs o.p.num),Value.string (bs o.p.den),Value.string (bs o.v.num),
        Value.string (bs o.v.den)],
      Value.tuple #[Value.string (bs qty),Value.string (bs cs)],Value.slice A ls.length c,
      Value.pointer (some { block:=w.heap.size,off:=5 }),Value.string (bs f.ins),
      Value.tuple #[Value.string (bs qty),Value.string (bs cs)],Value.string (bs qty),Value.string (bs cs),
      Value.tuple #[Value.string (bs N),Value.string (bs cash),fv fr,Value.int IntKind.i64 0],
      Value.agg
       #[Value.string (bs o.other),Value.string (bs o.r.num),Value.string (bs o.r.den),
        Value.string (bs o.p.num),Value.string (bs o.p.den),Value.string (bs o.v.num),
        Value.string (bs o.v.den)],
      Value.string (bs qty),
      Value.tuple #[Value.string (bs N),Value.string (bs cash),fv fr,Value.int IntKind.i64 0],
      Value.string (bs N),Value.string (bs cash),fv fr,Value.int IntKind.i64 0,Value.int IntKind.i64 0,
      Value.bool false,undef,undef,Value.pointer (some { block:=w.heap.size,off:=5 }),
      Value.string (bs f.ins),ge,gt,iD,lE,nE,Eq,Ge,Gt,GT,Id,ID,Jv,Jw,Jx,
      Value.agg #[Value.slice none 0 0,Value.slice none 0 0,Value.slice none 0 0,Value.slice none 0 0],
      Value.slice A ls.length c,Value.int IntKind.i64 ↑ls.length,Value.int IntKind.i64 ↑ls.length,
      Value.bool false,Jy,Jz,JA,JB,JC,JD,JE,JF,JG,JH,JI,JJ,JK,JL,
      Value.slice A' olds.length c',Value.string (bs N),Value.string (bs cash),Value.string (bs basis),
      Value.func (Fn.func 111) #[]
       #[Value.pointer (some { block:=B0,off:=0 }),Value.pointer (some { block:=B1,off:=0 }),
        Value.pointer (some { block:=B2,off:=0 }),Value.pointer (some { block:=B3,off:=0 })],
      JM,JN,JO,JP,JQ,JR,JS,JT,JU,JV,JW,JX,JY,JZ,J0,J1,J2,J3,
      J4,J5,J6,J7,J8,J9,Ka,Kb,Kc,Kd,Ke,Kf,Kg,Kh,Ki,Kj,Kk,Kl,
      Km,Kn,Ko,Kp,Kq,Kr,Ks,Kt,Ku,Kv,Kw,Kx,Ky,Kz,KA,KD,KE,KF,
      KG,KH,KJ,KL,KM,KO,KP,KQ,KR,KS,KT,KU,KV,KW,KX,KY,KZ,K0,
      K4,K5,K6,K7,K8,K9,Lb,Lc,Ld,Le,Lf,Lg,Lh,Li,Lj,Lk,Ll,Lm,
      Ln,Lo,Lp,Lq,Lr,Ls,Lt,Lu,Lv,Lw,Lx,Ly,Lz,LA,LB,LC,LD,LE,
      LH,LI,LJ,LK,LM,LO,LQ,LR,LS,LT,LU,LV,LW,LZ,L0,L4,L5,L6,
      L7,L8,L9,Ma,Mb,Mc,Md,Me,Mf,Mg,Mh,Mi,Mj,Mk,Ml,Mm,Mn,Mo,
      Mp,Mq,Mr,Ms,Mt,Mu,Mv,Mw,Mx,My,Mz,MA,MB,MC,MD,ME,MF,MG,
      MH,MI,MJ,MK,ML,MM,MN,MO,MP,MQ,MR,MS,MU,MV,MW,MX,MY,MZ,
      M2,M3,M4,M5,M6,M7,M8,M9,Na,Nb,Nc,Nd,Nf],
    defers:=[] }
def kG:Code→Option (Code × Code)
 |.seq a b=>(kG a).or (kG b)
 |.cond _ a b=>(kG a).or (kG b)
 |.block _ c=>kG c
 |.loop c=>kG c
 |.scope c=>kG c
 |.rangeFunc _ _ a b=>some (a,b)
 |_=>none
noncomputable def ip:Code × Code:=(kG (Tryz.f14.body.getD .skip)).getD (.skip,.skip)
noncomputable def jk:Code:=ip.1
noncomputable def lY:Code:=ip.2
end
section
open Go.RowKit Go.Shelf
attribute [local go_sem] size_bs toList_bs
def cE(f:Fr):Bool:=decide (13<f.num.length) || decide (13<f.den.length)
theorem jl{f:Fr}(h:cE f=false):f.num.length≤13∧f.den.length≤13:=by
 unfold cE at h;simp at h;omega
theorem CN{f:Fr}(h:13<f.num.length):cE f=true:=by unfold cE;simp[h]
theorem CP{f:Fr}(h:13<f.den.length):cE f=true:=by unfold cE;simp[h]
end
section
open Go.RowKit Go.Shelf
attribute [local go_sem] size_bs toList_bs
def cQ(a:Bs):Bool:=decide (13<(a.length:Int))
theorem cL(a:Bs):E6 70 #[.string (bs a)] (.bool (cQ a)):=by
 intro w;go_enter Tryz.func70,Tryz.ntmps70;go_wp2_with fail;go_ret;exact⟨rfl,Ext.refl _⟩
end
section
open Go.RowKit Go.Shelf
attribute [local go_sem] size_bs toList_bs
def nB:Prop:=∀W,Env W→Calls Tryz.prog 13 #[] W fun e w'=>e = .returned (.bool true)∧Ext W w'
end
end Go.Proofs.YthgpheopnhajaaaGreatDoor
