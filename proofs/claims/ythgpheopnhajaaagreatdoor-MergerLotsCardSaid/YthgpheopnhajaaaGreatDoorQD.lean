/- Part. -/
import Derived.Test.YthgpheopnhajaaaGreatDoorQ39
set_option maxRecDepth 100000
set_option maxHeartbeats 8000000
namespace Go.Proofs.YthgpheopnhajaaaGreatDoor
section
open Go.RowKit Go.Shelf
attribute [local go_sem] size_bs toList_bs
theorem lD{fn:Func}{a b c:Tmp}(h:fn.results=#[.cell a 37,.cell b 50,.tmp c])(tmps:Array Value)(w:World)(g k:Nat)(x y z u v:Value)(o:OptV)(ha:tmps.getD a undef = .pointer (some ⟨g,0,none⟩))(hb:tmps.getD b undef = .pointer (some ⟨k,0,none⟩))(hv:tmps.getD c undef=v)
  (h1:Blk w g 37 #[x,y,z,u]) (h2:Blk w k 50 (oc o)) :
  (results fn tmps).run Tryz.prog w = .ok (.tuple #[.agg #[x,y,z,u],ov o,v]) w:=by
 obtain⟨q0,q1,q2,q3⟩:=bh h1 (Ext.refl _);obtain⟨o0,o1,o2,o3,o4,o5,o6⟩:=ar h2 (Ext.refl _);unfold results;rw[h];simp only[List.mapM_toArray,List.mapM_cons,List.mapM_nil,ha,hb,hv];go_simp
abbrev eO:OptV:=⟨[],⟨[],[]⟩,⟨[],[]⟩,⟨[],[]⟩⟩
def tP(w:World)(k:Int)(e:Ending)(w':World):Prop:=(∃A n c,e = .returned (.tuple #[.agg #[.slice A n c,.slice none 0 0,.slice none 0 0,.slice none 0 0],.int .i64 k]))∧Ext w w'
def AY(w:World)(e:Ending)(w':World):Prop:=(∃A n c,e = .returned (.tuple #[.agg #[.slice A n c,.slice none 0 0,.slice none 0 0,.slice none 0 0],ov eO,.bool false]))∧Ext w w'
theorem pF{W W':World}{k n g:Nat}{t:TypeId}{A:Option Addr}{xs:List Value}{cs:Array Value}{z:Value}(h:Reads W k A n xs)(hb:Blk W g t cs)(hz:∀(i:Nat) v,cs[i]? = some v→v=z)(hx:0<n→∃(j:Nat) (u:Value),xs[j]? = some u∧u≠z)(ho:Only g W W'):Reads W' k A n xs:=by
 refine⟨h.1,fun hn=>?_⟩;obtain⟨b,o,e,hb',hc⟩:=h.2 hn
 have hne:b≠g:=by
  rintro rfl;obtain⟨j,u,hj,hu⟩:=hx hn;have h1:=hc j u hj;rw[hb.cell]at h1;exact hu (hz _ _ h1)
 exact⟨b,o,e,Nat.lt_of_lt_of_le hb' ho.size,fun j u hj=>(ho.cell (p:=⟨b,o+j,none⟩) hb' hne).trans (hc j u hj)⟩
theorem ib{w w':World}{g b:Nat}{t:TypeId}{cs:Array Value}(h:Blk w g t cs)(ho:Only b w w')(hne:g≠b):Blk w' g t cs:=(World.grownBy.block ho g h.lt (fun e=>hne (by injection e))).trans h
abbrev oQ(W:World)(g:Nat)(x y z u:Value):World:=(((W.setCell ⟨g,0,none⟩ x).setCell ⟨g,1,none⟩ y).setCell ⟨g,2,none⟩ z).setCell ⟨g,3,none⟩ u
abbrev qy(W:World)(g:Nat)(o:OptV):World:=((((((W.setCell ⟨g,0,none⟩ (.string (bs o.other))).setCell ⟨g,1,none⟩ (.string (bs o.r.num))).setCell ⟨g,2,none⟩ (.string (bs o.r.den))).setCell ⟨g,3,none⟩ (.string (bs o.p.num))).setCell ⟨g,4,none⟩ (.string (bs o.p.den))).setCell ⟨g,5,none⟩ (.string (bs o.v.num))).setCell ⟨g,6,none⟩ (.string (bs o.v.den))
theorem ir(W:World)(g:Nat)(x y z u:Value):Only g W (oQ W g x y z u):=((((Only.refl g W).setCell 0 x).setCell 1 y).setCell 2 z).setCell 3 u
theorem jD(W:World)(g:Nat)(o:OptV):Only g W (qy W g o):=Only.setCell (Only.setCell (Only.setCell (Only.setCell (Only.setCell (Only.setCell (Only.setCell (Only.refl g W) 0 (.string (bs o.other))) 1 (.string (bs o.r.num))) 2 (.string (bs o.r.den))) 3 (.string (bs o.p.num))) 4 (.string (bs o.p.den))) 5 (.string (bs o.v.num))) 6 (.string (bs o.v.den))
theorem AZ{W:World}{g:Nat}{a b c d:Value}(h:Blk W g 37 #[a,b,c,d])(x y z u:Value):Blk (oQ W g x y z u) g 37 #[x,y,z,u]:=(((h.set_ 0 x).set_ 1 y).set_ 2 z).set_ 3 u
theorem Ni{W:World}{g:Nat}{t:TypeId}{a0 a1 a2 a3 a4 a5 a6:Value}(h:Blk W g t #[a0,a1,a2,a3,a4,a5,a6])(b0 b1 b2 b3 b4 b5 b6:Value):Blk (((((((W.setCell ⟨g,0,none⟩ b0).setCell ⟨g,1,none⟩ b1).setCell ⟨g,2,none⟩ b2).setCell ⟨g,3,none⟩ b3).setCell ⟨g,4,none⟩ b4).setCell ⟨g,5,none⟩ b5).setCell ⟨g,6,none⟩ b6) g t #[b0,b1,b2,b3,b4,b5,b6]:=by
 have h0:Blk _ g t #[b0,a1,a2,a3,a4,a5,a6]:=h.set_ 0 b0;have h1:Blk _ g t #[b0,b1,a2,a3,a4,a5,a6]:=h0.set_ 1 b1;have h2:Blk _ g t #[b0,b1,b2,a3,a4,a5,a6]:=h1.set_ 2 b2;have h3:Blk _ g t #[b0,b1,b2,b3,a4,a5,a6]:=h2.set_ 3 b3;have h4:Blk _ g t #[b0,b1,b2,b3,b4,a5,a6]:=h3.set_ 4 b4;have h5:Blk _ g t #[b0,b1,b2,b3,b4,b5,a6]:=h4.set_ 5 b5;have h6:Blk _ g t #[b0,b1,b2,b3,b4,b5,b6]:=h5.set_ 6 b6;exact h6
theorem A7{W:World}{g:Nat}{o:OptV}(h:Blk W g 50 (oc o))(p:OptV):Blk (qy W g p) g 50 (oc p):=Ni h _ _ _ _ _ _ _
theorem wH{w W:World}{g k:Nat}{a b c d:Value}{o:OptV}(hR:Blk W g 37 #[a,b,c,d])(hO:Blk W k 50 (oc o))(hx:Ext w W)(hg:w.heap.size≤g)(hk:w.heap.size≤k)(x y z u:Value)(p:OptV) :
  Blk (qy (oQ W g x y z u) k p) g 37 #[x,y,z,u]∧Blk (qy (oQ W g x y z u) k p) k 50 (oc p)∧Ext w (qy (oQ W g x y z u) k p):=by
 have hne:g≠k:=az hR hO (by decide);have h1:=AZ hR x y z u;have h2:=ib hO (ir W g x y z u) hne.symm;refine⟨ib h1 (jD _ k p) hne,A7 h2 p,?_⟩;exact(jD (oQ W g x y z u) k p).toExt ((ir W g x y z u).toExt hx hg) hk
theorem Ba(i:Nat)(v:Value)(h:cz[i]? = some v):v = .slice none 0 0:=by
 have:=Array.mem_of_getElem? h;simpa using this
theorem Bb(i:Nat)(v:Value)(h:(oc eO)[i]? = some v):v = .string (bs []):=by
 have:=Array.mem_of_getElem? h;simpa using this
theorem m7{W:World}{g k kk n:Nat}{A:Option Addr}{xs:List Value}(h:Reads W kk A n xs)(hR:Blk W g 37 cz)(hO:Blk W k 50 (oc eO))(hne:g≠k)(h1:0<n→∃(j:Nat) (u:Value),xs[j]? = some u∧u ≠ .slice none 0 0)(h2:0<n→∃(j:Nat) (u:Value),xs[j]? = some u∧u ≠ .string (bs []))(x y z u:Value)(p:OptV) :
  Reads (qy (oQ W g x y z u) k p) kk A n xs :=
 pF (pF h hR Ba h1 (ir W g x y z u)) (ib hO (ir W g x y z u) hne.symm) Bb h2 (jD _ k p)
theorem rF{ls:List LotV}{z:Value}(h:0<ls.length)(hz:∀a:Int,Value.int .i64 a≠z):∃(j:Nat) (u:Value),(ls.flatMap aU)[j]? = some u∧u≠z:=by
 cases ls with
 |nil=>exact absurd h (by simp)
 |cons x r=>exact⟨2,.int .i64 x.acq,by rfl,hz _⟩
theorem pG{gs:List GainR}{key ins:Bs}{day:Int}{z:Value}(h:0<gs.length)(hz:∀a:Int,Value.int .i64 a≠z):∃(j:Nat) (u:Value),(gs.flatMap (dv key ins day))[j]? = some u∧u≠z:=by
 cases gs with
 |nil=>exact absurd h (by simp)
 |cons x r=>exact⟨3,.int .i64 x.acq,by rfl,hz _⟩
theorem pH{ss:List StepR}{key:Bs}{z:Value}(h:0<ss.length)(hz:Value.string (bs key)≠z):∃(j:Nat) (u:Value),(ss.flatMap (dI key))[j]? = some u∧u≠z:=by
 cases ss with
 |nil=>exact absurd h (by simp)
 |cons x r=>exact⟨0,.string (bs key),by rfl,hz⟩
theorem CZ{key:Bs}(h:ax key=true):key≠[]:=by
 rintro rfl;exact absurd h (by decide)
section
variable (w:World) (ls:List LotV) (A:Option Addr) (c:Nat) (f:FactV) (ps:List Fr) (os:List OptV) (pa oa:Option Addr) (pc oq:Nat) (ch:Int)
theorem pI(k:Int)(hk:k≠0)(hap:∀W,Ext w W→Calls Tryz.prog 14 #[.slice A ls.length c,aB f (ac pa ps.length pc) (ac oa os.length oq),.int .i64 ch] W (tP W k)) :
  Calls Tryz.prog 22 #[.slice A ls.length c,aB f (ac pa ps.length pc) (ac oa os.length oq),.int .i64 ch] w (AY w):=by
 have HAP:=qh hap;have q1:(k != 0)=true:=by rw[bne_iff_ne];exact hk
 clear hap hk;have HF:=qh (((Blk.new w 30 (af f (ac pa ps.length pc) (ac oa os.length oq))).alloc (.cells cz 37)).alloc (.cells (oc eO) 50));have HR:=qh ((Blk.newAt (w.alloc (.cells (af f (ac pa ps.length pc) (ac oa os.length oq)) 30)) 37 cz (w.heap.size+1) (by simp)).alloc (.cells (oc eO) 50));have HO:=qh (Blk.newAt ((w.alloc (.cells (af f (ac pa ps.length pc) (ac oa os.length oq)) 30)).alloc (.cells cz 37)) 50 (oc eO) (w.heap.size+1+1) (by simp));have HX:Hid (Ext w (((w.alloc (.cells (af f (ac pa ps.length pc) (ac oa os.length oq)) 30)).alloc (.cells cz 37)).alloc (.cells (oc eO) 50))):=qh (((Ext.new _ _).alloc _).alloc _);have hs1:(Tryz.prog.info? 30).map (·.size)=some (af f (ac pa ps.length pc) (ac oa os.length oq)).toList.length:=by kernel_rfl
 go_enter Tryz.func22,Tryz.ntmps22;have hrg:=aA HF.out;go_wp2_with (first|refine aO (by kernel_rfl) 30 _ rfl w.heap.size 0 rfl _ _ hrg Tryz.underlying30 rfl hs1 ?_|fail);refine(HAP.out _ HX.out).mono ?_;rintro e v1⟨⟨A',n',c',rfl⟩,hx1⟩;have HT:=qh (Blk.new v1 37 #[.slice A' n' c',.slice none 0 0,.slice none 0 0,.slice none 0 0]);have hxn:=hx1.trans (Ext.new v1 (.cells #[.slice A' n' c',.slice none 0 0,.slice none 0 0,.slice none 0 0] 37));replace HX:=HX.qt hxn;replace HF:=qh (HF.out.ext hxn);replace HR:=qh (HR.out.ext hxn);replace HO:=qh (HO.out.ext hxn);clear hx1 hxn hrg HAP;go_upto_region 3 with fail;generalize v1.alloc (.cells #[.slice A' n' c',.slice none 0 0,.slice none 0 0,.slice none 0 0] 37)=W at *;generalize v1.heap.size=T at *;obtain⟨t0,t1,t2,t3⟩:=bh HT.out (Ext.refl _);obtain⟨r0,r1,r2,r3⟩:=bh HR.out (Ext.refl _);have r4:=HR.out.frozen 0;have r5:=HR.out.frozen 1;have r6:=HR.out.frozen 2;have r7:=HR.out.frozen 3;obtain⟨o0,o1,o2,o3,o4,o5,o6⟩:=ar HO.out (Ext.refl _);have p0:=HO.out.frozen 0;have p1:=HO.out.frozen 1;have p2:=HO.out.frozen 2;have p3:=HO.out.frozen 3;have p4:=HO.out.frozen 4;have p5:=HO.out.frozen 5;have p6:=HO.out.frozen 6;go_wp2_with fail;obtain⟨hb1,hb2,hb3⟩:=wH HR.out HO.out HX.out (Nat.le_succ _) (by omega) (.slice A' n' c') (.slice none 0 0) (.slice none 0 0) (.slice none 0 0) eO;refine bodyPost_ret (lD rfl _ _ (w.heap.size+1) (w.heap.size+1+1) _ _ _ _ (.bool false) eO rfl rfl rfl hb1 hb2) rfl ?_;exact⟨⟨A',n',c',rfl⟩,hb3⟩
theorem EV(hap:∀W,Ext w W→Calls Tryz.prog 14 #[.slice A ls.length c,aB f (ac pa ps.length pc) (ac oa os.length oq),.int .i64 ch] W (tP W 0))(hA:bp w A ls)(hn:ls.length≤2000)(hch:0≤ch∧ch<(os.length:Int))(hold:ap ls f.ins=[]) :
  Calls Tryz.prog 22 #[.slice A ls.length c,aB f (ac pa ps.length pc) (ac oa os.length oq),.int .i64 ch] w (AY w):=by
 have HAP:=qh hap
 have CO:Hid (∀W,Ext w W→Calls Tryz.prog 26 #[.slice A ls.length c,.string (bs f.ins)] W fun e w'=>(∃A c,e = .returned (.slice A 0 c))∧Ext W w'):=qh (fun W hx=>(gH ls A c f.ins W (hA.ext hx) (by omega)).mono (by
  rintro e w'⟨A1,c1,rfl,_,_,hx⟩;rw[hold];exact⟨⟨A1,c1,rfl⟩,hx⟩))
 have q2:decide (ch<0)=false:=decide_eq_false (by omega);have q3:decide ((os.length:Int)≤ch)=false:=decide_eq_false (by omega);clear hap hA hch hold hn;have HF:=qh (((Blk.new w 30 (af f (ac pa ps.length pc) (ac oa os.length oq))).alloc (.cells cz 37)).alloc (.cells (oc eO) 50));have HR:=qh ((Blk.newAt (w.alloc (.cells (af f (ac pa ps.length pc) (ac oa os.length oq)) 30)) 37 cz (w.heap.size+1) (by simp)).alloc (.cells (oc eO) 50));have HO:=qh (Blk.newAt ((w.alloc (.cells (af f (ac pa ps.length pc) (ac oa os.length oq)) 30)).alloc (.cells cz 37)) 50 (oc eO) (w.heap.size+1+1) (by simp));have HX:Hid (Ext w (((w.alloc (.cells (af f (ac pa ps.length pc) (ac oa os.length oq)) 30)).alloc (.cells cz 37)).alloc (.cells (oc eO) 50))):=qh (((Ext.new _ _).alloc _).alloc _);have hs1:(Tryz.prog.info? 30).map (·.size)=some (af f (ac pa ps.length pc) (ac oa os.length oq)).toList.length:=by kernel_rfl
 go_enter Tryz.func22,Tryz.ntmps22;have hrg:=aA HF.out;go_wp2_with (first|refine aO (by kernel_rfl) 30 _ rfl w.heap.size 0 rfl _ _ hrg Tryz.underlying30 rfl hs1 ?_|fail);refine(HAP.out _ HX.out).mono ?_;rintro e v1⟨⟨A',n',c',rfl⟩,hx1⟩;have HT:=qh (Blk.new v1 37 #[.slice A' n' c',.slice none 0 0,.slice none 0 0,.slice none 0 0]);have hxn:=hx1.trans (Ext.new v1 (.cells #[.slice A' n' c',.slice none 0 0,.slice none 0 0,.slice none 0 0] 37));replace HX:=HX.qt hxn;replace HF:=qh (HF.out.ext hxn);replace HR:=qh (HR.out.ext hxn);replace HO:=qh (HO.out.ext hxn);clear hx1 hxn hrg HAP;obtain⟨-,-,-,-,-,x5,-,-,-,-,-,-,-,-,-,-,-,-,-,x19,-⟩:=ae HF.out (Ext.refl _);go_wp2_with fail;generalize v1.alloc (.cells #[.slice A' n' c',.slice none 0 0,.slice none 0 0,.slice none 0 0] 37)=W at *;generalize v1.heap.size=T at *;refine(CO.out _ HX.out).mono ?_;rintro e v2⟨⟨A1,c1,rfl⟩,hx1⟩;replace HX:=HX.qt hx1;replace HF:=qh (HF.out.ext hx1);replace HR:=qh (HR.out.ext hx1);replace HO:=qh (HO.out.ext hx1);replace HT:=qh (HT.out.ext hx1);clear hx1 CO x5 x19;obtain⟨t0,t1,t2,t3⟩:=bh HT.out (Ext.refl _);obtain⟨r0,r1,r2,r3⟩:=bh HR.out (Ext.refl _);have r4:=HR.out.frozen 0;have r5:=HR.out.frozen 1;have r6:=HR.out.frozen 2;have r7:=HR.out.frozen 3;obtain⟨o0,o1,o2,o3,o4,o5,o6⟩:=ar HO.out (Ext.refl _);have p0:=HO.out.frozen 0;have p1:=HO.out.frozen 1;have p2:=HO.out.frozen 2;have p3:=HO.out.frozen 3;have p4:=HO.out.frozen 4;have p5:=HO.out.frozen 5;have p6:=HO.out.frozen 6;go_wp2_with fail;obtain⟨hb1,hb2,hb3⟩:=wH HR.out HO.out HX.out (Nat.le_succ _) (by omega) (.slice A' n' c') (.slice none 0 0) (.slice none 0 0) (.slice none 0 0) eO;refine bodyPost_ret (lD rfl _ _ (w.heap.size+1) (w.heap.size+1+1) _ _ _ _ (.bool false) eO rfl rfl rfl hb1 hb2) rfl ?_;exact⟨⟨A',n',c',rfl⟩,hb3⟩
def BE(w:World)(ls:List LotV)(f:FactV)(ps:List Fr)(os:List OptV)(ch:Int)(e:Ending)(w':World):Prop :=
 ∃(k:Nat) (o:OptV) (N cash:Bs) (fr:Fr) (basis other:Bs) (st:ApSt) (AL:Option Addr) (cl:Nat) (AG:Option Addr) (cg:Nat) (AS:Option Addr) (cs' gE gT':Nat),
   ch=(k:Int)∧ApOK ls f ps os k o N cash fr basis other st∧(∀x ∈ st.fs,(cr ls x.id).isSome=false) ∧
   e = .returned (.tuple #[.agg #[.slice AL (aG (bd ls f.ins) (ay st)).length cl,.slice AG st.gs.length cg,.slice AS st.ss.length cs',.slice (some ⟨gE,0,none⟩) 1 1],ov o,.bool true]) ∧
   (bp w' AL (aG (bd ls f.ins) (ay st))∧(aG (bd ls f.ins) (ay st)).length≤cl)∧Reads w' 10 AG st.gs.length (st.gs.flatMap (dv f.key f.ins f.day))∧Reads w' 6 AS st.ss.length (st.ss.flatMap (dI f.key)) ∧
   Blk w' gE 62 (iW f other (.slice (some ⟨gT',0,none⟩) 3 3))∧Blk w' gT' 65 (gC cash (ofI (au ls f.ins)) basis)∧Ext w w'
theorem Hx(k:Nat)(o:OptV)(N cash:Bs)(fr:Fr)(basis other:Bs)(st:ApSt)(hok:ApOK ls f ps os k o N cash fr basis other st)(hnf:∀x ∈ st.fs,(cr ls x.id).isSome=false)(hA:bp w A ls)(hO:k9 w oa os)
  (hap:∀W,Ext w W→Calls Tryz.prog 14 #[.slice A ls.length c,aB f (ac pa ps.length pc) (ac oa os.length oq),.int .i64 (k:Nat)] W (BB W f cash (ofI (au ls f.ins)) basis other (bd ls f.ins) st)) :
  Calls Tryz.prog 22 #[.slice A ls.length c,aB f (ac pa ps.length pc) (ac oa os.length oq),.int .i64 (k:Nat)] w (BE w ls f ps os (k:Nat)):=by
 have HAP:=qh hap;have HOK:=qh hok;have HNF:=qh hnf;have HOS:=qh hO;obtain⟨hk,hko⟩:=hok.at_;have hl0:=List.length_pos_iff.2 hok.old
 have CO:Hid (∀W,Ext w W→Calls Tryz.prog 26 #[.slice A ls.length c,.string (bs f.ins)] W fun e w'=>(∃A c,e = .returned (.slice A (ap ls f.ins).length c))∧Ext W w'):=qh (fun W hx=>(gH ls A c f.ins W (hA.ext hx) (by have:=hok.ln;omega)).mono (by
  rintro e w'⟨A1,c1,rfl,_,_,hx⟩;exact⟨⟨A1,c1,rfl⟩,hx⟩))
 have q2:decide ((k:Int)<0)=false:=decide_eq_false (by omega);have q3:decide ((os.length:Int)≤(k:Int))=false:=decide_eq_false (by omega);have q4:(((ap ls f.ins).length:Int) == 0)=false:=by rw[beq_eq_false_iff_ne];omega
 have hki:(k:Int)<(os.length:Int):=by omega
 have hk0:(0:Int)≤(k:Int):=by omega
 generalize (ap ls f.ins).length=ol at *;clear hap hA hO hok hnf hl0;have HF:=qh (((Blk.new w 30 (af f (ac pa ps.length pc) (ac oa os.length oq))).alloc (.cells cz 37)).alloc (.cells (oc eO) 50));have HR:=qh ((Blk.newAt (w.alloc (.cells (af f (ac pa ps.length pc) (ac oa os.length oq)) 30)) 37 cz (w.heap.size+1) (by simp)).alloc (.cells (oc eO) 50));have HO:=qh (Blk.newAt ((w.alloc (.cells (af f (ac pa ps.length pc) (ac oa os.length oq)) 30)).alloc (.cells cz 37)) 50 (oc eO) (w.heap.size+1+1) (by simp));have HX:Hid (Ext w (((w.alloc (.cells (af f (ac pa ps.length pc) (ac oa os.length oq)) 30)).alloc (.cells cz 37)).alloc (.cells (oc eO) 50))):=qh (((Ext.new _ _).alloc _).alloc _);have hs1:(Tryz.prog.info? 30).map (·.size)=some (af f (ac pa ps.length pc) (ac oa os.length oq)).toList.length:=by kernel_rfl
 go_enter Tryz.func22,Tryz.ntmps22;obtain⟨bo,oo,hoa,hbo,-⟩:=HOS.out.at_ (k:=k) hk;have hd1:bo≠w.heap.size+1:=by omega
 have hd2:w.heap.size+1≠bo:=by omega
 have hd3:bo≠w.heap.size+1+1:=by omega
 have hd4:w.heap.size+1+1≠bo:=by omega
 have HD:=qh (And.intro hd1 (And.intro hd2 (And.intro hd3 hd4)));have HOA:=qh hoa;clear hd1 hd2 hd3 hd4 hbo hoa;have hrg:=aA HF.out;go_wp2_with (first|refine aO (by kernel_rfl) 30 _ rfl w.heap.size 0 rfl _ _ hrg Tryz.underlying30 rfl hs1 ?_|fail);refine(HAP.out _ HX.out).mono ?_;rintro e v1⟨AL,cl,AG,cg,AS,cs',gE,gT',rfl,hL,hG,hS,hEb,hTb,hx1⟩;have hsz1:w.heap.size+1+1<v1.heap.size:=(HO.out.ext hx1).lt;have HTN:Hid (v1.heap.size≠w.heap.size+1∧w.heap.size+1≠v1.heap.size∧v1.heap.size≠w.heap.size+1+1∧w.heap.size+1+1≠v1.heap.size):=qh ⟨by omega,by omega,by omega,by omega⟩;clear hsz1;have hxr:=Ext.new v1 (.cells #[.slice AL (aG (bd ls f.ins) (ay st)).length cl,.slice AG st.gs.length cg,.slice AS st.ss.length cs',.slice (some ⟨gE,0,none⟩) 1 1] 37);have HT:=qh (Blk.new v1 37 #[.slice AL (aG (bd ls f.ins) (ay st)).length cl,.slice AG st.gs.length cg,.slice AS st.ss.length cs',.slice (some ⟨gE,0,none⟩) 1 1]);have HL:=qh (hL.1.ext hxr);have HCL:=qh hL.2;have HG:=qh (hG.ext hxr);have HS:=qh (hS.ext hxr);have HEb:=qh (hEb.ext hxr);have HTb:=qh (hTb.ext hxr);have hxn:=hx1.trans hxr;replace HX:=HX.qt hxn;replace HF:=qh (HF.out.ext hxn);replace HR:=qh (HR.out.ext hxn);replace HO:=qh (HO.out.ext hxn);clear hx1 hxn hxr hrg HAP hL hG hS hEb hTb;obtain⟨-,-,-,-,-,x5,-,-,-,-,-,-,-,-,-,-,-,-,-,x19,-⟩:=ae HF.out (Ext.refl _);go_wp2_with fail;generalize v1.alloc (.cells #[.slice AL (aG (bd ls f.ins) (ay st)).length cl,.slice AG st.gs.length cg,.slice AS st.ss.length cs',.slice (some ⟨gE,0,none⟩) 1 1] 37)=W at *;generalize v1.heap.size=T at *;refine(CO.out _ HX.out).mono ?_;rintro e v2⟨⟨A1,c1,rfl⟩,hx1⟩;replace HX:=HX.qt hx1;replace HF:=qh (HF.out.ext hx1);replace HR:=qh (HR.out.ext hx1);replace HO:=qh (HO.out.ext hx1);replace HT:=qh (HT.out.ext hx1);replace HL:=qh (HL.out.ext hx1);replace HG:=qh (HG.out.ext hx1);replace HS:=qh (HS.out.ext hx1);replace HEb:=qh (HEb.out.ext hx1);replace HTb:=qh (HTb.out.ext hx1);clear hx1 CO x5 x19;obtain⟨-,-,-,-,-,x5,-,-,-,-,-,-,-,-,-,-,-,-,-,x19,-⟩:=ae HF.out (Ext.refl _);obtain⟨t0,t1,t2,t3⟩:=bh HT.out (Ext.refl _);obtain⟨bo2,oo2,hoa2,hbo,c0,c1',c2,c3,c4,c5,c6⟩:=(HOS.out.ext HX.out).at_ (k:=k) hk;rw[hko]at c0 c1' c2 c3 c4 c5 c6;have hoa:=HOA.out;rw[hoa]at hoa2;injection hoa2 with hoa2
 injection hoa2 with e1 e2 _
 subst e1;subst e2;clear HOA;subst hoa;obtain⟨hd1,hd2,hd3,hd4⟩:=HD.out;obtain⟨ht1,ht2,ht3,ht4⟩:=HTN.out;generalize hLN:(aG (bd ls f.ins) (ay st)).length=LN at *;generalize hGN:st.gs.length=GN at *;generalize hSN:st.ss.length=SN at *;have HLN:=qh hLN;have HGN:=qh hGN;have HSN:=qh hSN;clear hLN hGN hSN;have hn1:w.heap.size≠w.heap.size+1:=by omega
 have hn2:w.heap.size≠w.heap.size+1+1:=by omega
 have hn3:w.heap.size+1≠w.heap.size+1+1:=by omega
 have hn4:w.heap.size+1≠w.heap.size:=by omega
 have hn5:w.heap.size+1+1≠w.heap.size:=by omega
 have hn6:w.heap.size+1+1≠w.heap.size+1:=by omega
 clear x5;go_upto_region 4 with fail;obtain⟨r0,r1,r2,r3⟩:=bh HR.out (Ext.refl _);have r4:=HR.out.frozen 0;have r5:=HR.out.frozen 1;have r6:=HR.out.frozen 2;have r7:=HR.out.frozen 3;obtain⟨o0,o1,o2,o3,o4,o5,o6⟩:=ar HO.out (Ext.refl _);have p0:=HO.out.frozen 0;have p1:=HO.out.frozen 1;have p2:=HO.out.frozen 2;have p3:=HO.out.frozen 3;have p4:=HO.out.frozen 4;have p5:=HO.out.frozen 5;have p6:=HO.out.frozen 6
 go_region_held3 (fun w'=>w'.cell? ⟨T,0,none⟩=some (.slice AL LN cl)∧w'.cell? ⟨T,1,none⟩=some (.slice AG GN cg)∧w'.cell? ⟨T,2,none⟩=some (.slice AS SN cs')∧w'.cell? ⟨T,3,none⟩=some (.slice (some ⟨gE,0,none⟩) 1 1)∧w'.cell? ⟨w.heap.size,19,none⟩=some (ac (some ⟨bo,oo,none⟩) os.length oq)∧w'.cell? ⟨bo,oo+k*7,none⟩=some (.string (bs o.other))∧w'.cell? ⟨bo,oo+k*7+1,none⟩=some (.string (bs o.r.num))∧w'.cell? ⟨bo,oo+k*7+2,none⟩=some (.string (bs o.r.den))∧w'.cell? ⟨bo,oo+k*7+3,none⟩=some (.string (bs o.p.num))∧w'.cell? ⟨bo,oo+k*7+4,none⟩=some (.string (bs o.p.den))∧w'.cell? ⟨bo,oo+k*7+5,none⟩=some (.string (bs o.v.num))∧w'.cell? ⟨bo,oo+k*7+6,none⟩=some (.string (bs o.v.den)))
  (go_keep)
  (fail)
 all_goals
  go_wp2_with fail;have HRd:=HR;have HOd:=HO;obtain⟨hb1,hb2,hb3⟩:=wH HRd.out HOd.out HX.out (Nat.le_succ _) (by omega) (.slice AL LN cl) (.slice AG GN cg) (.slice AS SN cs') (.slice (some ⟨gE,0,none⟩) 1 1) o;have hne:w.heap.size+1≠w.heap.size+1+1:=by omega
  refine bodyPost_ret (lD rfl _ _ (w.heap.size+1) (w.heap.size+1+1) _ _ _ _ (.bool true) o rfl rfl rfl hb1.drew hb2.drew) rfl ?_;refine⟨k,o,N,cash,fr,basis,other,st,AL,cl,AG,cg,AS,cs',gE,gT',rfl,HOK.out,HNF.out,by rw[HLN.out,HGN.out,HSN.out],?_,?_,?_,?_,?_,hb3.drew⟩
  ·refine⟨?_,by rw[HLN.out];exact HCL.out⟩;exact bp.ext (m7 HL.out HRd.out HOd.out hne (fun hn=>rF hn (fun _ h=>by cases h)) (fun hn=>rF hn (fun _ h=>by cases h)) (.slice AL LN cl) (.slice AG GN cg) (.slice AS SN cs') (.slice (some ⟨gE,0,none⟩) 1 1) o) (Ext.refl _).drew
  ·have h:=m7 HG.out HRd.out HOd.out hne (fun hn=>pG (by rw[HGN.out];exact hn) (fun _ h=>by cases h)) (fun hn=>pG (by rw[HGN.out];exact hn) (fun _ h=>by cases h)) (.slice AL LN cl) (.slice AG GN cg) (.slice AS SN cs') (.slice (some ⟨gE,0,none⟩) 1 1) o;rw[HGN.out];exact Reads.ext h (Ext.refl _).drew
  ·have h:=m7 HS.out HRd.out HOd.out hne (fun hn=>pH (by rw[HSN.out];exact hn) (fun h=>by cases h)) (fun hn=>pH (by rw[HSN.out];exact hn) (fun h=>by injection h with h;exact CZ HOK.out.key (Db h))) (.slice AL LN cl) (.slice AG GN cg) (.slice AS SN cs') (.slice (some ⟨gE,0,none⟩) 1 1) o;rw[HSN.out];exact Reads.ext h (Ext.refl _).drew
  ·exact(ib (ib HEb.out (ir _ _ _ _ _ _) (az HEb.out HRd.out (by decide))) (jD _ _ _) (az HEb.out HOd.out (by decide))).drew
  ·exact(ib (ib HTb.out (ir _ _ _ _ _ _) (az HTb.out HRd.out (by decide))) (jD _ _ _) (az HTb.out HOd.out (by decide))).drew
end
end
section
open Go.RowKit Go.Shelf
theorem lh{w:World}{k:Int}{e:Ending}{w':World}(h:tF w k e w'):tP w k e w':=⟨⟨none,0,0,h.1⟩,h.2⟩
def EW(w:World)(ls:List LotV)(f:FactV)(ps:List Fr)(os:List OptV)(ch:Int)(e:Ending)(w':World):Prop:=AY w e w'∨BE w ls f ps os ch e w'
theorem yC(w:World)(ls:List LotV)(A:Option Addr)(c:Nat)(f:FactV)(ps:List Fr)(os:List OptV)(pa oa:Option Addr)(pc oq:Nat)(ch:Int)(hI:LawIn w ls A f ps os pa oa pc)(hg:bZ ls=false)(hn:GreatNo f ps os)(hE:Env w) :
  Calls Tryz.prog 22 #[.slice A ls.length c,aB f (ac pa ps.length pc) (ac oa os.length oq),.int .i64 ch] w (EW w ls f ps os ch):=by
 have hsm:=jt hg;have hn2:=(d7 hg).1;have hFA:=hI.fact hn;by_cases hall:aw ls=0;rotate_left
 ·exact(pI w ls A c f ps os pa oa pc oq ch 1 (by decide) (fun W hx=>(yg W ls A c f ps os pa oa pc oq ch (hE.ext hx) (hI.la.ext hx) (hFA.ext hx) hI.wf hsm (by omega) hall).mono fun _ _ h=>lh h)).mono fun _ _ h => .inl h
 by_cases hfe:cP f ps os=0;rotate_left
 ·exact(pI w ls A c f ps os pa oa pc oq ch 1 (by decide) (fun W hx=>(yh W ls A c f ps os pa oa pc oq ch (hE.ext hx) (hI.la.ext hx) (hFA.ext hx) hI.wf hsm (by omega) hall hfe).mono fun _ _ h=>lh h)).mono fun _ _ h => .inl h
 by_cases hkd:f.kind=10;rotate_left
 ·exact(pI w ls A c f ps os pa oa pc oq ch 7 (by decide) (fun W hx=>(yi W ls A c f ps os pa oa pc oq ch (hE.ext hx) (hI.la.ext hx) (hFA.ext hx) hI.wf hsm (by omega) hall hfe hkd).mono fun _ _ h=>lh h)).mono fun _ _ h => .inl h
 by_cases hch:ch<0∨(os.length:Int)≤ch
 ·exact(pI w ls A c f ps os pa oa pc oq ch 2 (by decide) (fun W hx=>(yj W ls A c f ps os pa oa pc oq ch (hE.ext hx) (hI.la.ext hx) (hFA.ext hx) hI.wf hsm (by omega) hall hfe hkd hch).mono fun _ _ h=>lh h)).mono fun _ _ h => .inl h
 have hc2:0≤ch∧ch<(os.length:Int):=by omega
 by_cases hold:ap ls f.ins=[]
 ·exact(EV w ls A c f ps os pa oa pc oq ch (fun W hx=>(BC W ls A c f ps os pa oa pc oq ch (hE.ext hx) (hI.la.ext hx) (hFA.ext hx) hI.wf hsm (by omega) hall hfe hkd hc2 hold).mono (by
   rintro e w'⟨B,d,rfl,_,hx⟩;exact⟨⟨B,ls.length,d,rfl⟩,hx⟩)) hI.la (by omega) hc2 hold).mono fun _ _ h => .inl h
 obtain⟨k,rfl⟩:∃k:Nat,ch=(k:Int):=⟨ch.toNat,by omega⟩;have hk:k<os.length:=by omega
 obtain⟨N,cash,fr,T,hin⟩:=wA (oq:=oq) (c:=c) hg hn hI.la hFA hall hfe hkd hk hold;have ok:=Hp hg hn hall hfe hkd hk hold T;have AP:=fun W (hx:Ext w W)=>wE W ls A c f ps os pa oa pc oq k (os[k]'hk) N cash (ofI (au ls f.ins)) fr (hin.ext hx) (hE.ext hx)
 generalize dx N f.key (aN (os[k]'hk) f.ins N) (ap ls f.ins) cash (aM (os[k]'hk) (ofI (au ls f.ins)) N cash)=st at *;by_cases hnf:∀x ∈ st.fs,(cr ls x.id).isSome=false
 ·refine(Hx w ls A c f ps os pa oa pc oq k (os[k]'hk) N cash fr _ _ st ok hnf hI.la hI.ro (fun W hx=>(AP W hx).mono ?_)).mono fun _ _ h => .inr h
  rintro e w' (⟨⟨x,hx1,hx2⟩,_⟩ | ⟨_,h⟩)
  ·rw[hnf x hx1]at hx2
   cases hx2
  ·exact h
 ·refine(pI w ls A c f ps os pa oa pc oq k 5 (by decide) (fun W hx=>(AP W hx).mono ?_)).mono fun _ _ h => .inl h
  rintro e w' (⟨_,h1,h2⟩ | ⟨h,_⟩)
  ·exact⟨⟨none,0,0,h1⟩,h2⟩
  ·exact absurd h hnf
end
end Go.Proofs.YthgpheopnhajaaaGreatDoor
