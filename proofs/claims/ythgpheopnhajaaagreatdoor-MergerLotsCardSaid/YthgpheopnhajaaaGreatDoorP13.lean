/- The seat's texts, part P13. -/
import Derived.Test.YthgpheopnhajaaaGreatDoorP2
import Derived.Test.YthgpheopnhajaaaGreatDoorP11
import Derived.Test.YthgpheopnhajaaaGreatDoorP12
import Derived.Maps.AppendAt
import Derived.Deep.AppendLies
import Derived.RegionTactic
import Derived.OwnWalk
set_option maxRecDepth 100000
set_option maxHeartbeats 8000000
namespace Go.Proofs.YthgpheopnhajaaaGreatDoor
section
open Go.RowKit Go.Shelf
attribute [local go_sem] size_bs toList_bs
theorem Blk.only'{w w':World}{g g':Nat}{t:TypeId}{cs:Array Value}(h:Blk w g t cs)(ho:Only g' w w')(hp:g≠g'):Blk w' g t cs:=(ho.block g h.lt (by intro e;injection e with e;exact hp e)).trans h
theorem RowS.new'{w:World}{g n:Nat}(hn:n≤3000000)(h:Blk w g 24 (Array.replicate n (Value.string ⟨#[]⟩))):RowS w g n (List.replicate n []) :=
 RowS.new hn (by rw[List.toArray_replicate];exact h)
theorem RowI.new'{w:World}{g n:Nat}(hn:n≤3000000)(h:Blk w g 3 (Array.replicate n (Value.int .i64 0))):RowI w g n (List.replicate n 0) :=
 RowI.new hn (by rw[List.toArray_replicate];exact h)
def lm(T:Int)(ls:List Bs):List Bs:=(cu T (ls.map valI)).map ofI
def jH(T:Int)(ls:List Bs):List Bs:=(cJ T (ls.map valI)).map ofI
theorem ja(T:Int)(ls:List Bs):(lm T ls).length=ls.length:=by simp[lm,cu]
theorem eM(T:Int)(ls:List Bs):(jH T ls).length=ls.length:=by simp[jH,cJ]
theorem uO(T:Int)(ls:List Bs){k:Nat}(hk:k<ls.length)(h:k<(lm T ls).length):(lm T ls)[k]'h=ofI (T*valI (ls[k]'hk) / aR ls):=by simp[lm,cu,aR]
theorem Ce(T:Int)(ls:List Bs){k:Nat}(hk:k<ls.length)(h:k<(jH T ls).length):(jH T ls)[k]'h=ofI (T*valI (ls[k]'hk) % aR ls):=by simp[jH,cJ,aR]
def gm(T:Int)(ls:List Bs)(k:Nat):Int:=T-((cu T (ls.map valI)).take k).sum
theorem vN(T:Int)(ls:List Bs){k:Nat}(hk:k<ls.length):gm T ls k-T*valI (ls[k]'hk) / aR ls=gm T ls (k+1):=by
 have hl:k<(cu T (ls.map valI)).length:=by simpa[cu] using hk
 unfold gm;rw[List.take_succ_eq_append_getElem hl,List.sum_append];have:(cu T (ls.map valI))[k]'hl=T*valI (ls[k]'hk) / aR ls:=by simp[cu,aR]
 rw[this];simp;omega
theorem vO(T:Int)(ls:List Bs):gm T ls ls.length=bV T (ls.map valI):=by
 unfold gm bV;rw[List.take_of_length_le (by simp[cu])]
theorem jU(l:List Int)(h:∀x ∈ l,0≤x):0≤l.sum:=by
 induction l with
 |nil=>simp
 |cons a r ih=>rw[List.sum_cons];have:=h a (by simp);have:=ih (fun x hx=>h x (by simp[hx]));omega
theorem pb{T:Int}{ls:List Bs}(h0:0≤T)(hW:WtOK ls):∀x ∈ cu T (ls.map valI),0≤x:=by
 intro x hx;obtain⟨y,hy,rfl⟩:=List.mem_map.1 hx;obtain⟨z,hz,rfl⟩:=List.mem_map.1 hy;exact Int.ediv_nonneg (Int.mul_nonneg h0 (hW.nn z hz)) (Int.le_of_lt hW.sum)
theorem sS{T:Int}{ls:List Bs}(h0:0≤T)(hW:WtOK ls)(k:Nat):0≤gm T ls k∧gm T ls k≤T:=by
 have h1:=pb h0 hW;have h2:=(gF (T:=T) (ws:=ls.map valI) hW.sum).1;have h3:=jU _ (fun x hx=>h1 x (List.mem_of_mem_take (i:=k) hx));have h4:=jU _ (fun x hx=>h1 x (List.mem_of_mem_drop (i:=k) hx));have h5:(cu T (ls.map valI)).sum=((cu T (ls.map valI)).take k).sum+((cu T (ls.map valI)).drop k).sum:=by rw[←List.sum_append,List.take_append_drop]
 unfold bV at h2;unfold gm;omega
theorem vP{L:Nat}{t:Bs}{ls:List Bs}(ht:t.length≤L)(h0:0≤valI t)(hW:WtOK ls)(k:Nat):(ofI (gm (valI t) ls k)).length≤L+1:=by
 have h1:=sS h0 hW k;have h2:=aF ht;exact bu (by omega)
theorem DB{L:Nat}{t:Bs}{ls:List Bs}(ht:t.length≤L)(hs:∀x ∈ ls,x.length≤L)(h0:0≤valI t)(hW:WtOK ls):∀x ∈ cu (valI t) (ls.map valI),0≤x∧x<((10 ^ (L+L):Nat):Int):=by
 intro x hx;refine⟨pb h0 hW x hx,?_⟩;obtain⟨y,hy,rfl⟩:=List.mem_map.1 hx;obtain⟨z,hz,rfl⟩:=List.mem_map.1 hy;have h1:=aF ht;have h2:=aF (hs z hz);have h3:=hW.nn z hz;have h4:0≤valI t*valI z:=Int.mul_nonneg h0 h3;have h5:=Int.ediv_le_self (a:=valI t*valI z) ((ls.map valI).sum) h4
 have h6:(valI t*valI z).natAbs<10 ^ (L+L):=by
  rw[Int.natAbs_mul,Nat.pow_add];exact Nat.mul_lt_mul'' h1 h2
 omega
theorem Cf{L:Nat}{t:Bs}{ls:List Bs}(ht:t.length≤L)(hs:∀x ∈ ls,x.length≤L)(h0:0≤valI t)(hW:WtOK ls):∀x ∈ cJ (valI t) (ls.map valI),(ofI x).length≤L+L+1:=by
 intro x hx;obtain⟨y,hy,rfl⟩:=List.mem_map.1 hx;obtain⟨z,hz,rfl⟩:=List.mem_map.1 hy;have h1:=aF ht;have h2:=aF (hs z hz);have h3:=hW.nn z hz;have hS:0<(ls.map valI).sum:=hW.sum;have h4:0≤valI t*valI z:=Int.mul_nonneg h0 h3;have h5:0≤(ls.map valI).sum*(valI t*valI z / (ls.map valI).sum):=Int.mul_nonneg (Int.le_of_lt hS) (Int.ediv_nonneg h4 (Int.le_of_lt hS))
 have h6:(valI t*valI z).natAbs<10 ^ (L+L):=by
  rw[Int.natAbs_mul,Nat.pow_add];exact Nat.mul_lt_mul'' h1 h2
 have h7:=Int.emod_nonneg (valI t*valI z) (show(ls.map valI).sum≠0 by omega);have h8:=Int.emod_def (valI t*valI z) (ls.map valI).sum;exact bu (by omega)
theorem oE{L:Nat}{t:Bs}{ls:List Bs}(ht:t.length≤L)(hs:∀x ∈ ls,x.length≤L)(h0:0≤valI t)(hW:WtOK ls)(j i:Nat)(v:Int)(h:(cI (cu (valI t) (ls.map valI)) ((db (valI t) (ls.map valI)).take j))[i]? = some v):(ofI v).length≤L+L+2:=by
 have hi:=(List.getElem?_eq_some_iff.1 h).1;rw[lj]at hi;rw[lk _ _ (mb.sublist (List.take_sublist _ _)) _ hi]at h;injection h with h
 have h1:=DB ht hs h0 hW _ (List.getElem_mem hi);have h2:10 ^ (L+L+1)=10*10 ^ (L+L):=by rw[Nat.pow_succ,Nat.mul_comm]
 have h3:0<10 ^ (L+L):=Nat.pow_pos (by decide);refine bu (L:=L+L+1) ?_;subst h;split <;> omega
theorem sU(p:List Int)(is:List Nat){j:Nat}(hj:j<is.length):cI p (is.take (j+1))=(cI p (is.take j)).modify (is[j]'hj) (·+1):=by
 unfold cI;rw[List.take_succ_eq_append_getElem hj,List.foldl_append];rfl
theorem vQ(l:List Int)(i:Nat)(v:Int)(h:l[i]? = some v):(l.map ofI).set i (ofI (v+1))=(l.modify i (·+1)).map ofI:=by
 apply List.ext_getElem?;intro k;rw[List.getElem?_set,List.getElem?_map,List.getElem?_map,List.getElem?_modify];have hi:=(List.getElem?_eq_some_iff.1 h).1;by_cases e:i=k
 ·subst e;rw[if_pos rfl,if_pos (by simpa using hi),h];simp
 ·rw[if_neg e];simp[e]
structure PosAt (w:World) (P R G O:Nat) (T:Int) (ls:List Bs) (kp kr ko:Nat) (W:World):Prop where
 ext:Ext w W
 p:RowS W P ls.length (mixL (lm T ls) [] kp)
 r:RowS W R ls.length (mixL (jH T ls) [] kr)
 o:RowI W O ls.length (mixL (List.range ls.length) 0 ko)
 g:Blk W G 106 #[.slice (some ⟨R,0,none⟩) ls.length ls.length]
structure Apart (w:World) (P R G O:Nat):Prop where
 pr:P≠R
 pg:P≠G
 rg:R≠G
 po:P≠O
 ro:R≠O
 go:G≠O
 p:w.heap.size≤P
 r:w.heap.size≤R
 g:w.heap.size≤G
 o:w.heap.size≤O
section
variable {w:World} {P R G O:Nat} {T:Int} {ls:List Bs} {kp kr ko:Nat} {W W':World}
theorem PosAt.on(h:PosAt w P R G O T ls kp kr ko W)(hx:Ext W W'):PosAt w P R G O T ls kp kr ko W' :=
 ⟨h.ext.trans hx,h.p.ext hx,h.r.ext hx,h.o.ext hx,h.g.ext hx⟩
theorem PosAt.putP(h:PosAt w P R G O T ls kp kr ko W)(ha:Apart w P R G O)(hk:kp<ls.length):PosAt w P R G O T ls (kp+1) kr ko (W.setCell ⟨P,kp,none⟩ (.string (bs (ofI (T*valI (ls[kp]'hk) / aR ls))))):=by
 refine⟨h.ext.setCell (p:=⟨P,kp,none⟩) ha.p _,?_,h.r.far ha.pr.symm _ _,h.o.far ha.po.symm _ _,h.g.far (p:=⟨P,kp,none⟩) ha.pg.symm _⟩;have hl:kp<(lm T ls).length:=by rw[ja];exact hk
 have:=h.p.set_ kp ((lm T ls)[kp]'hl);rw[mixL_set hl,uO T ls hk]at this
 exact this
theorem PosAt.putR(h:PosAt w P R G O T ls kp kr ko W)(ha:Apart w P R G O)(hk:kr<ls.length):PosAt w P R G O T ls kp (kr+1) ko (W.setCell ⟨R,kr,none⟩ (.string (bs (ofI (T*valI (ls[kr]'hk) % aR ls))))):=by
 refine⟨h.ext.setCell (p:=⟨R,kr,none⟩) ha.r _,h.p.far ha.pr _ _,?_,h.o.far ha.ro.symm _ _,h.g.far (p:=⟨R,kr,none⟩) ha.rg.symm _⟩;have hl:kr<(jH T ls).length:=by rw[eM];exact hk
 have:=h.r.set_ kr ((jH T ls)[kr]'hl);rw[mixL_set hl,Ce T ls hk]at this
 exact this
theorem PosAt.putO(h:PosAt w P R G O T ls kp kr ko W)(ha:Apart w P R G O)(hk:ko<ls.length):PosAt w P R G O T ls kp kr (ko+1) (W.setCell ⟨O,ko,none⟩ (.int .i64 (ko:Int))):=by
 refine⟨h.ext.setCell (p:=⟨O,ko,none⟩) ha.o _,h.p.far ha.po _ _,h.r.far ha.ro _ _,?_,h.g.far (p:=⟨O,ko,none⟩) ha.go _⟩;have hl:ko<(List.range ls.length).length:=by simpa using hk
 have:=h.o.set_ ko ((List.range ls.length)[ko]'hl) (by rw[mixL_len (by simp;omega)];exact hl);rw[mixL_set hl,List.getElem_range]at this
 exact this
theorem PosAt.cells(h:PosAt w P R G O T ls kp kr ko W)(hp:kp<ls.length)(hr:kr<ls.length)(ho:ko<ls.length) :
  W.cell? ⟨G,0,none⟩=some (.slice (some ⟨R,0,none⟩) ls.length ls.length)∧W.cell? ⟨P,kp,none⟩=some (.string (bs []))∧W.frozen? ⟨P,kp,none⟩=false∧W.cell? ⟨R,kr,none⟩=some (.string (bs []))∧W.frozen? ⟨R,kr,none⟩=false∧W.cell? ⟨O,ko,none⟩=some (.int .i64 0)∧W.frozen? ⟨O,ko,none⟩=false :=
 ⟨boxCell h.g,h.p.cell (mixL_at (by rw[ja];exact hp)),h.p.frozen _,h.r.cell (mixL_at (by rw[eM];exact hr)),h.r.frozen _,h.o.cell (mixL_at (by simpa using ho)),h.o.frozen _⟩
theorem PosAt.made(h:PosAt w P R G O T ls (kp+1) kr ko W)(hp:kp<ls.length):W.cell? ⟨P,kp,none⟩=some (.string (bs (ofI (T*valI (ls[kp]'hp) / aR ls)))):=by
 have hl:kp<(lm T ls).length:=by rw[ja];exact hp
 rw[←uO T ls hp hl];refine h.p.cell ?_;unfold mixL;rw[List.getElem?_append_left (by rw[List.length_take];omega),List.getElem?_take,if_pos (by omega),List.getElem?_eq_getElem hl]
end
theorem nM(t:Bs)(ls:List Bs)(A:Option Addr)(c:Nat)(w:World)(hE:Env w)(hA:RdS w A ls)(ht:t.length≤4000)(h0:0≤valI t)(hW:WtOK ls) :
  Calls Tryz.prog 291 #[.string (bs t),.slice A ls.length c] w fun e w'=>∃P,e = .returned (.slice (some ⟨P,0,none⟩) ls.length ls.length)∧w.heap.size≤P∧RowS w' P ls.length ((bA (valI t) (ls.map valI)).map ofI)∧Ext w w':=by
 have HE:=qh hE;have HA:=qh hA;have HWH:=qh (fun W hx=>sR ls A c W (hE.ext hx) (hA.ext hx) hW.sm (by have:=hW.le;omega));have HW:=qh hW;have hnn:=hW.le;have hmk:=makeS ls.length (by have:=hW.le;omega);have hmi:=makeI2 ls.length (by have:=hW.le;omega);have HSUM:Hid (0<aR ls):=qh hW.sum;clear hE hA hW;have HX:Hid (Ext w w):=qh (Ext.refl w);go_enter Tryz.func291,Tryz.ntmps291;go_wp2_with fail;refine(HWH.out _ HX.out).mono ?_;rintro e w1⟨rfl,hx1⟩;replace HX:=HX.qt hx1;clear hx1;go_upto_region 2 with fail;go_cut [6,7] (fun s6 s7 wx=>ThreeAt ls.length w1 s6 s7 wx)
 case first =>
  go_region
  all_goals (go_wp2_with fail;go_meet;clear HX hmk hmi;first|(refine⟨_,(w1.heap.size+1),_,rfl,rfl,?_,?_,?_,?_,?_,?_,RowS.new' ?_ ?_,RowS.new' ?_ ?_,?_,(((Ext.new _ _).alloc _).alloc _).drew⟩ <;> first|omega|((repeat' first|(refine Blk.newAt _ _ _ _ ?_;solve|simp|(simp only[World.size_alloc];omega))|refine Blk.drew ?_|refine Blk.alloc ?_ _);done))|(refine⟨_,(w1.heap.size+1+1),_,rfl,rfl,?_,?_,?_,?_,?_,?_,RowS.new' ?_ ?_,RowS.new' ?_ ?_,?_,(((Ext.new _ _).alloc _).alloc _).drew⟩ <;> first|omega|((repeat' first|(refine Blk.newAt _ _ _ _ ?_;solve|simp|(simp only[World.size_alloc];omega))|refine Blk.drew ?_|refine Blk.alloc ?_ _);done))|(refine⟨_,w1.heap.size,_,rfl,rfl,?_,?_,?_,?_,?_,?_,RowS.new' ?_ ?_,RowS.new' ?_ ?_,?_,(((Ext.new _ _).alloc _).alloc _).drew⟩ <;> first|omega|((repeat' first|(refine Blk.newAt _ _ _ _ ?_;solve|simp|(simp only[World.size_alloc];omega))|refine Blk.drew ?_|refine Blk.alloc ?_ _);done)))
 case rest =>
  obtain⟨P,R,G,rfl,rfl,hPR,hPG,hRG,hP,hR,hG,hrp,hrr,hbg,hxw⟩:=hcut
  have HST:Hid (PosAt w P R G wc.heap.size (valI t) ls 0 0 0 (wc.alloc (.cells (Array.replicate ls.length (.int .i64 0)) 3))):=qh (by
   refine⟨(HX.out.trans hxw).alloc _,?_,?_,?_,hbg.alloc _⟩
   ·rw[mixL_zero,ja];exact hrp.ext (Ext.new _ _)
   ·rw[mixL_zero,eM];exact hrr.ext (Ext.new _ _)
   ·rw[mixL_zero,List.length_range];exact RowI.new' (by omega) (Blk.new _ _ _))
  have HAP:Hid (Apart w P R G wc.heap.size):=qh ⟨hPR,hPG,hRG,Nat.ne_of_lt hrp.lt,Nat.ne_of_lt hrr.lt,Nat.ne_of_lt hbg.lt,Nat.le_trans HX.out.size hP,Nat.le_trans HX.out.size hR,Nat.le_trans HX.out.size hG,(HX.out.trans hxw).size⟩;clear hrp hrr hbg hxw HX HWH hP hR hG hmk hPR hPG hRG;have HT0:Hid (valI t=gm (valI t) ls 0):=qh (by simp[gm]);go_wp2_with fail;clear hmi;generalize hW0:wc.alloc (.cells (Array.replicate ls.length (.int .i64 0)) 3)=W0 at *;clear hW0;generalize wc.heap.size=O at *;go_loopw [30,9,10,11] (fun i s _ _ wr=>∃(k:Nat) (l:Bs),k≤ls.length∧i = .int .i64 k∧s = .string (bs l)∧valI l=gm (valI t) ls k∧l.length≤4001∧(0<k→l=ofI (gm (valI t) ls k))∧PosAt w P R G O (valI t) ls k k k wr) (fun i _ _ _ _=>ls.length-(intOf i).toNat)
  case atStart=>exact⟨0,t,by omega,rfl,rfl,HT0.out,by omega,by omega,HST.out⟩
  case round =>
   clear HST HT0;obtain⟨k,l,hk,rfl,rfl,hl,hll,hlk,hpos⟩:=hrel;have HPOS:=qh hpos;have HL:=qh hl;have HLK:=qh hlk;clear hpos hl hlk;by_cases hlt:k<ls.length
   ·obtain⟨b,o,rfl,hb,c0⟩:=(HA.out.ext HPOS.out.ext).at_ hlt;have m1:=mc t (ls[k]'hlt) (by omega) (by have:=HW.out.sm _ (List.getElem_mem hlt);omega);have ml:=gj ht (HW.out.sm _ (List.getElem_mem hlt));have sl:=kP 4000 ls HW.out.sm (by omega);have d1:=mK (ofI (valI t*valI (ls[k]'hlt))) (ofI (aR ls)) (by omega) (by omega) (by rw[ag];have:=HSUM.out;omega);rw[ag,ag,gY HSUM.out,ou HSUM.out]at d1;have pl:=oE ht HW.out.sm h0 HW.out 0 k (valI t*valI (ls[k]'hlt) / aR ls) (by simp[cI,cu,aR,hlt]);have s1:=gX l (ofI (valI t*valI (ls[k]'hlt) / aR ls)) (by omega) (by omega);rw[ag,HL.out,vN _ _ hlt]at s1;have HLEN:=qh (vP ht h0 HW.out (k+1));have M1:=qh m1;have D1:=qh d1;have S1:=qh s1;have HC:Hid (∀W,Ext wr W→W.cell? ⟨G,0,none⟩=some (.slice (some ⟨R,0,none⟩) ls.length ls.length)∧W.cell? ⟨P,k,none⟩=some (.string (bs []))∧W.frozen? ⟨P,k,none⟩=false∧W.cell? ⟨R,k,none⟩=some (.string (bs []))∧W.frozen? ⟨R,k,none⟩=false∧W.cell? ⟨O,k,none⟩=some (.int .i64 0)∧W.frozen? ⟨O,k,none⟩=false):=qh (fun W hx=>(HPOS.out.on hx).cells hlt hlt hlt);have HP1:Hid (∀W,Ext wr W→PosAt w P R G O (valI t) ls (k+1) (k+1) k ((W.setCell ⟨P,k,none⟩ (.string (bs (ofI (valI t*valI (ls[k]'hlt) / aR ls))))).setCell ⟨R,k,none⟩ (.string (bs (ofI (valI t*valI (ls[k]'hlt) % aR ls)))))):=qh (fun W hx=>((HPOS.out.on hx).putP HAP.out hlt).putR HAP.out hlt);have HP2:Hid (∀W,PosAt w P R G O (valI t) ls (k+1) (k+1) k W→PosAt w P R G O (valI t) ls (k+1) (k+1) (k+1) (W.setCell ⟨O,k,none⟩ (.int .i64 (k:Int)))):=qh (fun W h=>h.putO HAP.out hlt);have HMD:Hid (∀W,PosAt w P R G O (valI t) ls (k+1) (k+1) k W→W.cell? ⟨P,k,none⟩=some (.string (bs (ofI (valI t*valI (ls[k]'hlt) / aR ls))))∧W.cell? ⟨O,k,none⟩=some (.int .i64 0)∧W.frozen? ⟨O,k,none⟩=false):=qh (fun W h=>⟨h.made hlt,h.o.cell (mixL_at (by simpa using hlt)),h.o.frozen _⟩);have HXE:Hid (∀W,PosAt w P R G O (valI t) ls (k+1) (k+1) k W→Env W):=qh (fun W h=>HE.out.ext h.ext);have HER:Hid (Env wr):=qh (HE.out.ext HPOS.out.ext);have hpr:=HAP.out.pr;have hpg:=HAP.out.pg;have hrg:=HAP.out.rg;have hpr':=HAP.out.pr.symm;have hpg':=HAP.out.pg.symm;have hrg':=HAP.out.rg.symm;have hki:(k:Int)<(ls.length:Int):=by omega
    have hk0:(0:Int)≤(k:Int):=by omega
    clear m1 d1 s1 pl ml sl;generalize ofI (valI t*valI (ls[k]'hlt) / aR ls)=zq at *;generalize ofI (valI t*valI (ls[k]'hlt) % aR ls)=zr at *;generalize ofI (valI t*valI (ls[k]'hlt))=zm at *;generalize ls[k]'hlt=x at *;generalize ofI (aR ls)=zs at *;go_upto_region 8 with fail;go_cut [] (fun wx=>PosAt w P R G O (valI t) ls (k+1) (k+1) k wx)
    case first =>
     obtain⟨q0,q1,q2,q3,q4,_,_⟩:=HC.out _ (Ext.refl wr);have HX:Hid (Ext wr wr.drew):=qh (Ext.refl wr).drew
     go_region_held3 (fun w'=>w'.cell? ⟨G,0,none⟩=some (.slice (some ⟨R,0,none⟩) ls.length ls.length))
      (go_keep)
      (first
       |(go_at_call 160;((with_reducible refine(M1.out _ (HER.out.ext HX.out)).mono ?_);rintro e w2⟨rfl,hx⟩);(replace HX:=HX.qt hx);(obtain⟨r0,r1,r2,r3,r4,_,_⟩:=HC.out _ HX.out);clear hx M1)
       |(go_at_call 144;((with_reducible refine(D1.out _ (HER.out.ext HX.out)).mono ?_);rintro e w3⟨rfl,hx⟩);(replace HX:=HX.qt hx);(obtain⟨u0,u1,u2,u3,u4,_,_⟩:=HC.out _ HX.out);clear hx D1))
     all_goals (go_wp2_with fail;go_meet;exact HP1.out _ HX.out)
    case rest =>
     obtain⟨y0,y1,y2⟩:=HMD.out _ hcut;have HCU:=qh hcut;clear hcut;go_wp2_with fail;refine(S1.out _ (HXE.out _ HCU.out)).mono ?_;rintro e w4⟨rfl,hx⟩;obtain⟨v0,v1,v2⟩:=HMD.out _ (HCU.out.on hx);replace HCU:=qh (HP2.out _ (HCU.out.on hx));clear hx;go_wp2_with fail;go_roundw
     case rel=>exact⟨k+1,_,by omega,by go_num,rfl,ag _,HLEN.out,fun _=>rfl,HCU.out⟩
     case measure=>simp[intOf];omega
   ·have hkn:k=ls.length:=by omega
    have hp0:=HW.out.pos
    have HLL:Hid (l=ofI (((bV (valI t) (ls.map valI)).toNat:Nat):Int)):=qh (by
     have h1:=(gF (T:=valI t) (ws:=ls.map valI) HW.out.sum).1;rw[HLK.out (by omega),hkn,vO,Int.toNat_of_nonneg h1])
    have hml:(bV (valI t) (ls.map valI)).toNat≤ls.length:=by
     have h1:=(gF (T:=valI t) (ws:=ls.map valI) HW.out.sum).2;rw[List.length_map]at h1;omega
    have HPR:Hid (RowS wr P ls.length (lm (valI t) ls)):=qh (by
     have:=HPOS.out.p;rw[hkn,←ja (valI t) ls,mixL_full,ja]at this;exact this)
    have HRR:Hid (RowS wr R ls.length (jH (valI t) ls)):=qh (by
     have:=HPOS.out.r;rw[hkn,←eM (valI t) ls,mixL_full,eM]at this;exact this)
    have HOR:Hid (RowI wr O ls.length (List.range ls.length)):=qh (by
     have:=HPOS.out.o;rw[hkn]at this
     have e:=mixL_full (l:=List.range ls.length) (d:=0);rw[List.length_range]at e;rw[e]at this;exact this)
    have HBG:=qh HPOS.out.g;have HXR:=qh HPOS.out.ext;have SM:=qh (DA (bV (valI t) (ls.map valI)).toNat (by omega));rw[←HLL.out]at SM
    have srt:=posSort (jH (valI t) ls) (by
      intro x hx;obtain⟨y,hy,rfl⟩:=List.mem_map.1 hx;have:=Cf ht HW.out.sm h0 HW.out y hy;omega) (by rw[eM];omega) (by rw[eM];omega) (some ⟨R,0,none⟩) ls.length G O ls.length wr (fun W ho=>by
      rw[eM];exact⟨HE.out.ext (ho.toExt HXR.out HAP.out.o),Blk.only' HBG.out ho HAP.out.go,(HRR.out.only ho HAP.out.ro).reads⟩) (by rw[eM];exact HOR.out)
    have ers:(jH (valI t) ls).map valI=cJ (valI t) (ls.map valI):=by
     unfold jH;rw[List.map_map];conv=>rhs;rw[←List.map_id (cJ (valI t) (ls.map valI))]
     apply List.map_congr_left;intro x _;exact ag x
    rw[ers,eM]at srt;have SRT:=qh srt;clear srt ers HLL HPOS HOR HRR HBG;subst hkn;have HTL:Hid ((db (valI t) (ls.map valI))=((ordR (cJ (valI t) (ls.map valI))).map (·.val)).take (bV (valI t) (ls.map valI)).toNat):=qh (by unfold db;rw[List.map_take])
    have HTN:Hid ((db (valI t) (ls.map valI)).length=(bV (valI t) (ls.map valI)).toNat):=qh (by
     have h1:=sG (T:=valI t) (ws:=ls.map valI) HW.out.sum;omega)
    have HOL:Hid (((ordR (cJ (valI t) (ls.map valI))).map (·.val)).length=ls.length):=qh (by rw[List.length_map,ordR_len,iZ,List.length_map]);generalize (bV (valI t) (ls.map valI)).toNat=m at *;generalize (ordR (cJ (valI t) (ls.map valI))).map (·.val)=od at *;go_wp2_with fail;refine SRT.out.mono ?_;rintro e w5⟨rfl,ho,hrd⟩;have HPR2:=qh (HPR.out.only ho HAP.out.po);have HXR2:=qh (ho.toExt HXR.out HAP.out.o);have HRD:=qh hrd;clear ho hrd HPR HXR SRT;go_wp2_with fail;refine(SM.out _ (HE.out.ext HXR2.out)).mono ?_;rintro e w6⟨rfl,hx⟩;replace HPR2:=qh (HPR2.out.ext hx);replace HXR2:=HXR2.qt hx;replace HRD:=qh (HRD.out.ext hx);clear hx SM;have hmi1:(m:Int)≤(ls.length:Int):=by omega
    have hmi0:(0:Int)≤(m:Int):=by omega
    go_wp2_with fail;go_loopw [73,15] (fun i _ wr=>∃j:Nat,j≤m∧i = .int .i64 j∧RowS wr P ls.length ((cI (cu (valI t) (ls.map valI)) ((db (valI t) (ls.map valI)).take j)).map ofI)∧RdI wr (some ⟨O,0,none⟩) od∧Ext w wr) (fun i _ _=>m-(intOf i).toNat)
    case atStart=>exact⟨0,by omega,rfl,HPR2.out,HRD.out,HXR2.out⟩
    case round =>
     clear HPR2 HRD HXR2;obtain⟨j,hj,rfl,hrow,hrd,hx⟩:=hrel;have HRO:=qh hrow;have HRD:=qh hrd;have HX:=qh hx;clear hrow hrd hx;by_cases hjm:j<m
     ·have hjt:j<(db (valI t) (ls.map valI)).length:=by rw[HTN.out];exact hjm
      have hjo:j<od.length:=by rw[HOL.out];omega
      have eo:od[j]'hjo=(db (valI t) (ls.map valI))[j]'hjt:=by
       have:(db (valI t) (ls.map valI))[j]? = od[j]? := by rw[HTL.out,List.getElem?_take,if_pos hjm]
       rw[List.getElem?_eq_getElem hjt,List.getElem?_eq_getElem hjo]at this
       injection this with this
       exact this.symm
      have hin:(db (valI t) (ls.map valI))[j]'hjt<ls.length:=by
       have:=uF _ (List.getElem_mem hjt);rw[List.length_map]at this;exact this
      obtain⟨b',o',he,_,c1⟩:=HRD.out.at_ hjo;injection he with he
      injection he with e1 e2 _
      subst e1 e2;rw[Nat.zero_add,eo]at c1;have HNX:Hid (cI (cu (valI t) (ls.map valI)) ((db (valI t) (ls.map valI)).take (j+1))=_):=qh (sU (cu (valI t) (ls.map valI)) (db (valI t) (ls.map valI)) hjt);have hbl:(cI (cu (valI t) (ls.map valI)) ((db (valI t) (ls.map valI)).take j)).length=ls.length:=by rw[lj,kn,List.length_map]
      have HBLN:=qh (oE ht HW.out.sm h0 HW.out j);generalize (db (valI t) (ls.map valI))[j]'hjt=i at *;generalize hB1:cI (cu (valI t) (ls.map valI)) ((db (valI t) (ls.map valI)).take (j+1))=B1 at *;have HB1:=qh hB1;clear hB1;generalize cI (cu (valI t) (ls.map valI)) ((db (valI t) (ls.map valI)).take j)=B0 at *;obtain⟨v,hv⟩:∃v,B0[i]? = some v:=⟨_,List.getElem?_eq_getElem (by omega)⟩;have hvl:=HBLN.out i v hv;have hmod:=vQ B0 i v hv;rw[←HNX.out]at hmod;have HMOD:=qh hmod;have pc:=HRO.out.cell (k:=i) (x:=ofI v) (by rw[List.getElem?_map,hv];rfl)
      have a1:bc 21 #[.string (bs (ofI v)),.string ⟨#[49]⟩] (.string (bs (ofI (v+1)))):=by
       have:=fS (ofI v) [49] (by omega) (by decide);rw[ag,show valI [49]=1 by decide]at this
       exact this
      have A1:=qh a1;have HCC:Hid (∀W,Ext wr W→W.cell? ⟨P,i,none⟩=some (.string (bs (ofI v)))∧W.frozen? ⟨P,i,none⟩=false):=qh (fun W hx=>⟨(HRO.out.ext hx).cell (by rw[List.getElem?_map,hv];rfl),(HRO.out.ext hx).frozen _⟩);have hii:(i:Int)<(ls.length:Int):=by omega
      have hi0:(0:Int)≤(i:Int):=by omega
      have hjj:(j:Int)<(m:Int):=by omega
      have hj0:(0:Int)≤(j:Int):=by omega
      clear a1 hmod hv hvl HBLN HNX eo hbl hjt hjo;generalize ofI v=z0 at *;generalize ofI (v+1)=z1 at *;go_wp2_with fail;refine(A1.out _ (HE.out.ext HX.out)).mono ?_;rintro e w7⟨rfl,hx⟩;obtain⟨d0,d1⟩:=HCC.out _ hx;have HR2:=qh ((HRO.out.ext hx).set_ i z1);rw[HMOD.out]at HR2;have HRD2:=qh (RdI.far (g:=P) (i:=i) (HRD.out.ext hx) (.string (bs z1)) (fun _ b o he=>by injection he with he;injection he with e1 _ _;rw[←e1];exact HAP.out.po.symm));have HX2:=qh ((HX.out.trans hx).setCell (p:=⟨P,i,none⟩) HAP.out.p (.string (bs z1)));clear hx;go_wp2_with fail;go_roundw
      case rel=>exact⟨j+1,by omega,by go_num,by rw[HB1.out];exact HR2.out,HRD2.out,HX2.out⟩
      case measure=>simp[intOf];omega
     ·have HFIN:Hid (cI (cu (valI t) (ls.map valI)) ((db (valI t) (ls.map valI)).take j)=bA (valI t) (ls.map valI)):=qh (by
       rw[List.take_of_length_le (by rw[HTN.out];omega)];rfl)
      rw[HFIN.out]at HRO;go_wp2_with fail;go_ret;exact⟨P,rfl,HAP.out.p,HRO.out,HX.out⟩
end
section
open Go.RowKit Go.Shelf
attribute [local go_sem] size_bs toList_bs
def lu(sp:List Int)(k:Nat):List Bs:=((sp.take k).map (-·)++sp.drop k).map ofI
theorem xl(sp:List Int):lu sp 0=sp.map ofI:=by simp[lu]
theorem xm(sp:List Int){k:Nat}(h:sp.length≤k):lu sp k=(sp.map (-·)).map ofI:=by simp[lu,List.take_of_length_le h,List.drop_of_length_le h]
theorem uP(sp:List Int){k:Nat}(hk:k<sp.length):(lu sp k)[k]? = some (ofI (sp[k]'hk)):=by
 unfold lu;rw[List.getElem?_map,List.getElem?_append_right (by simp;omega)];simp[Nat.min_eq_left (Nat.le_of_lt hk),hk]
theorem zu(sp:List Int){k:Nat}(hk:k<sp.length):(lu sp k).set k (ofI (-(sp[k]'hk)))=lu sp (k+1):=by
 unfold lu;rw[←List.map_set];congr 1
 have e:((sp.take k).map (-·)).length=k:=by simp;omega
 rw[List.set_append_right _ _ (by omega),e,Nat.sub_self,List.take_succ_eq_append_getElem hk,List.map_append,List.append_assoc];congr 1
 rw[List.drop_eq_getElem_cons hk];rfl
theorem qR{L:Nat}{t:Bs}{ls:List Bs}(ht:t.length≤L)(hs:∀x ∈ ls,x.length≤L)(h0:0≤valI t)(hW:WtOK ls):∀v ∈ bA (valI t) (ls.map valI),(ofI v).length≤L+L+2:=by
 intro v hv;obtain⟨i,hi,rfl⟩:=List.getElem_of_mem hv;refine oE ht hs h0 hW (db (valI t) (ls.map valI)).length i _ ?_;rw[List.take_length];exact List.getElem?_eq_getElem hi
theorem xp(t:Bs)(ls:List Bs)(A:Option Addr)(c:Nat)(w:World)(hE:Env w)(hA:RdS w A ls)(ht:t.length≤3000)(hW:WtOK ls) :
  Calls Tryz.prog 236 #[.string (bs t),.slice A ls.length c] w fun e w'=>∃P,e = .returned (.slice (some ⟨P,0,none⟩) ls.length ls.length)∧w.heap.size≤P∧RowS w' P ls.length ((dh (valI t) (ls.map valI)).map ofI)∧Ext w w':=by
 have HE:=qh hE;have HA:=qh hA;have HX:Hid (Ext w w):=qh (Ext.refl w);have N1:=qh (xh t (by omega));by_cases hneg:valI t<0
 ·rw[show decide (valI t<0)=true by simp[hneg]]at N1;have HSV:Hid (dh (valI t) (ls.map valI)=(bA (-valI t) (ls.map valI)).map (-·)):=qh (by unfold dh;rw[if_pos hneg]);rw[HSV.out];have n2:=vG t (by omega);have hl:(ofI (-valI t)).length≤3000+1:=bu (L:=3000) (by have:=aF ht;omega);have h0:0≤valI (ofI (-valI t)):=by rw[ag];omega
  have HPO:=qh (fun W hx=>nM (ofI (-valI t)) ls A c W (hE.ext hx) (hA.ext hx) (by omega) h0 hW);have HLS:=qh (qR (L:=4000) (t:=ofI (-valI t)) (by omega) hW.sm h0 hW);rw[ag]at HPO HLS;have N2:=qh n2;have hspl:(bA (-valI t) (ls.map valI)).length=ls.length:=by rw[iz,List.length_map]
  have hnn:=hW.le;clear hE hA hW ht hneg n2 h0 hl HSV;generalize ofI (-valI t)=t' at *;generalize bA (-valI t) (ls.map valI)=sp at *;go_enter Tryz.func236,Tryz.ntmps236;go_wp2_with fail;refine(N1.out _ HE.out).mono ?_;rintro e w1⟨rfl,hx1⟩;replace HX:=HX.qt hx1;clear hx1;go_wp2_with fail;refine(N2.out _ (HE.out.ext HX.out)).mono ?_;rintro e w2⟨rfl,hx1⟩;replace HX:=HX.qt hx1;clear hx1;go_wp2_with fail;refine(HPO.out _ HX.out).mono ?_;rintro e w3⟨P,rfl,hP,hrow,hx1⟩;have hPw:w.heap.size≤P:=Nat.le_trans HX.out.size hP;replace HX:=HX.qt hx1;rw[←xl]at hrow;have HR:=qh hrow;clear hx1 hP hrow HPO N1 N2;go_wp2_with fail;go_loopw [19,6] (fun i _ wr=>∃k:Nat,k≤ls.length∧i = .int .i64 k∧RowS wr P ls.length (lu sp k)∧Ext w wr) (fun i _ _=>ls.length-(intOf i).toNat)
  case atStart=>exact⟨0,by omega,rfl,HR.out,HX.out⟩
  case round =>
   clear HR HX;obtain⟨k,hk,rfl,hr,hx⟩:=hrel;have HR:=qh hr;have HX:=qh hx;clear hr hx;by_cases hlt:k<ls.length
   ·have hks:k<sp.length:=by omega
    have n3:=vG (ofI (sp[k]'hks)) (by have:=HLS.out _ (List.getElem_mem hks);omega);rw[ag]at n3;have N3:=qh n3;have c0:=HR.out.cell (uP sp hks);have HCC:=qh (fun W hx=>(HR.out.ext (w':=W) hx).cell (uP sp hks));have HSET:=qh (zu sp hks);have hki:(k:Int)<(ls.length:Int):=by omega
    have hk0:(0:Int)≤(k:Int):=by omega
    clear n3;generalize ofI (-(sp[k]'hks))=z1 at *;generalize ofI (sp[k]'hks)=z0 at *;go_wp2_with fail;refine(N3.out _ (HE.out.ext HX.out)).mono ?_;rintro e w4⟨rfl,hx⟩;have d0:=HCC.out _ hx;have d1:=(HR.out.ext hx).frozen k;have HR2:=qh ((HR.out.ext hx).set_ k z1);rw[HSET.out]at HR2;have HX2:=qh ((HX.out.trans hx).setCell (p:=⟨P,k,none⟩) hPw (.string (bs z1)));clear hx;go_wp2_with fail;go_roundw
    case rel=>exact⟨k+1,by omega,by go_num,HR2.out,HX2.out⟩
    case measure=>simp[intOf];omega
   ·have HF:=qh (xm sp (k:=k) (by omega));rw[HF.out]at HR;go_wp2_with fail;go_ret;exact⟨P,rfl,hPw,HR.out,HX.out⟩
 ·rw[show decide (valI t<0)=false by simp;omega]at N1;have HSV:Hid (dh (valI t) (ls.map valI)=bA (valI t) (ls.map valI)):=qh (by unfold dh;rw[if_neg hneg]);rw[HSV.out];have HPO:=qh (fun W hx=>nM t ls A c W (hE.ext hx) (hA.ext hx) (by omega) (by omega) hW);clear hE hA hW ht hneg HSV;generalize bA (valI t) (ls.map valI)=sp at *;go_enter Tryz.func236,Tryz.ntmps236;go_wp2_with fail;refine(N1.out _ HE.out).mono ?_;rintro e w1⟨rfl,hx1⟩;replace HX:=HX.qt hx1;clear hx1;go_wp2_with fail;refine(HPO.out _ HX.out).mono ?_;rintro e w3⟨P,rfl,hP,hrow,hx1⟩;have hPw:w.heap.size≤P:=Nat.le_trans HX.out.size hP;replace HX:=HX.qt hx1;have HR:=qh hrow;clear hx1 hP hrow HPO N1;go_wp2_with fail;go_ret;exact⟨P,rfl,hPw,HR.out,HX.out⟩
theorem zv(t:Bs)(ls:List Bs)(A:Option Addr)(c:Nat)(w:World)(hE:Env w)(hA:RdS w A ls)(ht:t.length≤3000)(htc:aq t=0)(hW:WtOK ls) :
  Calls Tryz.prog 175 #[.string (bs t),.slice A ls.length c] w fun e w'=>∃P,e = .returned (.tuple #[.slice (some ⟨P,0,none⟩) ls.length ls.length,.int .i64 0])∧w.heap.size≤P∧RowS w' P ls.length ((dh (valI t) (ls.map valI)).map ofI)∧Ext w w':=by
 have HX:Hid (Ext w w):=qh (Ext.refl w);have HC:=qh (zt t ls A c w hE hA (by omega) htc hW);have HD:=qh (fun W hx=>xp t ls A c W (hE.ext hx) (hA.ext hx) ht hW);clear hE hA ht htc hW;generalize dh (valI t) (ls.map valI)=sp at *;go_enter Tryz.func175,Tryz.ntmps175;go_wp2_with fail;refine HC.out.mono ?_;rintro e w1⟨rfl,hx1⟩;replace HX:=HX.qt hx1;clear hx1;go_wp2_with fail;refine(HD.out _ HX.out).mono ?_;rintro e w3⟨P,rfl,hP,hrow,hx1⟩;have hPw:w.heap.size≤P:=Nat.le_trans HX.out.size hP;replace HX:=HX.qt hx1;have HR:=qh hrow;clear hx1 hP hrow HD HC;go_wp2_with fail;go_ret2;exact⟨P,rfl,hPw,HR.out,HX.out⟩
end
section
open Go.RowKit
attribute [local go_sem] size_bs toList_bs
theorem fF:(Tryz.prog.info? 71).map (fun i=>(i.zero,i.size,i.bytes))=some (some (.agg #[.string ⟨#[]⟩,.string ⟨#[]⟩,.int .i64 0,.int .i64 0,.string ⟨#[]⟩,.string ⟨#[]⟩,.string ⟨#[]⟩]),7,96):=by kernel_rfl
abbrev lots(ls:List LotV):List Value:=ls.flatMap aU
theorem mf(ls:List LotV):(lots ls).length=ls.length*7:=by
 induction ls with
 |nil=>rfl
 |cons x r ih=>simp only[lots,List.flatMap_cons,List.length_append,List.length_cons]at *;rw[ih,iB];omega
theorem zw(ls:List LotV):∀u ∈ lots ls,u.oneCell'=true:=by
 intro u hu;obtain⟨h,_,hh⟩:=List.mem_flatMap.1 hu;unfold aU at hh;simp only[List.mem_cons,List.not_mem_nil,or_false]at hh;rcases hh with rfl|rfl|rfl|rfl|rfl|rfl|rfl <;> rfl
def lz(w:World)(g cap:Nat)(ls:List LotV):Prop:=∃cur,Row w g 71 7 ls.length cap (lots ls) cur
section
variable {w w':World} {g cap:Nat} {ls:List LotV}
theorem lz.lt(h:lz w g cap ls):g<w.heap.size:=by obtain⟨cur,h⟩:=h;exact h.blk.lt
theorem lz.reads(h:lz w g cap ls):bp w (some ⟨g,0,none⟩) ls:=by obtain⟨cur,h⟩:=h;exact h.reads
theorem lz.ext(h:lz w g cap ls)(hx:Ext w w'):lz w' g cap ls:=by obtain⟨cur,h⟩:=h;exact⟨cur,h.ext hx⟩
end
def xt(ls:List LotV)(w:World)(e:Ending)(w':World):Prop :=
 ∃A c,e = .returned (.slice A ls.length c)∧Ext w w'∧(0<ls.length→∃g,A=some ⟨g,0,none⟩∧w.heap.size≤g∧lz w' g c ls)
theorem lM(ls:List LotV)(A:Option Addr)(c:Nat)(w:World)(hA:bp w A ls)(hn:ls.length≤1000000) :
  Calls Tryz.prog 52 #[.slice A ls.length c] w (xt ls w):=by
 obtain⟨i0,hI,hz0,hz1,hz2⟩:=info_parts fF;have HI:=qh hI;clear hI
 cases A with
 |none =>
  have h0:ls=[]:=by
   rcases Nat.eq_zero_or_pos ls.length with h|h
   ·exact List.length_eq_zero_iff.1 h
   ·obtain⟨b,o,e,_⟩:=hA.2 h;cases e
  subst h0;clear hA;have hnil:∀W:World,(binOp .eql 22 (.slice none 0 c) (.slice none 0 0)).run Tryz.prog W = .ok (.bool true) W:=fun W=>Lib.run_eql_slice_nil W _ _ _ _ _ _ _ Tryz.underlying22
  go_enter Tryz.func52,Tryz.ntmps52;go_wp2_with fail;go_ret;exact⟨none,0,rfl,Ext.refl _,fun h=>absurd h (by simp)⟩
 |some a =>
  have hnil:∀W:World,(binOp .eql 22 (.slice (some a) ls.length c) (.slice none 0 0)).run Tryz.prog W = .ok (.bool false) W:=fun W=>Lib.run_eql_slice_nil W _ _ _ _ _ _ _ Tryz.underlying22
  rcases Nat.eq_zero_or_pos ls.length with h0|h0
  ·have h1:ls=[]:=List.length_eq_zero_iff.1 h0;subst h1;simp only[List.length_nil]at hnil;clear hA h0;go_enter Tryz.func52,Tryz.ntmps52
   have hr:∀ty,(Builtin.append_ #[22,22] ty #[.slice (some ⟨w.heap.size,0,none⟩) 0 0,.slice (some a) 0 c]).run Tryz.prog (w.alloc (.cells #[] 71)) = .ok (.slice (some ⟨w.heap.size,0,none⟩) 0 0) (w.alloc (.cells #[] 71)):=fun ty =>
    run_append_room_cells _ _ ty 71 i0 Tryz.underlying22 HI.out w.heap.size 0 0 0 a 0 c [] (by simp) (by simp) (by simp) (Nat.le_refl _) (by simp) (by simp)
   go_wp2_with (at_builtin;refine Lib.wpList_append_run _ rfl (.tmp 5) (.tmp 6) _ _ rfl _ _ rfl rfl _ _ (hr _) ?_);go_ret;exact⟨some ⟨w.heap.size,0,none⟩,0,rfl,Ext.new _ _,fun h=>absurd h (by simp)⟩
  ·obtain⟨b,o,e,hb,hc⟩:=hA.2 h0;injection e with e
   subst e
   have HC:Hid (∀j u,(lots ls)[j]? = some u→(w.alloc (.cells #[] 71)).cell? ((⟨b,o,none⟩:Addr).add j)=some u):=qh (fun j u hu=>by
    rw[Addr.add_lit];exact((Ext.new w _).cell (p:=⟨b,o+j,none⟩) hb).trans (hc j u hu))
   have HL:Hid ((lots ls).length=ls.length*7):=qh (mf ls);clear hc hA;go_enter Tryz.func52,Tryz.ntmps52;go_wp2_with (at_builtin;refine wpList_append_lies _ rfl (.tmp 5) (.tmp 6) 22 rfl w.heap.size 71 i0 _ 7 96 Tryz.underlying22 HI.out hz0 hz1 hz2 rfl (by decide) _ 0 [] rfl ⟨rfl,.inr ⟨w.heap.size,0,#[],rfl,Nat.le_refl _,heap_alloc_new w _,Nat.le_refl _,by decide,rfl,rfl⟩⟩ ⟨b,o,none⟩ ls.length c (lots ls) rfl HL.out HC.out (zw ls) h0 (by simp only[maxLen];omega) (by omega) (by simp) _ rfl ?_;intro g cap w' hown hgrow hat hlt);go_ret;simp only[Nat.zero_add,List.nil_append]at hown;obtain⟨hg,cur,hrow⟩:=Row.of_own hown;exact⟨some ⟨g,0,none⟩,cap,rfl,Ext.only (Ext.new w (.cells #[] 71)) hgrow (Nat.le_refl _),fun _=>⟨g,rfl,hg,cur,hrow⟩⟩
end
end Go.Proofs.YthgpheopnhajaaaGreatDoor
