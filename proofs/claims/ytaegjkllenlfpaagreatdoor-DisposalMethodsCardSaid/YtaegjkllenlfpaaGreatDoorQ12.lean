/- The seat's texts, part Q12. -/
import Derived.Test.YtaegjkllenlfpaaGreatDoorQ2
import Derived.Test.YtaegjkllenlfpaaGreatDoorQ9
import Derived.Test.YtaegjkllenlfpaaGreatDoorQ10
import Derived.Test.YtaegjkllenlfpaaGreatDoorQ11
import Derived.Maps.AppendAt
import Derived.Deep.AppendLies
import Derived.RegionTactic
import Derived.OwnWalk
import Derived.Deep.RegionLaw
import Derived.Shelf.Spec.SlicesInsertGrow
import Derived.IntWalk
import Derived.OwnWalkIn
set_option maxRecDepth 100000
set_option maxHeartbeats 8000000
namespace Go.Proofs.YtaegjkllenlfpaaGreatDoor
variable {g' n j base size l b:Nat}{t' e:TypeId}{v v':Value}{xs:List Value}
section
open Go.RowKit Go.Shelf
attribute [local go_sem] size_bs toList_bs
theorem Blk.only'{w w':World}{g:Nat}{t:TypeId}{cs:Array Value}(h:Blk w g t cs)(ho:Only g' w w')(hp:g≠g'):Blk w' g t cs:=(ho.block g h.lt (by intro e;injection e with e;exact hp e)).trans h
theorem RowS.new'{w:World}{g:Nat}(hn:n<=3000000)(h:Blk w g 24 (Array.replicate n (Value.string ⟨#[]⟩))):RowS w g n (List.replicate n []) :=
 RowS.new hn (by rw[List.toArray_replicate];exact h)
theorem RowI.new'{w:World}{g:Nat}(hn:n<=3000000)(h:Blk w g 3 (Array.replicate n (Value.int .i64 0))):RowI w g n (List.replicate n 0) :=
 RowI.new hn (by rw[List.toArray_replicate];exact h)
def kA(T:Int)(ls:List Bs):List Bs:=(bN T (ls.map valI)).map ofI
def jn(T:Int)(ls:List Bs):List Bs:=(cu T (ls.map valI)).map ofI
theorem iM(T:Int)(ls:List Bs):(kA T ls).length=ls.length:=by simp[kA,bN]
theorem ew(T:Int)(ls:List Bs):(jn T ls).length=ls.length:=by simp[jn,cu]
theorem uB(T:Int)(ls:List Bs){k:Nat}(hk:k<ls.length)(h:k<(kA T ls).length):(kA T ls)[k]'h=ofI (T*valI (ls[k]'hk) / aW ls):=by simp[kA,bN,aW]
theorem Cs(T:Int)(ls:List Bs){k:Nat}(hk:k<ls.length)(h:k<(jn T ls).length):(jn T ls)[k]'h=ofI (T*valI (ls[k]'hk) % aW ls):=by simp[jn,cu,aW]
def fR(T:Int)(ls:List Bs)(k:Nat):Int:=T-((bN T (ls.map valI)).take k).sum
theorem vC(T:Int)(ls:List Bs){k:Nat}(hk:k<ls.length):fR T ls k-T*valI (ls[k]'hk) / aW ls=fR T ls (k+1):=by
 have hl:k<(bN T (ls.map valI)).length:=by simpa[bN] using hk
 unfold fR;rw[List.take_succ_eq_append_getElem hl,List.sum_append];have:(bN T (ls.map valI))[k]'hl=T*valI (ls[k]'hk) / aW ls:=by simp[bN,aW]
 rw[this];simp;omega
theorem vD(T:Int)(ls:List Bs):fR T ls ls.length=bC T (ls.map valI):=by
 unfold fR bC;rw[List.take_of_length_le (by simp[bN])]
theorem dY(l:List Int)(h:∀x ∈ l,0<=x):0<=l.sum:=by
 induction l with
 |nil=>simp
 |cons a r ih=>rw[List.sum_cons];have:=h a (by simp);have:=ih (fun x hx=>h x (by simp[hx]));omega
theorem oJ{T:Int}{ls:List Bs}(h0:0<=T)(hW:WtOK ls):∀x ∈ bN T (ls.map valI),0<=x:=by
 intro x hx;obtain⟨y,hy,rfl⟩:=List.mem_map.1 hx;obtain⟨z,hz,rfl⟩:=List.mem_map.1 hy;exact Int.ediv_nonneg (Int.mul_nonneg h0 (hW.nn z hz)) (Int.le_of_lt hW.sum)
theorem rW{T:Int}{ls:List Bs}(h0:0<=T)(hW:WtOK ls)(k:Nat):0<=fR T ls k∧fR T ls k<=T:=by
 have h1:=oJ h0 hW;have h2:=(gj (T:=T) (ws:=ls.map valI) hW.sum).1;have h3:=dY _ (fun x hx=>h1 x (List.mem_of_mem_take (i:=k) hx));have h4:=dY _ (fun x hx=>h1 x (List.mem_of_mem_drop (i:=k) hx));have h5:(bN T (ls.map valI)).sum=((bN T (ls.map valI)).take k).sum+((bN T (ls.map valI)).drop k).sum:=by rw[←List.sum_append,List.take_append_drop]
 unfold bC at h2;unfold fR;omega
theorem vE{L:Nat}{t:Bs}{ls:List Bs}(ht:t.length<=L)(h0:0<=valI t)(hW:WtOK ls)(k:Nat):(ofI (fR (valI t) ls k)).length<=L+1:=by
 have h1:=rW h0 hW k;have h2:=aH ht;exact bz (by omega)
theorem D5{L:Nat}{t:Bs}{ls:List Bs}(ht:t.length<=L)(hs:∀x ∈ ls,x.length<=L)(h0:0<=valI t)(hW:WtOK ls):∀x ∈ bN (valI t) (ls.map valI),0<=x∧x<((10 ^ (L+L):Nat):Int):=by
 intro x hx;refine⟨oJ h0 hW x hx,?_⟩;obtain⟨y,hy,rfl⟩:=List.mem_map.1 hx;obtain⟨z,hz,rfl⟩:=List.mem_map.1 hy;have h1:=aH ht;have h2:=aH (hs z hz);have h3:=hW.nn z hz;have h4:0<=valI t*valI z:=Int.mul_nonneg h0 h3;have h5:=Int.ediv_le_self (a:=valI t*valI z) ((ls.map valI).sum) h4
 have h6:(valI t*valI z).natAbs<10 ^ (L+L):=by
  rw[Int.natAbs_mul,Nat.pow_add];exact Nat.mul_lt_mul'' h1 h2
 omega
theorem Ct{L:Nat}{t:Bs}{ls:List Bs}(ht:t.length<=L)(hs:∀x ∈ ls,x.length<=L)(h0:0<=valI t)(hW:WtOK ls):∀x ∈ cu (valI t) (ls.map valI),(ofI x).length<=L+L+1:=by
 intro x hx;obtain⟨y,hy,rfl⟩:=List.mem_map.1 hx;obtain⟨z,hz,rfl⟩:=List.mem_map.1 hy;have h1:=aH ht;have h2:=aH (hs z hz);have h3:=hW.nn z hz;have hS:0<(ls.map valI).sum:=hW.sum;have h4:0<=valI t*valI z:=Int.mul_nonneg h0 h3;have h5:0<=(ls.map valI).sum*(valI t*valI z / (ls.map valI).sum):=Int.mul_nonneg (Int.le_of_lt hS) (Int.ediv_nonneg h4 (Int.le_of_lt hS))
 have h6:(valI t*valI z).natAbs<10 ^ (L+L):=by
  rw[Int.natAbs_mul,Nat.pow_add];exact Nat.mul_lt_mul'' h1 h2
 have h7:=Int.emod_nonneg (valI t*valI z) (show(ls.map valI).sum≠0 by omega);have h8:=Int.emod_def (valI t*valI z) (ls.map valI).sum;exact bz (by omega)
theorem nN{L:Nat}{t:Bs}{ls:List Bs}(ht:t.length<=L)(hs:∀x ∈ ls,x.length<=L)(h0:0<=valI t)(hW:WtOK ls)(j i:Nat)(v:Int)(h:(cD (bN (valI t) (ls.map valI)) ((cU (valI t) (ls.map valI)).take j))[i]? = some v):(ofI v).length<=L+L+2:=by
 have hi:=(List.getElem?_eq_some_iff.1 h).1;rw[ky]at hi;rw[kz _ _ (lj.sublist (List.take_sublist _ _)) _ hi]at h;injection h with h
 have h1:=D5 ht hs h0 hW _ (List.getElem_mem hi);have h2:10 ^ (L+L+1)=10*10 ^ (L+L):=by rw[Nat.pow_succ,Nat.mul_comm]
 have h3:0<10 ^ (L+L):=Nat.pow_pos (by decide);refine bz (L:=L+L+1) ?_;subst h;split <;> omega
theorem rX(p:List Int)(is:List Nat)(hj:j<is.length):cD p (is.take (j+1))=(cD p (is.take j)).modify (is[j]'hj) (·+1):=by
 unfold cD;rw[List.take_succ_eq_append_getElem hj,List.foldl_append];rfl
theorem vF(l:List Int)(i:Nat)(v:Int)(h:l[i]? = some v):(l.map ofI).set i (ofI (v+1))=(l.modify i (·+1)).map ofI:=by
 apply List.ext_getElem?;intro k;rw[List.getElem?_set,List.getElem?_map,List.getElem?_map,List.getElem?_modify];have hi:=(List.getElem?_eq_some_iff.1 h).1;by_cases e:i=k
 ·subst e;rw[if_pos rfl,if_pos (by simpa using hi),h];simp
 ·rw[if_neg e];simp[e]
structure PosAt (w:World) (P R G O:Nat) (T:Int) (ls:List Bs) (kp kr ko:Nat) (W:World):Prop where
 ext:Ext w W
 p:RowS W P ls.length (mixL (kA T ls) [] kp)
 r:RowS W R ls.length (mixL (jn T ls) [] kr)
 o:RowI W O ls.length (mixL (List.range ls.length) 0 ko)
 g:Blk W G 117 #[.slice (some ⟨R,0,none⟩) ls.length ls.length]
structure Apart (w:World) (P R G O:Nat):Prop where
 pr:P≠R
 pg:P≠G
 rg:R≠G
 po:P≠O
 ro:R≠O
 go:G≠O
 p:w.heap.size<=P
 r:w.heap.size<=R
 g:w.heap.size<=G
 o:w.heap.size<=O
section
variable {w:World} {P R G O:Nat} {T:Int} {ls:List Bs} {kp kr ko:Nat} {W W':World}
theorem PosAt.on(h:PosAt w P R G O T ls kp kr ko W)(hx:Ext W W'):PosAt w P R G O T ls kp kr ko W' :=
 ⟨h.ext.trans hx,h.p.ext hx,h.r.ext hx,h.o.ext hx,h.g.ext hx⟩
theorem PosAt.putP(h:PosAt w P R G O T ls kp kr ko W)(ha:Apart w P R G O)(hk:kp<ls.length):PosAt w P R G O T ls (kp+1) kr ko (W.setCell ⟨P,kp,none⟩ (.string (bs (ofI (T*valI (ls[kp]'hk) / aW ls))))):=by
 refine⟨h.ext.setCell (p:=⟨P,kp,none⟩) ha.p _,?_,h.r.far ha.pr.symm _ _,h.o.far ha.po.symm _ _,h.g.far (p:=⟨P,kp,none⟩) ha.pg.symm _⟩;have hl:kp<(kA T ls).length:=by rw[iM];exact hk
 have:=h.p.set_ kp ((kA T ls)[kp]'hl);rw[mixL_set hl,uB T ls hk]at this
 exact this
theorem PosAt.putR(h:PosAt w P R G O T ls kp kr ko W)(ha:Apart w P R G O)(hk:kr<ls.length):PosAt w P R G O T ls kp (kr+1) ko (W.setCell ⟨R,kr,none⟩ (.string (bs (ofI (T*valI (ls[kr]'hk) % aW ls))))):=by
 refine⟨h.ext.setCell (p:=⟨R,kr,none⟩) ha.r _,h.p.far ha.pr _ _,?_,h.o.far ha.ro.symm _ _,h.g.far (p:=⟨R,kr,none⟩) ha.rg.symm _⟩;have hl:kr<(jn T ls).length:=by rw[ew];exact hk
 have:=h.r.set_ kr ((jn T ls)[kr]'hl);rw[mixL_set hl,Cs T ls hk]at this
 exact this
theorem PosAt.putO(h:PosAt w P R G O T ls kp kr ko W)(ha:Apart w P R G O)(hk:ko<ls.length):PosAt w P R G O T ls kp kr (ko+1) (W.setCell ⟨O,ko,none⟩ (.int .i64 (ko:Int))):=by
 refine⟨h.ext.setCell (p:=⟨O,ko,none⟩) ha.o _,h.p.far ha.po _ _,h.r.far ha.ro _ _,?_,h.g.far (p:=⟨O,ko,none⟩) ha.go _⟩;have hl:ko<(List.range ls.length).length:=by simpa using hk
 have:=h.o.set_ ko ((List.range ls.length)[ko]'hl) (by rw[mixL_len (by simp;omega)];exact hl);rw[mixL_set hl,List.getElem_range]at this
 exact this
theorem PosAt.cells(h:PosAt w P R G O T ls kp kr ko W)(hp:kp<ls.length)(hr:kr<ls.length)(ho:ko<ls.length) :
  W.cell? ⟨G,0,none⟩=some (.slice (some ⟨R,0,none⟩) ls.length ls.length)∧W.cell? ⟨P,kp,none⟩=some (.string (bs []))∧W.frozen? ⟨P,kp,none⟩=false∧W.cell? ⟨R,kr,none⟩=some (.string (bs []))∧W.frozen? ⟨R,kr,none⟩=false∧W.cell? ⟨O,ko,none⟩=some (.int .i64 0)∧W.frozen? ⟨O,ko,none⟩=false :=
 ⟨boxCell h.g,h.p.cell (mixL_at (by rw[iM];exact hp)),h.p.frozen _,h.r.cell (mixL_at (by rw[ew];exact hr)),h.r.frozen _,h.o.cell (mixL_at (by simpa using ho)),h.o.frozen _⟩
theorem PosAt.made(h:PosAt w P R G O T ls (kp+1) kr ko W)(hp:kp<ls.length):W.cell? ⟨P,kp,none⟩=some (.string (bs (ofI (T*valI (ls[kp]'hp) / aW ls)))):=by
 have hl:kp<(kA T ls).length:=by rw[iM];exact hp
 rw[←uB T ls hp hl];refine h.p.cell ?_;unfold mixL;rw[List.getElem?_append_left (by rw[List.length_take];omega),List.getElem?_take,if_pos (by omega),List.getElem?_eq_getElem hl]
end
theorem ny(t:Bs)(ls:List Bs)(A:Option Addr)(c:Nat)(w:World)(hE:Env w)(hA:RdS w A ls)(ht:t.length<=4000)(h0:0<=valI t)(hW:WtOK ls) :
  Calls Tryz.prog 222 #[.string (bs t),.slice A ls.length c] w fun e w'=>∃P,e = .returned (.slice (some ⟨P,0,none⟩) ls.length ls.length)∧w.heap.size<=P∧RowS w' P ls.length ((be (valI t) (ls.map valI)).map ofI)∧Ext w w':=by
 have HE:=qh hE;have HA:=qh hA;have HWH:=qh (fun W hx=>rV ls A c W (hE.ext hx) (hA.ext hx) hW.sm (by have:=hW.le;omega));have HW:=qh hW;have hnn:=hW.le;have hmk:=makeS ls.length (by have:=hW.le;omega);have hmi:=makeI2 ls.length (by have:=hW.le;omega);have HSUM:Hid (0<aW ls):=qh hW.sum;clear hE hA hW;have HX:Hid (Ext w w):=qh (Ext.refl w);go_enter Tryz.func222,Tryz.ntmps222;go_wp2_with fail;refine(HWH.out _ HX.out).mono ?_;rintro e w1⟨rfl,hx1⟩;replace HX:=HX.qt hx1;clear hx1;go_upto_region 2 with fail;go_cut [6,7] (fun s6 s7 wx=>ThreeAt ls.length w1 s6 s7 wx)
 case first =>
  go_region
  all_goals (go_wp2_with fail;go_meet;clear HX hmk hmi;first|(refine⟨_,(w1.heap.size+1),_,rfl,rfl,?_,?_,?_,?_,?_,?_,RowS.new' ?_ ?_,RowS.new' ?_ ?_,?_,(((Ext.new _ _).alloc _).alloc _).drew⟩ <;> first|omega|((repeat' first|(refine Blk.newAt _ _ _ _ ?_;solve|simp|(simp only[World.size_alloc];omega))|refine Blk.drew ?_|refine Blk.alloc ?_ _);done))|(refine⟨_,(w1.heap.size+1+1),_,rfl,rfl,?_,?_,?_,?_,?_,?_,RowS.new' ?_ ?_,RowS.new' ?_ ?_,?_,(((Ext.new _ _).alloc _).alloc _).drew⟩ <;> first|omega|((repeat' first|(refine Blk.newAt _ _ _ _ ?_;solve|simp|(simp only[World.size_alloc];omega))|refine Blk.drew ?_|refine Blk.alloc ?_ _);done))|(refine⟨_,w1.heap.size,_,rfl,rfl,?_,?_,?_,?_,?_,?_,RowS.new' ?_ ?_,RowS.new' ?_ ?_,?_,(((Ext.new _ _).alloc _).alloc _).drew⟩ <;> first|omega|((repeat' first|(refine Blk.newAt _ _ _ _ ?_;solve|simp|(simp only[World.size_alloc];omega))|refine Blk.drew ?_|refine Blk.alloc ?_ _);done)))
 case rest =>
  obtain⟨P,R,G,rfl,rfl,hPR,hPG,hRG,hP,hR,hG,hrp,hrr,hbg,hxw⟩:=hcut
  have HST:Hid (PosAt w P R G wc.heap.size (valI t) ls 0 0 0 (wc.alloc (.cells (Array.replicate ls.length (.int .i64 0)) 3))):=qh (by
   refine⟨(HX.out.trans hxw).alloc _,?_,?_,?_,hbg.alloc _⟩
   ·rw[mixL_zero,iM];exact hrp.ext (Ext.new _ _)
   ·rw[mixL_zero,ew];exact hrr.ext (Ext.new _ _)
   ·rw[mixL_zero,List.length_range];exact RowI.new' (by omega) (Blk.new _ _ _))
  have HAP:Hid (Apart w P R G wc.heap.size):=qh ⟨hPR,hPG,hRG,Nat.ne_of_lt hrp.lt,Nat.ne_of_lt hrr.lt,Nat.ne_of_lt hbg.lt,Nat.le_trans HX.out.size hP,Nat.le_trans HX.out.size hR,Nat.le_trans HX.out.size hG,(HX.out.trans hxw).size⟩;clear hrp hrr hbg hxw HX HWH hP hR hG hmk hPR hPG hRG;have HT0:Hid (valI t=fR (valI t) ls 0):=qh (by simp[fR]);go_wp2_with fail;clear hmi;generalize hW0:wc.alloc (.cells (Array.replicate ls.length (.int .i64 0)) 3)=W0 at *;clear hW0;generalize wc.heap.size=O at *;go_loopw [30,9,10,11] (fun i s _ _ wr=>∃(k:Nat) (l:Bs),k<=ls.length∧i = .int .i64 k∧s = .string (bs l)∧valI l=fR (valI t) ls k∧l.length<=4001∧(0<k->l=ofI (fR (valI t) ls k))∧PosAt w P R G O (valI t) ls k k k wr) (fun i _ _ _ _=>ls.length-(intOf i).toNat)
  case atStart=>exact⟨0,t,by omega,rfl,rfl,HT0.out,by omega,by omega,HST.out⟩
  case round =>
   clear HST HT0;obtain⟨k,l,hk,rfl,rfl,hl,hll,hlk,hpos⟩:=hrel;have HPOS:=qh hpos;have HL:=qh hl;have HLK:=qh hlk;clear hpos hl hlk;by_cases hlt:k<ls.length
   ·obtain⟨b,o,rfl,hb,c0⟩:=(HA.out.ext HPOS.out.ext).at_ hlt;have m1:=jl t (ls[k]'hlt) (by omega) (by have:=HW.out.sm _ (List.getElem_mem hlt);omega);have ml:=fP ht (HW.out.sm _ (List.getElem_mem hlt));have sl:=gM 4000 ls HW.out.sm (by omega);have d1:=nJ (ofI (valI t*valI (ls[k]'hlt))) (ofI (aW ls)) (by omega) (by omega) (by rw[valI_ofI];have:=HSUM.out;omega);rw[valI_ofI,valI_ofI,gG HSUM.out,nK HSUM.out]at d1;have pl:=nN ht HW.out.sm h0 HW.out 0 k (valI t*valI (ls[k]'hlt) / aW ls) (by simp[cD,bN,aW,hlt]);have s1:=ln l (ofI (valI t*valI (ls[k]'hlt) / aW ls)) (by omega) (by omega);rw[valI_ofI,HL.out,vC _ _ hlt]at s1;have HLEN:=qh (vE ht h0 HW.out (k+1));have M1:=qh m1;have D1:=qh d1;have S1:=qh s1;have HC:Hid (∀W,Ext wr W->W.cell? ⟨G,0,none⟩=some (.slice (some ⟨R,0,none⟩) ls.length ls.length)∧W.cell? ⟨P,k,none⟩=some (.string (bs []))∧W.frozen? ⟨P,k,none⟩=false∧W.cell? ⟨R,k,none⟩=some (.string (bs []))∧W.frozen? ⟨R,k,none⟩=false∧W.cell? ⟨O,k,none⟩=some (.int .i64 0)∧W.frozen? ⟨O,k,none⟩=false):=qh (fun W hx=>(HPOS.out.on hx).cells hlt hlt hlt);have HP1:Hid (∀W,Ext wr W->PosAt w P R G O (valI t) ls (k+1) (k+1) k ((W.setCell ⟨P,k,none⟩ (.string (bs (ofI (valI t*valI (ls[k]'hlt) / aW ls))))).setCell ⟨R,k,none⟩ (.string (bs (ofI (valI t*valI (ls[k]'hlt) % aW ls)))))):=qh (fun W hx=>((HPOS.out.on hx).putP HAP.out hlt).putR HAP.out hlt);have HP2:Hid (∀W,PosAt w P R G O (valI t) ls (k+1) (k+1) k W->PosAt w P R G O (valI t) ls (k+1) (k+1) (k+1) (W.setCell ⟨O,k,none⟩ (.int .i64 (k:Int)))):=qh (fun W h=>h.putO HAP.out hlt);have HMD:Hid (∀W,PosAt w P R G O (valI t) ls (k+1) (k+1) k W->W.cell? ⟨P,k,none⟩=some (.string (bs (ofI (valI t*valI (ls[k]'hlt) / aW ls))))∧W.cell? ⟨O,k,none⟩=some (.int .i64 0)∧W.frozen? ⟨O,k,none⟩=false):=qh (fun W h=>⟨h.made hlt,h.o.cell (mixL_at (by simpa using hlt)),h.o.frozen _⟩);have HXE:Hid (∀W,PosAt w P R G O (valI t) ls (k+1) (k+1) k W->Env W):=qh (fun W h=>HE.out.ext h.ext);have HER:Hid (Env wr):=qh (HE.out.ext HPOS.out.ext);have hpr:=HAP.out.pr;have hpg:=HAP.out.pg;have hrg:=HAP.out.rg;have hpr':=HAP.out.pr.symm;have hpg':=HAP.out.pg.symm;have hrg':=HAP.out.rg.symm;have hki:(k:Int)<(ls.length:Int):=by omega
    have hk0:(0:Int)<=(k:Int):=by omega
    clear m1 d1 s1 pl ml sl;generalize ofI (valI t*valI (ls[k]'hlt) / aW ls)=zq at *;generalize ofI (valI t*valI (ls[k]'hlt) % aW ls)=zr at *;generalize ofI (valI t*valI (ls[k]'hlt))=zm at *;generalize ls[k]'hlt=x at *;generalize ofI (aW ls)=zs at *;go_upto_region 8 with fail;go_cut [] (fun wx=>PosAt w P R G O (valI t) ls (k+1) (k+1) k wx)
    case first =>
     obtain⟨q0,q1,q2,q3,q4,_,_⟩:=HC.out _ (Ext.refl wr);have HX:Hid (Ext wr wr.drew):=qh (Ext.refl wr).drew
     go_region_held3 (fun w'=>w'.cell? ⟨G,0,none⟩=some (.slice (some ⟨R,0,none⟩) ls.length ls.length))
      (go_keep)
      (first
       |(go_at_call 264;((with_reducible refine(M1.out _ (HER.out.ext HX.out)).mono ?_);rintro e w2⟨rfl,hx⟩);(replace HX:=HX.qt hx);(obtain⟨r0,r1,r2,r3,r4,_,_⟩:=HC.out _ HX.out);clear hx M1)
       |(go_at_call 180;((with_reducible refine(D1.out _ (HER.out.ext HX.out)).mono ?_);rintro e w3⟨rfl,hx⟩);(replace HX:=HX.qt hx);(obtain⟨u0,u1,u2,u3,u4,_,_⟩:=HC.out _ HX.out);clear hx D1))
     all_goals (go_wp2_with fail;go_meet;exact HP1.out _ HX.out)
    case rest =>
     obtain⟨y0,y1,y2⟩:=HMD.out _ hcut;have HCU:=qh hcut;clear hcut;go_wp2_with fail;refine(S1.out _ (HXE.out _ HCU.out)).mono ?_;rintro e w4⟨rfl,hx⟩;obtain⟨v0,v1,v2⟩:=HMD.out _ (HCU.out.on hx);replace HCU:=qh (HP2.out _ (HCU.out.on hx));clear hx;go_wp2_with fail;go_roundw
     case rel=>exact⟨k+1,_,by omega,by go_num,rfl,valI_ofI _,HLEN.out,fun _=>rfl,HCU.out⟩
     case measure=>simp[intOf];omega
   ·have hkn:k=ls.length:=by omega
    have hp0:=HW.out.pos
    have HLL:Hid (l=ofI (((bC (valI t) (ls.map valI)).toNat:Nat):Int)):=qh (by
     have h1:=(gj (T:=valI t) (ws:=ls.map valI) HW.out.sum).1;rw[HLK.out (by omega),hkn,vD,Int.toNat_of_nonneg h1])
    have hml:(bC (valI t) (ls.map valI)).toNat<=ls.length:=by
     have h1:=(gj (T:=valI t) (ws:=ls.map valI) HW.out.sum).2;rw[List.length_map]at h1;omega
    have HPR:Hid (RowS wr P ls.length (kA (valI t) ls)):=qh (by
     have:=HPOS.out.p;rw[hkn,←iM (valI t) ls,mixL_full,iM]at this;exact this)
    have HRR:Hid (RowS wr R ls.length (jn (valI t) ls)):=qh (by
     have:=HPOS.out.r;rw[hkn,←ew (valI t) ls,mixL_full,ew]at this;exact this)
    have HOR:Hid (RowI wr O ls.length (List.range ls.length)):=qh (by
     have:=HPOS.out.o;rw[hkn]at this
     have e:=mixL_full (l:=List.range ls.length) (d:=0);rw[List.length_range]at e;rw[e]at this;exact this)
    have HBG:=qh HPOS.out.g;have HXR:=qh HPOS.out.ext;have SM:=qh (D4 (bC (valI t) (ls.map valI)).toNat (by omega));rw[←HLL.out]at SM
    have srt:=posSort (jn (valI t) ls) (by
      intro x hx;obtain⟨y,hy,rfl⟩:=List.mem_map.1 hx;have:=Ct ht HW.out.sm h0 HW.out y hy;omega) (by rw[ew];omega) (by rw[ew];omega) (some ⟨R,0,none⟩) ls.length G O ls.length wr (fun W ho=>by
      rw[ew];exact⟨HE.out.ext (ho.toExt HXR.out HAP.out.o),Blk.only' HBG.out ho HAP.out.go,(HRR.out.only ho HAP.out.ro).reads⟩) (by rw[ew];exact HOR.out)
    have ers:(jn (valI t) ls).map valI=cu (valI t) (ls.map valI):=by
     unfold jn;rw[List.map_map];conv=>rhs;rw[←List.map_id (cu (valI t) (ls.map valI))]
     apply List.map_congr_left;intro x _;exact valI_ofI x
    rw[ers,ew]at srt;have SRT:=qh srt;clear srt ers HLL HPOS HOR HRR HBG;subst hkn;have HTL:Hid ((cU (valI t) (ls.map valI))=((ordR (cu (valI t) (ls.map valI))).map (·.val)).take (bC (valI t) (ls.map valI)).toNat):=qh (by unfold cU;rw[List.map_take])
    have HTN:Hid ((cU (valI t) (ls.map valI)).length=(bC (valI t) (ls.map valI)).toNat):=qh (by
     have h1:=rI (T:=valI t) (ws:=ls.map valI) HW.out.sum;omega)
    have HOL:Hid (((ordR (cu (valI t) (ls.map valI))).map (·.val)).length=ls.length):=qh (by rw[List.length_map,ordR_len,iI,List.length_map]);generalize (bC (valI t) (ls.map valI)).toNat=m at *;generalize (ordR (cu (valI t) (ls.map valI))).map (·.val)=od at *;go_wp2_with fail;refine SRT.out.mono ?_;rintro e w5⟨rfl,ho,hrd⟩;have HPR2:=qh (HPR.out.only ho HAP.out.po);have HXR2:=qh (ho.toExt HXR.out HAP.out.o);have HRD:=qh hrd;clear ho hrd HPR HXR SRT;go_wp2_with fail;refine(SM.out _ (HE.out.ext HXR2.out)).mono ?_;rintro e w6⟨rfl,hx⟩;replace HPR2:=qh (HPR2.out.ext hx);replace HXR2:=HXR2.qt hx;replace HRD:=qh (HRD.out.ext hx);clear hx SM;have hmi1:(m:Int)<=(ls.length:Int):=by omega
    have hmi0:(0:Int)<=(m:Int):=by omega
    go_wp2_with fail;go_loopw [73,15] (fun i _ wr=>∃j:Nat,j<=m∧i = .int .i64 j∧RowS wr P ls.length ((cD (bN (valI t) (ls.map valI)) ((cU (valI t) (ls.map valI)).take j)).map ofI)∧RdI wr (some ⟨O,0,none⟩) od∧Ext w wr) (fun i _ _=>m-(intOf i).toNat)
    case atStart=>exact⟨0,by omega,rfl,HPR2.out,HRD.out,HXR2.out⟩
    case round =>
     clear HPR2 HRD HXR2;obtain⟨j,hj,rfl,hrow,hrd,hx⟩:=hrel;have HRO:=qh hrow;have HRD:=qh hrd;have HX:=qh hx;clear hrow hrd hx;by_cases hjm:j<m
     ·have hjt:j<(cU (valI t) (ls.map valI)).length:=by rw[HTN.out];exact hjm
      have hjo:j<od.length:=by rw[HOL.out];omega
      have eo:od[j]'hjo=(cU (valI t) (ls.map valI))[j]'hjt:=by
       have:(cU (valI t) (ls.map valI))[j]? = od[j]? := by rw[HTL.out,List.getElem?_take,if_pos hjm]
       rw[List.getElem?_eq_getElem hjt,List.getElem?_eq_getElem hjo]at this
       injection this with this
       exact this.symm
      have hin:(cU (valI t) (ls.map valI))[j]'hjt<ls.length:=by
       have:=uu _ (List.getElem_mem hjt);rw[List.length_map]at this;exact this
      obtain⟨b',o',he,_,c1⟩:=HRD.out.at_ hjo;injection he with he
      injection he with e1 e2 _
      subst e1 e2;rw[Nat.zero_add,eo]at c1;have HNX:Hid (cD (bN (valI t) (ls.map valI)) ((cU (valI t) (ls.map valI)).take (j+1))=_):=qh (rX (bN (valI t) (ls.map valI)) (cU (valI t) (ls.map valI)) hjt);have hbl:(cD (bN (valI t) (ls.map valI)) ((cU (valI t) (ls.map valI)).take j)).length=ls.length:=by rw[ky,jP,List.length_map]
      have HBLN:=qh (nN ht HW.out.sm h0 HW.out j);generalize (cU (valI t) (ls.map valI))[j]'hjt=i at *;generalize hB1:cD (bN (valI t) (ls.map valI)) ((cU (valI t) (ls.map valI)).take (j+1))=B1 at *;have HB1:=qh hB1;clear hB1;generalize cD (bN (valI t) (ls.map valI)) ((cU (valI t) (ls.map valI)).take j)=B0 at *;obtain⟨v,hv⟩:∃v,B0[i]? = some v:=⟨_,List.getElem?_eq_getElem (by omega)⟩;have hvl:=HBLN.out i v hv;have hmod:=vF B0 i v hv;rw[←HNX.out]at hmod;have HMOD:=qh hmod;have pc:=HRO.out.cell (k:=i) (x:=ofI v) (by rw[List.getElem?_map,hv];rfl)
      have a1:cw 19 #[.string (bs (ofI v)),.string ⟨#[49]⟩] (.string (bs (ofI (v+1)))):=by
       have:=ii (ofI v) [49] (by omega) (by decide);rw[valI_ofI,show valI [49]=1 by decide]at this
       exact this
      have A1:=qh a1;have HCC:Hid (∀W,Ext wr W->W.cell? ⟨P,i,none⟩=some (.string (bs (ofI v)))∧W.frozen? ⟨P,i,none⟩=false):=qh (fun W hx=>⟨(HRO.out.ext hx).cell (by rw[List.getElem?_map,hv];rfl),(HRO.out.ext hx).frozen _⟩);have hii:(i:Int)<(ls.length:Int):=by omega
      have hi0:(0:Int)<=(i:Int):=by omega
      have hjj:(j:Int)<(m:Int):=by omega
      have hj0:(0:Int)<=(j:Int):=by omega
      clear a1 hmod hv hvl HBLN HNX eo hbl hjt hjo;generalize ofI v=z0 at *;generalize ofI (v+1)=z1 at *;go_wp2_with fail;refine(A1.out _ (HE.out.ext HX.out)).mono ?_;rintro e w7⟨rfl,hx⟩;obtain⟨d0,d1⟩:=HCC.out _ hx;have HR2:=qh ((HRO.out.ext hx).set_ i z1);rw[HMOD.out]at HR2;have HRD2:=qh (RdI.far (g:=P) (i:=i) (HRD.out.ext hx) (.string (bs z1)) (fun _ b o he=>by injection he with he;injection he with e1 _ _;rw[←e1];exact HAP.out.po.symm));have HX2:=qh ((HX.out.trans hx).setCell (p:=⟨P,i,none⟩) HAP.out.p (.string (bs z1)));clear hx;go_wp2_with fail;go_roundw
      case rel=>exact⟨j+1,by omega,by go_num,by rw[HB1.out];exact HR2.out,HRD2.out,HX2.out⟩
      case measure=>simp[intOf];omega
     ·have HFIN:Hid (cD (bN (valI t) (ls.map valI)) ((cU (valI t) (ls.map valI)).take j)=be (valI t) (ls.map valI)):=qh (by
       rw[List.take_of_length_le (by rw[HTN.out];omega)];rfl)
      rw[HFIN.out]at HRO;go_wp2_with fail;go_ret;exact⟨P,rfl,HAP.out.p,HRO.out,HX.out⟩
def kB(sp:List Int)(k:Nat):List Bs:=((sp.take k).map (-·)++sp.drop k).map ofI
theorem wO(sp:List Int):kB sp 0=sp.map ofI:=by simp[kB]
theorem wP(sp:List Int){k:Nat}(h:sp.length<=k):kB sp k=(sp.map (-·)).map ofI:=by simp[kB,List.take_of_length_le h,List.drop_of_length_le h]
theorem uC(sp:List Int){k:Nat}(hk:k<sp.length):(kB sp k)[k]? = some (ofI (sp[k]'hk)):=by
 unfold kB;rw[List.getElem?_map,List.getElem?_append_right (by simp;omega)];simp[Nat.min_eq_left (Nat.le_of_lt hk),hk]
theorem zf(sp:List Int){k:Nat}(hk:k<sp.length):(kB sp k).set k (ofI (-(sp[k]'hk)))=kB sp (k+1):=by
 unfold kB;rw[←List.map_set];congr 1
 have e:((sp.take k).map (-·)).length=k:=by simp;omega
 rw[List.set_append_right _ _ (by omega),e,Nat.sub_self,List.take_succ_eq_append_getElem hk,List.map_append,List.append_assoc];congr 1
 rw[List.drop_eq_getElem_cons hk];rfl
theorem wQ{L:Nat}{t:Bs}{ls:List Bs}(ht:t.length<=L)(hs:∀x ∈ ls,x.length<=L)(h0:0<=valI t)(hW:WtOK ls):∀v ∈ be (valI t) (ls.map valI),(ofI v).length<=L+L+2:=by
 intro v hv;obtain⟨i,hi,rfl⟩:=List.getElem_of_mem hv;refine nN ht hs h0 hW (cU (valI t) (ls.map valI)).length i _ ?_;rw[List.take_length];exact List.getElem?_eq_getElem hi
theorem wR(t:Bs)(ls:List Bs)(A:Option Addr)(c:Nat)(w:World)(hE:Env w)(hA:RdS w A ls)(ht:t.length<=3000)(hW:WtOK ls) :
  Calls Tryz.prog 149 #[.string (bs t),.slice A ls.length c] w fun e w'=>∃P,e = .returned (.slice (some ⟨P,0,none⟩) ls.length ls.length)∧w.heap.size<=P∧RowS w' P ls.length ((bU (valI t) (ls.map valI)).map ofI)∧Ext w w':=by
 have HE:=qh hE;have HA:=qh hA;have HX:Hid (Ext w w):=qh (Ext.refl w);have N1:=qh (oH t (by omega));by_cases hneg:valI t<0
 ·rw[show decide (valI t<0)=true by simp[hneg]]at N1;have HSV:Hid (bU (valI t) (ls.map valI)=(be (-valI t) (ls.map valI)).map (-·)):=qh (by unfold bU;rw[if_pos hneg]);rw[HSV.out];have n2:=vo t (by omega);have hl:(ofI (-valI t)).length<=3000+1:=bz (L:=3000) (by have:=aH ht;omega);have h0:0<=valI (ofI (-valI t)):=by rw[valI_ofI];omega
  have HPO:=qh (fun W hx=>ny (ofI (-valI t)) ls A c W (hE.ext hx) (hA.ext hx) (by omega) h0 hW);have HLS:=qh (wQ (L:=4000) (t:=ofI (-valI t)) (by omega) hW.sm h0 hW);rw[valI_ofI]at HPO HLS;have N2:=qh n2;have hspl:(be (-valI t) (ls.map valI)).length=ls.length:=by rw[ie,List.length_map]
  have hnn:=hW.le;clear hE hA hW ht hneg n2 h0 hl HSV;generalize ofI (-valI t)=t' at *;generalize be (-valI t) (ls.map valI)=sp at *;go_enter Tryz.func149,Tryz.ntmps149;go_wp2_with fail;refine(N1.out _ HE.out).mono ?_;rintro e w1⟨rfl,hx1⟩;replace HX:=HX.qt hx1;clear hx1;go_wp2_with fail;refine(N2.out _ (HE.out.ext HX.out)).mono ?_;rintro e w2⟨rfl,hx1⟩;replace HX:=HX.qt hx1;clear hx1;go_wp2_with fail;refine(HPO.out _ HX.out).mono ?_;rintro e w3⟨P,rfl,hP,hrow,hx1⟩;have hPw:w.heap.size<=P:=Nat.le_trans HX.out.size hP;replace HX:=HX.qt hx1;rw[←wO]at hrow;have HR:=qh hrow;clear hx1 hP hrow HPO N1 N2;go_wp2_with fail;go_loopw [19,6] (fun i _ wr=>∃k:Nat,k<=ls.length∧i = .int .i64 k∧RowS wr P ls.length (kB sp k)∧Ext w wr) (fun i _ _=>ls.length-(intOf i).toNat)
  case atStart=>exact⟨0,by omega,rfl,HR.out,HX.out⟩
  case round =>
   clear HR HX;obtain⟨k,hk,rfl,hr,hx⟩:=hrel;have HR:=qh hr;have HX:=qh hx;clear hr hx;by_cases hlt:k<ls.length
   ·have hks:k<sp.length:=by omega
    have n3:=vo (ofI (sp[k]'hks)) (by have:=HLS.out _ (List.getElem_mem hks);omega);rw[valI_ofI]at n3;have N3:=qh n3;have c0:=HR.out.cell (uC sp hks);have HCC:=qh (fun W hx=>(HR.out.ext (w':=W) hx).cell (uC sp hks));have HSET:=qh (zf sp hks);have hki:(k:Int)<(ls.length:Int):=by omega
    have hk0:(0:Int)<=(k:Int):=by omega
    clear n3;generalize ofI (-(sp[k]'hks))=z1 at *;generalize ofI (sp[k]'hks)=z0 at *;go_wp2_with fail;refine(N3.out _ (HE.out.ext HX.out)).mono ?_;rintro e w4⟨rfl,hx⟩;have d0:=HCC.out _ hx;have d1:=(HR.out.ext hx).frozen k;have HR2:=qh ((HR.out.ext hx).set_ k z1);rw[HSET.out]at HR2;have HX2:=qh ((HX.out.trans hx).setCell (p:=⟨P,k,none⟩) hPw (.string (bs z1)));clear hx;go_wp2_with fail;go_roundw
    case rel=>exact⟨k+1,by omega,by go_num,HR2.out,HX2.out⟩
    case measure=>simp[intOf];omega
   ·have HF:=qh (wP sp (k:=k) (by omega));rw[HF.out]at HR;go_wp2_with fail;go_ret;exact⟨P,rfl,hPw,HR.out,HX.out⟩
 ·rw[show decide (valI t<0)=false by simp;omega]at N1;have HSV:Hid (bU (valI t) (ls.map valI)=be (valI t) (ls.map valI)):=qh (by unfold bU;rw[if_neg hneg]);rw[HSV.out];have HPO:=qh (fun W hx=>ny t ls A c W (hE.ext hx) (hA.ext hx) (by omega) (by omega) hW);clear hE hA hW ht hneg HSV;generalize be (valI t) (ls.map valI)=sp at *;go_enter Tryz.func149,Tryz.ntmps149;go_wp2_with fail;refine(N1.out _ HE.out).mono ?_;rintro e w1⟨rfl,hx1⟩;replace HX:=HX.qt hx1;clear hx1;go_wp2_with fail;refine(HPO.out _ HX.out).mono ?_;rintro e w3⟨P,rfl,hP,hrow,hx1⟩;have hPw:w.heap.size<=P:=Nat.le_trans HX.out.size hP;replace HX:=HX.qt hx1;have HR:=qh hrow;clear hx1 hP hrow HPO N1;go_wp2_with fail;go_ret;exact⟨P,rfl,hPw,HR.out,HX.out⟩
theorem nO(t:Bs)(ls:List Bs)(A:Option Addr)(c:Nat)(w:World)(hE:Env w)(hA:RdS w A ls)(ht:t.length<=3000)(htc:checkI t=0)(hW:WtOK ls) :
  Calls Tryz.prog 70 #[.string (bs t),.slice A ls.length c] w fun e w'=>∃P,e = .returned (.tuple #[.slice (some ⟨P,0,none⟩) ls.length ls.length,.int .i64 0])∧w.heap.size<=P∧RowS w' P ls.length ((bU (valI t) (ls.map valI)).map ofI)∧Ext w w':=by
 have HX:Hid (Ext w w):=qh (Ext.refl w);have HC:=qh (ze t ls A c w hE hA (by omega) htc hW);have HD:=qh (fun W hx=>wR t ls A c W (hE.ext hx) (hA.ext hx) ht hW);clear hE hA ht htc hW;generalize bU (valI t) (ls.map valI)=sp at *;go_enter Tryz.func70,Tryz.ntmps70;go_wp2_with fail;refine HC.out.mono ?_;rintro e w1⟨rfl,hx1⟩;replace HX:=HX.qt hx1;clear hx1;go_wp2_with fail;refine(HD.out _ HX.out).mono ?_;rintro e w3⟨P,rfl,hP,hrow,hx1⟩;have hPw:w.heap.size<=P:=Nat.le_trans HX.out.size hP;replace HX:=HX.qt hx1;have HR:=qh hrow;clear hx1 hP hrow HD HC;go_wp2_with fail;go_ret2;exact⟨P,rfl,hPw,HR.out,HX.out⟩
end
section
open Go.RowKit
attribute [local go_sem] size_bs toList_bs
theorem kL:(Tryz.prog.info? 62).map (fun i=>(i.zero,i.size,i.bytes))=some (some (.agg #[.string ⟨#[]⟩,.string ⟨#[]⟩,.int .i64 0,.int .i64 0,.string ⟨#[]⟩,.string ⟨#[]⟩,.string ⟨#[]⟩]),7,96):=by kernel_rfl
abbrev bA(ls:List LotV):List Value:=ls.flatMap lotCells
theorem nP(ls:List LotV):(bA ls).length=ls.length*7:=by
 induction ls with
 |nil=>rfl
 |cons x r ih=>simp only[bA,List.flatMap_cons,List.length_append,List.length_cons]at *;rw[ih,aN];omega
theorem D6(ls:List LotV):∀u ∈ bA ls,u.oneCell'=true:=by
 intro u hu;obtain⟨h,_,hh⟩:=List.mem_flatMap.1 hu;unfold lotCells at hh;simp only[List.mem_cons,List.not_mem_nil,or_false]at hh;rcases hh with rfl|rfl|rfl|rfl|rfl|rfl|rfl <;> rfl
def aD(w:World)(g cap:Nat)(ls:List LotV):Prop:=∃cur,Row w g 62 7 ls.length cap (bA ls) cur
section
variable {w w':World} {g cap:Nat} {ls:List LotV}
theorem aD.lt(h:aD w g cap ls):g<w.heap.size:=by obtain⟨cur,h⟩:=h;exact h.blk.lt
theorem aD.reads(h:aD w g cap ls):aG w (some ⟨g,0,none⟩) ls:=by obtain⟨cur,h⟩:=h;exact h.reads
theorem aD.frozen(h:aD w g cap ls)(k:Nat):w.frozen? ⟨g,k,none⟩=false:=by obtain⟨cur,h⟩:=h;exact h.frozen k
theorem aD.ext(h:aD w g cap ls)(hx:Ext w w'):aD w' g cap ls:=by obtain⟨cur,h⟩:=h;exact⟨cur,h.ext hx⟩
end
def D7(ls:List LotV)(w:World)(e:Ending)(w':World):Prop :=
 ∃A c,e = .returned (.slice A ls.length c)∧Ext w w'∧(0<ls.length->∃g,A=some ⟨g,0,none⟩∧w.heap.size<=g∧aD w' g c ls)
theorem kM(ls:List LotV)(A:Option Addr)(c:Nat)(w:World)(hA:aG w A ls)(hn:ls.length<=1000000) :
  Calls Tryz.prog 71 #[.slice A ls.length c] w (D7 ls w):=by
 obtain⟨i0,hI,hz0,hz1,hz2⟩:=info_parts kL;have HI:=qh hI;clear hI
 cases A with
 |none =>
  have h0:ls=[]:=by
   rcases Nat.eq_zero_or_pos ls.length with h|h
   ·exact List.length_eq_zero_iff.1 h
   ·obtain⟨b,o,e,_⟩:=hA.2 h;cases e
  subst h0;clear hA;have hnil:∀W:World,(binOp .eql 22 (.slice none 0 c) (.slice none 0 0)).run Tryz.prog W = .ok (.bool true) W:=fun W=>Lib.run_eql_slice_nil W _ _ _ _ _ _ _ Tryz.underlying22
  go_enter Tryz.func71,Tryz.ntmps71;go_wp2_with fail;go_ret;exact⟨none,0,rfl,Ext.refl _,fun h=>absurd h (by simp)⟩
 |some a =>
  have hnil:∀W:World,(binOp .eql 22 (.slice (some a) ls.length c) (.slice none 0 0)).run Tryz.prog W = .ok (.bool false) W:=fun W=>Lib.run_eql_slice_nil W _ _ _ _ _ _ _ Tryz.underlying22
  rcases Nat.eq_zero_or_pos ls.length with h0|h0
  ·have h1:ls=[]:=List.length_eq_zero_iff.1 h0;subst h1;simp only[List.length_nil]at hnil;clear hA h0;go_enter Tryz.func71,Tryz.ntmps71
   have hr:∀ty,(Builtin.append_ #[22,22] ty #[.slice (some ⟨w.heap.size,0,none⟩) 0 0,.slice (some a) 0 c]).run Tryz.prog (w.alloc (.cells #[] 62)) = .ok (.slice (some ⟨w.heap.size,0,none⟩) 0 0) (w.alloc (.cells #[] 62)):=fun ty =>
    run_append_room_cells _ _ ty 62 i0 Tryz.underlying22 HI.out w.heap.size 0 0 0 a 0 c [] (by simp) (by simp) (by simp) (Nat.le_refl _) (by simp) (by simp)
   go_wp2_with (at_builtin;refine Lib.wpList_append_run _ rfl (.tmp 5) (.tmp 6) _ _ rfl _ _ rfl rfl _ _ (hr _) ?_);go_ret;exact⟨some ⟨w.heap.size,0,none⟩,0,rfl,Ext.new _ _,fun h=>absurd h (by simp)⟩
  ·obtain⟨b,o,e,hb,hc⟩:=hA.2 h0;injection e with e
   subst e
   have HC:Hid (∀j u,(bA ls)[j]? = some u->(w.alloc (.cells #[] 62)).cell? ((⟨b,o,none⟩:Addr).add j)=some u):=qh (fun j u hu=>by
    rw[Addr.add_lit];exact((Ext.new w _).cell (p:=⟨b,o+j,none⟩) hb).trans (hc j u hu))
   have HL:Hid ((bA ls).length=ls.length*7):=qh (nP ls);clear hc hA;go_enter Tryz.func71,Tryz.ntmps71;go_wp2_with (at_builtin;refine wpList_append_lies _ rfl (.tmp 5) (.tmp 6) 22 rfl w.heap.size 62 i0 _ 7 96 Tryz.underlying22 HI.out hz0 hz1 hz2 rfl (by decide) _ 0 [] rfl ⟨rfl,.inr ⟨w.heap.size,0,#[],rfl,Nat.le_refl _,heap_alloc_new w _,Nat.le_refl _,by decide,rfl,rfl⟩⟩ ⟨b,o,none⟩ ls.length c (bA ls) rfl HL.out HC.out (D6 ls) h0 (by simp only[maxLen];omega) (by omega) (by simp) _ rfl ?_;intro g cap w' hown hgrow hat hlt);go_ret;simp only[Nat.zero_add,List.nil_append]at hown;obtain⟨hg,cur,hrow⟩:=Row.of_own hown;exact⟨some ⟨g,0,none⟩,cap,rfl,Ext.only (Ext.new w (.cells #[] 62)) hgrow (Nat.le_refl _),fun _=>⟨g,rfl,hg,cur,hrow⟩⟩
end
section
open Go.RowKit Go.Lib
attribute [local go_sem] size_bs toList_bs
theorem rY(a b:List LotV):bA (a++b)=bA a++bA b:=by simp[bA]
theorem mJ(x:LotV):∀u ∈ lotCells x,u.oneCell'=true:=by
 intro u hu;unfold lotCells at hu;simp only[List.mem_cons,List.not_mem_nil,or_false]at hu;rcases hu with rfl|rfl|rfl|rfl|rfl|rfl|rfl <;> rfl
def lG(w:World)(base:Nat)(v:Value)(ls:List LotV):Prop:=w.ownsRow base 62 7 v ls.length (bA ls)
end
section
open Go.RowKit
attribute [local go_sem] size_bs toList_bs
def eZ(ch:Nat->LotV->LotV)(ins:Bs):Nat->List LotV->List LotV
 |_,[]=>[]
 |n,x :: r=>if x.ins=ins then ch n x :: eZ ch ins (n+1) r else x :: eZ ch ins n r
section
variable {ch:Nat->LotV->LotV} {ins:Bs}
theorem da(x:LotV)(r:List LotV):ofL (x :: r) ins=if x.ins=ins then x :: ofL r ins else ofL r ins:=by
 unfold ofL;rw[List.filter_cons];simp
theorem lH(l r:List LotV):ofL (l++r) ins=ofL l ins++ofL r ins:=by unfold ofL;rw[List.filter_append]
theorem mK(n:Nat)(l:List LotV):(eZ ch ins n l).length=l.length:=by
 induction l generalizing n with
 |nil=>rfl
 |cons x r ih=>unfold eZ;split <;> simp[ih]
theorem rZ(n:Nat)(l:List LotV)(x:LotV):eZ ch ins n (l++[x])=eZ ch ins n l++[if x.ins=ins then ch (n+(ofL l ins).length) x else x]:=by
 induction l generalizing n with
 |nil=>simp[eZ,ofL];split <;> rfl
 |cons y r ih =>
  rw[List.cons_append];unfold eZ;rw[da];by_cases h:y.ins=ins
  ·simp only[h,if_true,List.cons_append,ih,List.length_cons];rw[show n+1+(ofL r ins).length=n+((ofL r ins).length+1) by omega]
  ·simp only[h,if_false,List.cons_append,ih]
def eI(ch:Nat->LotV->LotV)(ins:Bs)(ls:List LotV)(k:Nat):List LotV:=eZ ch ins 0 (ls.take k)++ls.drop k
variable {ls:List LotV} {k:Nat}
theorem qD:eI ch ins ls 0=ls:=by simp[eI,eZ]
theorem qE(h:ls.length<=k):eI ch ins ls k=eZ ch ins 0 ls:=by simp[eI,List.take_of_length_le h,List.drop_of_length_le h]
theorem r7:(eI ch ins ls k).length=ls.length:=by simp[eI,mK];omega
theorem mL(h:k<ls.length)(h':k<(eI ch ins ls k).length):(eI ch ins ls k)[k]'h'=ls[k]'h:=by
 have e:(eZ ch ins 0 (ls.take k)).length=k:=by rw[mK,List.length_take];omega
 have h1:(eI ch ins ls k)[k]? = some (ls[k]'h):=by
  unfold eI;rw[List.getElem?_append_right (by omega),e,Nat.sub_self,List.drop_eq_getElem_cons h];rfl
 rw[List.getElem?_eq_getElem h']at h1;injection h1
theorem r8(h:k<ls.length)(hi:(ls[k]'h).ins=ins):(eI ch ins ls k).set k (ch (ofL (ls.take k) ins).length (ls[k]'h))=eI ch ins ls (k+1):=by
 have e:(eZ ch ins 0 (ls.take k)).length=k:=by rw[mK,List.length_take];omega
 unfold eI;rw[List.set_append_right _ _ (by omega),e,Nat.sub_self,List.take_succ_eq_append_getElem h,rZ,if_pos hi,List.append_assoc,Nat.zero_add];congr 1
 rw[List.drop_eq_getElem_cons h];rfl
theorem qF(h:k<ls.length)(hi:¬ (ls[k]'h).ins=ins):eI ch ins ls k=eI ch ins ls (k+1):=by
 unfold eI;rw[List.take_succ_eq_append_getElem h,rZ,if_neg hi,List.append_assoc];congr 1
 rw[List.drop_eq_getElem_cons h];rfl
theorem wS(h:k<ls.length)(hi:(ls[k]'h).ins=ins):(ofL ls ins)[(ofL (ls.take k) ins).length]? = some (ls[k]'h):=by
 have e:ofL ls ins=ofL (ls.take k) ins++ofL (ls.drop k) ins:=by rw[←lH,List.take_append_drop]
 rw[e,List.getElem?_append_right (Nat.le_refl _),Nat.sub_self,List.drop_eq_getElem_cons h,da,if_pos hi];rfl
theorem nz(h:k<ls.length)(hi:(ls[k]'h).ins=ins):(ofL (ls.take (k+1)) ins).length=(ofL (ls.take k) ins).length+1:=by
 rw[List.take_succ_eq_append_getElem h,lH,da,if_pos hi];simp[ofL]
theorem mh(h:k<ls.length)(hi:¬ (ls[k]'h).ins=ins):(ofL (ls.take (k+1)) ins).length=(ofL (ls.take k) ins).length:=by
 rw[List.take_succ_eq_append_getElem h,lH,da,if_neg hi];simp[ofL]
end
theorem dZ{w:World}{g:Nat}{t:TypeId}{cs cs':Array Value}(h:Blk w g t cs)(h':Blk w g' t' cs')(hne:t≠t'):g≠g':=by
 rintro rfl;unfold Blk at h h';rw[h]at h';injection h' with h'
 injection h' with _ h2 _
 exact hne h2
theorem kC(qs:List Bs){x:Bs}(h:qs[n]? = some x):scells (qs.take n)++[.string (bs x)]=scells (qs.take (n+1)):=by
 obtain⟨hn,hx⟩:=List.getElem?_eq_some_iff.1 h;rw[List.take_succ_eq_append_getElem hn,hx];simp[scells]
end
section
open Go.RowKit Go.Shelf
attribute [local go_sem] size_bs toList_bs Oper.semAt_some
def oK(ls:List LotV)(ins:Bs)(w:World)(e:Ending)(w':World):Prop:=∃A c,e = .returned (.slice A (ofL ls ins).length c)∧lG w' w.heap.size (.slice A (ofL ls ins).length c) (ofL ls ins)∧(ofL ls ins).length<=c∧Ext w w'
structure CoAt (w:World) (B:Nat) (lp:Loop) (ls:List LotV) (A:Option Addr) (c:Nat) (ins:Bs) (k:Nat) (W:World):Prop where
 ext:Ext w W
 o:∃v,Blk W w.heap.size 22 #[v]∧lG W w.heap.size v (ofL (ls.take k) ins)
 l:Blk W B 22 #[.slice A ls.length c]
 i:Blk W (B+1) 9 #[.string (bs ins)]
 D:W.heap[w.heap.size+1]? = some (.deferred (some []))
 L:W.heap[w.heap.size+1+1]? = some (.loop lp)
theorem pD{w:World}{lp lp':Loop}(h:w.ownsRow base e size v n xs)(hl:w.heap[l]? = some (.loop lp)):(w.putObj l (.loop lp')).ownsRow base e size v n xs:=by
 refine⟨h.1,?_⟩;rcases h.2 with h2 | ⟨g,cap,cur,h1,h2,h3,h4,h5⟩
 ·exact .inl h2
 ·refine .inr ⟨g,cap,cur,h1,h2,?_,h4,h5⟩;have hne:g≠l:=by rintro rfl;rw[hl]at h3;cases h3
  rw[World.putObj_heap_other hne];exact h3
theorem qG{w:World}(h:w.ownsRow base e size v n xs)(hb:b<=base):w.ownsRow b e size v n xs:=by
 refine⟨h.1,?_⟩;rcases h.2 with h2 | ⟨g,cap,cur,h1,h2,h3⟩
 ·exact .inl h2
 ·exact .inr ⟨g,cap,cur,h1,Nat.le_trans hb h2,h3⟩
theorem jS{w:World}{o:Obj}(h:w.ownsRow base e size v n xs)(hl:w.heap[l]? = some (.deferred (some []))):(w.putObj l o).ownsRow base e size v n xs:=by
 refine⟨h.1,?_⟩;rcases h.2 with h2 | ⟨g,cap,cur,h1,h2,h3,h4,h5⟩
 ·exact .inl h2
 ·refine .inr ⟨g,cap,cur,h1,h2,?_,h4,h5⟩;have hne:g≠l:=by rintro rfl;rw[hl]at h3;cases h3
  rw[World.putObj_heap_other hne];exact h3
theorem pE{w:World}{lp:Loop}(h:w.ownsRow base e size v n xs)(hl:w.heap[l]? = some (.loop lp)):v.ownBlock≠some l:=by
 rcases h.2 with ⟨rfl,_⟩ | ⟨g,cap,cur,rfl,_,h3,_⟩
 ·simp[Value.ownBlock]
 ·intro he;have:g=l:=by simpa[Value.ownBlock] using he
  subst this
  rw[hl]at h3;cases h3
theorem pF{w:World}(h:w.ownsRow base e size v n xs)(hl:w.heap[l]? = some (.deferred (some []))):v.ownBlock≠some l:=by
 rcases h.2 with ⟨rfl,_⟩ | ⟨g,cap,cur,rfl,_,h3,_⟩
 ·simp[Value.ownBlock]
 ·intro he;have:g=l:=by simpa[Value.ownBlock] using he
  subst this
  rw[hl]at h3;cases h3
section
variable {w:World} {B:Nat} {lp lp':Loop} {ls:List LotV} {A:Option Addr} {c:Nat} {ins:Bs} {k:Nat} {W W':World}
theorem CoAt.on(h:CoAt w B lp ls A c ins k W)(hx:Ext W W'):CoAt w B lp ls A c ins k W':=by
 obtain⟨v,h1,h2⟩:=h.o;exact⟨h.ext.trans hx,⟨v,h1.ext hx,own_ext2 h2 hx⟩,h.l.ext hx,h.i.ext hx,en h.D hx,en h.L hx⟩
theorem CoAt.put(h:CoAt w B lp ls A c ins k W)(hB:B+1<w.heap.size):CoAt w B lp' ls A c ins k (W.putObj (w.heap.size+1+1) (.loop lp')):=by
 obtain⟨v,h1,h2⟩:=h.o;exact⟨h.ext.putObj (by omega) _,⟨v,h1.put _ (by omega),pD h2 h.L⟩,h.l.put _ (by omega),h.i.put _ (by omega),lz h.D (by omega),World.putObj_heap_same (Array.getElem?_eq_some_iff.1 h.L).1⟩
theorem CoAt.skip(h:CoAt w B lp ls A c ins k W)(hk:k<ls.length)(hne:(ls[k]'hk).ins≠ins):CoAt w B lp ls A c ins (k+1) W :=
 ⟨h.ext,by rw[jm hk hne];exact h.o,h.l,h.i,h.D,h.L⟩
theorem CoAt.hit{x:LotV}{w':World}(h:CoAt w B lp ls A c ins k W)(hB:B+1<w.heap.size)(hb:Blk W w.heap.size 22 #[v])(ho:lG W w.heap.size v (ofL (ls.take k) ins))(hgrow:W.grownBy w' v.ownBlock)
  (hown':w'.ownsRow w.heap.size 62 7 v' ((ofL (ls.take k) ins).length+1) (bA (ofL (ls.take k) ins)++lotCells x)) (hq:ofL (ls.take (k+1)) ins=ofL (ls.take k) ins++[x]) :
  CoAt w B lp ls A c ins (k+1) (w'.setCell ⟨w.heap.size,0,none⟩ v'):=by
 have keep:∀ {g:Nat} {t:TypeId} {cs:Array Value},Blk W g t cs->t≠62->Blk w' g t cs:=fun {g t cs} hb hne =>
  (hgrow.block g hb.lt (fun e=>gh ho hb hne.symm e.symm)).trans hb
 have hb':=keep hb (by decide);have hDl:=(Array.getElem?_eq_some_iff.1 h.D).1;have hLl:=(Array.getElem?_eq_some_iff.1 h.L).1;refine⟨(Ext.grown h.ext hgrow (own_base ho)).setCell (p:=⟨w.heap.size,0,none⟩) (Nat.le_refl _) _,⟨v',hb'.set_ 0 _,?_⟩,(keep h.l (by decide)).far (p:=⟨w.heap.size,0,none⟩) (by dsimp only;omega) _,(keep h.i (by decide)).far (p:=⟨w.heap.size,0,none⟩) (by dsimp only;omega) _,eG ?_ (by omega),eG ?_ (by omega)⟩
 ·unfold lG;rw[hq,List.length_append,rY];have e1:bA [x]=lotCells x:=by simp[bA]
  rw[e1];exact jF hown' (gh hown' hb' (by decide)) _
 ·exact(hgrow.block _ hDl (fun e=>pF ho h.D e.symm)).trans h.D
 ·exact(hgrow.block _ hLl (fun e=>pE ho h.L e.symm)).trans h.L
end
theorem D8(ls:List LotV)(A:Option Addr)(c:Nat)(ins:Bs)(w:World)(B:Nat)(hA:aG w A ls)(hn:ls.length<=100000)(bl:Blk w B 22 #[.slice A ls.length c])(bi:Blk w (B+1) 9 #[.string (bs ins)]) :
  Calls Tryz.prog 178 #[.slice none 0 0,.func (.func 126) #[] #[.pointer (some ⟨B,0,none⟩),.pointer (some ⟨B+1,0,none⟩)]] w (oK ls ins w):=by
 have hfn:∀k,Fence.wide.fn k:=fun _=>trivial
 have hdp:Fence.wide.depth.isSome=false:=rfl;have HA:=qh hA;have BL:=qh bl;have BI:=qh bi;have hlt:=bi.lt;obtain⟨i0,hI,hz0,hz1,hz2⟩:=info_parts kL;have HI:=qh hI;clear hA bl bi hI;refine(callsIn_wide (n:=5)).1 ?_;refine callsIn_of_wp_marks Tryz.func178 rfl trivial ?_ rfl;simp only[Tryz.ntmps178,List.size_toArray,List.length_cons,List.length_nil,Nat.reduceAdd,Nat.reduceSub,Array.replicate_succ,Array.replicate_zero,List.push_toArray,List.append_toArray,List.nil_append,List.cons_append];gi_wp2_with fail;refine fB rfl (by omega) (w.heap.size+1) (by simp) rfl trivial (fun _ _=>by rfl) ?_;intro fn lp W1 hlp hW1 _
 have h0:CoAt w B lp ls A c ins 0 W1:=by
  subst hW1;refine⟨((Ext.new w _).alloc _).alloc _,⟨.slice none 0 0,((Blk.newAt _ _ _ _ rfl).alloc _).alloc _,World.ownsRow_nil _ _ _ _⟩,((BL.out.alloc _).alloc _).alloc _,((BI.out.alloc _).alloc _).alloc _,?_,?_⟩
  ·exact oG (newAt _ _ _ (by simp))
  ·exact newAt _ _ _ (by simp)
 refine(wD 4 (w.heap.size+1+1) B w ls A c ins HA.out (by omega) (CoAt w B lp ls A c ins) (fun k W h=>⟨h.ext,h.l,h.i⟩) (fun k W W' h hx=>h.on hx) ?hY (fun k hk W hne h=>h.skip hk hne) W1 h0).mono ?_
 case hY =>
  intro k hk W he h;have e1:=congrArg Loop.assign hlp;have e2:=congrArg Loop.body hlp;have e3:=congrArg Loop.tmps hlp;have e4:=congrArg Loop.params hlp;have e5:{ lp with state := .ready,pending:=none }=lp:=by rw[hlp];rfl
  obtain⟨lb,hlb⟩:∃lb,{ lp with state := .busy }=lb:=⟨_,rfl⟩;simp only[gw]at e1 e2 e3 e4;refine ik (rec:=lp) h.L (by rw[hlp];rfl) (by rw[hlp];rfl) trivial e1 e2 e4 e3 (DR _ _ _) hlb ?_;clear e1 e2 e3 e4 hlp hW1 h0;have HXN:Hid (Ext W (W.alloc (.cells (lc (ls[k]'hk)) 62))):=qh (Ext.new _ _);have HL0:=qh (h.on HXN.out).L;have HP:=qh ((h.on HXN.out).put (lp':=lb) hlt);have HBX:=qh ((Blk.new W 62 (lc (ls[k]'hk))).put (.loop lb) (l:=w.heap.size+1+1) (by have:=(Array.getElem?_eq_some_iff.1 h.L).1;omega));have HLB:=qh hlb;have HE5:=qh e5;have HQ:=qh (jR hk he);clear h hlb e5 he;generalize ls[k]'hk=x at *;gi_wp2
  refine⟨HL0.out,?_⟩;generalize hXX:W.heap.size=X at *;have hXw:w.heap.size+1<X:=by have:=(Array.getElem?_eq_some_iff.1 HL0.out).1;simp only[World.size_alloc]at this;omega
  clear hXX;generalize (W.alloc (.cells (lc x) 62)).putObj (w.heap.size+1+1) (.loop lb)=Wb at *;have HPB:=qh (HP.out.on (Ext.new Wb (.cells (lc x) 62)));obtain⟨v,ob,ow⟩:=HP.out.o;have q0:=ob.cell 0;simp only[List.getElem?_toArray,List.getElem?_cons_zero]at q0;have OB:=qh (ob.alloc (.cells (lc x) 62));have OW:=qh (own_ext2 ow (Ext.new Wb (.cells (lc x) 62)));have hsz:=HPB.out.ext.size;have hln:(ofL (ls.take k) ins).length<=100000:=Nat.le_trans pz hn;clear ob ow;obtain⟨x0,x1,x2,x3,x4,x5,x6⟩:=aj HBX.out (Ext.refl Wb);gi_wp2_with (gi_at_builtin;refine wpListIn_append_own _ rfl (.tmp 8) (.tmp 10) 22 rfl w.heap.size 62 i0 _ 7 96 Tryz.underlying22 HI.out hz0 hz1 hz2 rfl (by decide) v _ _ rfl OW.out ⟨Wb.heap.size,0,none⟩ 1 1 (lotCells x) rfl rfl (World.news_of_block (heap_alloc_new Wb _)) (mJ x) (by simp only[maxLen];omega) (by omega) hsz ?_;intro v2 w' hown' hgrow hnil;(obtain⟨A2,c2,rfl⟩:=aM hown');clear hnil;(have HT:=qh (HPB.out.hit hlt OB.out OW.out hgrow hown' HQ.out));(have hbG:Blk w' w.heap.size 22 #[v]:=(hgrow.block w.heap.size OB.out.lt (fun e=>gh OW.out OB.out (by decide) e.symm)).trans OB.out);(have d0:=boxCell hbG);(have d1:=hbG.frozen 0));refine⟨by rw[HLB.out];exact HT.out.L,rfl,?_⟩;rw[HE5.out];exact HT.out.put hlt
 rintro e W⟨hv,h⟩;refine⟨hv,.inl ⟨h.L,?_⟩⟩;have hP:=h.put (lp':={ lp with state := .exhausted }) hlt;generalize W.putObj (w.heap.size+1+1) (.loop { lp with state := .exhausted })=W3 at *;clear h hv hW1 hlp W1 h0;obtain⟨v,ob,ow⟩:=hP.o;rw[List.take_length]at ow;have q0:=ob.cell 0;simp only[List.getElem?_toArray,List.getElem?_cons_zero]at q0;obtain⟨A2,c2,rfl⟩:=aM ow;have HOW:=qh ow;have HP:=qh hP;clear hP ow ob;gi_wp2
 refine⟨by simp,.inl ⟨_,_,rfl,run_takeDeferred HP.out.D,?_⟩⟩;refine⟨.slice A2 (ofL ls ins).length c2,by simp[results,Tryz.results178,go_sem],?_⟩;exact⟨A2,c2,rfl,jS HOW.out HP.out.D,(own_cap HOW.out).1,HP.out.ext.putObj (by omega) _⟩
theorem vG(ls:List LotV)(A:Option Addr)(c:Nat)(ins:Bs)(w:World)(B:Nat)(hA:aG w A ls)(hn:ls.length<=100000)(bl:Blk w B 22 #[.slice A ls.length c])(bi:Blk w (B+1) 9 #[.string (bs ins)]) :
  Calls Tryz.prog 98 #[.func (.func 126) #[] #[.pointer (some ⟨B,0,none⟩),.pointer (some ⟨B+1,0,none⟩)]] w (oK ls ins w):=by
 have HS:=qh (D8 ls A c ins w B hA hn bl bi);clear hA bl bi;go_enter Tryz.func98,Tryz.ntmps98;go_wp2_with fail;refine HS.out.mono ?_;rintro e w1⟨A2,c2,rfl,h1,h2,h3⟩;have HR:=qh (And.intro h1 (And.intro h2 h3));clear h1 h2 h3;go_wp2_with fail;go_ret;exact⟨A2,c2,rfl,HR.out⟩
theorem jT(ls:List LotV)(A:Option Addr)(c:Nat)(ins:Bs)(w:World)(hA:aG w A ls)(hn:ls.length<=100000) :
  Calls Tryz.prog 29 #[.slice A ls.length c,.string (bs ins)] w (oK ls ins w):=by
 have HA:=qh hA;clear hA;go_enter Tryz.func29,Tryz.ntmps29;go_wp2_with fail;refine(Bh A _ c ins _).mono ?_;rintro e w1⟨rfl,hw1⟩;have HX:Hid (Ext w w1):=qh (by rw[hw1];exact(Ext.new _ _).alloc _);have B0:Hid (Blk w1 w.heap.size 22 #[.slice A ls.length c]):=qh (by rw[hw1];exact(Blk.new _ _ _).alloc _);have B1:Hid (Blk w1 (w.heap.size+1) 9 #[.string (bs ins)]):=qh (by rw[hw1];exact Blk.newAt _ _ _ _ (by simp));clear hw1;go_wp2_with fail;refine(vG ls A c ins w1 w.heap.size (HA.out.ext HX.out) hn B0.out B1.out).mono ?_;rintro e w2⟨A2,c2,rfl,h1,h2,h3⟩;have HR:=qh (And.intro (qG h1 HX.out.size) (And.intro h2 (HX.out.trans h3)));clear h1 h2 h3;go_wp2_with fail;go_ret;exact⟨A2,c2,rfl,HR.out⟩
end
section
open Go.RowKit Go.Shelf
attribute [local go_sem] size_bs toList_bs
theorem Bi(n:Nat)(A:Option Addr)(c:Nat)(t:Bs)(W:World) :
  Calls Tryz.prog 125 #[.slice A n c,.string (bs t)] W fun e w'=>e = .returned (.func (.func 198) #[] #[.pointer (some ⟨W.heap.size,0,none⟩),.pointer (some ⟨W.heap.size+1,0,none⟩)])∧w'=(W.alloc (.cells #[.slice A n c] 22)).alloc (.cells #[.string (bs t)] 24):=by
 go_enter Tryz.func125,Tryz.ntmps125;go_wp2_with fail;go_ret;exact⟨by simp,rfl⟩
end
end Go.Proofs.YtaegjkllenlfpaaGreatDoor
