/- The seat's texts, part Y12. -/
import Derived.Test.YtaegjkllenlfpaaGreatDoorY11
set_option maxRecDepth 100000
set_option maxHeartbeats 8000000
namespace Go.Proofs.YtaegjkllenlfpaaGreatDoor
open Tryz
variable {g' j base l b:Nat}{t' e:TypeId}{v v':Value}{xs:List Value}
section
open Go.RowKit Go.Shelf
attribute [local go_sem] size_bs toList_bs
theorem Blk.only'{w w':World}{g:Nat}{t:TypeId}{cs:Array Value}(h:Blk w g t cs)(ho:Only g' w w')(hp:g≠g'):Blk w' g t cs:=(ho.block g h.lt (by intro e;injection e with e;exact hp e)).trans h
theorem RowS.new'{w:World}{g n:Nat}(hn:n<=3000000)(h:Blk w g 24 (Array.replicate n (Value.string ⟨#[]⟩))):RowS w g n (List.replicate n []) :=
 RowS.new hn (by rw[List.toArray_replicate];exact h)
theorem RowI.new'{w:World}{g n:Nat}(hn:n<=3000000)(h:Blk w g 3 (Array.replicate n (Value.int .i64 0))):RowI w g n (List.replicate n 0) :=
 RowI.new hn (by rw[List.toArray_replicate];exact h)
def lF(T:Int)(ls:List Bs):List Bs:=(bN T (ls.map valI)).map ofI
def jO(T:Int)(ls:List Bs):List Bs:=(ce T (ls.map valI)).map ofI
theorem jj(T:Int)(ls:List Bs):(lF T ls).length=ls.length:=by simp[lF,bN]
theorem eC(T:Int)(ls:List Bs):(jO T ls).length=ls.length:=by simp[jO,ce]
theorem wH(T:Int)(ls:List Bs){k:Nat}(hk:k<ls.length)(h:k<(lF T ls).length):(lF T ls)[k]'h=ofI (T*valI (ls[k]'hk) / aV ls):=by simp[lF,bN,aV]
theorem E6(T:Int)(ls:List Bs){k:Nat}(hk:k<ls.length)(h:k<(jO T ls).length):(jO T ls)[k]'h=ofI (T*valI (ls[k]'hk) % aV ls):=by simp[jO,ce,aV]
def gh(T:Int)(ls:List Bs)(k:Nat):Int:=T-((bN T (ls.map valI)).take k).sum
theorem xJ(T:Int)(ls:List Bs){k:Nat}(hk:k<ls.length):gh T ls k-T*valI (ls[k]'hk) / aV ls=gh T ls (k+1):=by
 have hl:k<(bN T (ls.map valI)).length:=by simpa[bN] using hk
 unfold gh;rw[Mo hl,Sz];have:(bN T (ls.map valI))[k]'hl=T*valI (ls[k]'hk) / aV ls:=by simp[bN,aV]
 rw[this];simp;omega
theorem xK(T:Int)(ls:List Bs):gh T ls ls.length=bF T (ls.map valI):=by
 unfold gh bF;rw[Mv (by simp[bN])]
theorem eU(l:List Int)(h:∀x ∈ l,0<=x):0<=l.sum:=by
 induction l with
 |nil=>simp
 |cons a r ih=>rw[Nz];have:=h a (by simp);have:=ih (fun x hx=>h x (by simp[hx]));omega
theorem qk{T:Int}{ls:List Bs}(h0:0<=T)(hW:WtOK ls):∀x ∈ bN T (ls.map valI),0<=x:=by
 intro x hx;obtain⟨y,hy,rfl⟩:=MH.1 hx;obtain⟨z,hz,rfl⟩:=MH.1 hy;exact Sy (QI h0 (hW.nn z hz)) (Oj hW.sum)
theorem tV{T:Int}{ls:List Bs}(h0:0<=T)(hW:WtOK ls)(k:Nat):0<=gh T ls k∧gh T ls k<=T:=by
 have h1:=qk h0 hW;have h2:=(gD (T:=T) (ws:=ls.map valI) hW.sum).1;have h3:=eU _ (fun x hx=>h1 x (Ng (i:=k) hx));have h4:=eU _ (fun x hx=>h1 x (NA (i:=k) hx));have h5:(bN T (ls.map valI)).sum=((bN T (ls.map valI)).take k).sum+((bN T (ls.map valI)).drop k).sum:=by rw[←Sz,MP]
 unfold bF at h2;unfold gh;omega
theorem xL{L:Nat}{t:Bs}{ls:List Bs}(ht:t.length<=L)(h0:0<=valI t)(hW:WtOK ls)(k:Nat):(ofI (gh (valI t) ls k)).length<=L+1:=by
 have h1:=tV h0 hW k;have h2:=aG ht;exact bz (by omega)
theorem GP{L:Nat}{t:Bs}{ls:List Bs}(ht:t.length<=L)(hs:∀x ∈ ls,x.length<=L)(h0:0<=valI t)(hW:WtOK ls):∀x ∈ bN (valI t) (ls.map valI),0<=x∧x<((10 ^ (L+L):Nat):Int):=by
 intro x hx;refine⟨qk h0 hW x hx,?_⟩;obtain⟨y,hy,rfl⟩:=MH.1 hx;obtain⟨z,hz,rfl⟩:=MH.1 hy;have h1:=aG ht;have h2:=aG (hs z hz);have h3:=hW.nn z hz;have h4:0<=valI t*valI z:=QI h0 h3;have h5:=Int.ediv_le_self (a:=valI t*valI z) ((ls.map valI).sum) h4
 have h6:(valI t*valI z).natAbs<10 ^ (L+L):=by
  rw[Pi,Pr];exact QM h1 h2
 omega
theorem E7{L:Nat}{t:Bs}{ls:List Bs}(ht:t.length<=L)(hs:∀x ∈ ls,x.length<=L)(h0:0<=valI t)(hW:WtOK ls):∀x ∈ ce (valI t) (ls.map valI),(ofI x).length<=L+L+1:=by
 intro x hx;obtain⟨y,hy,rfl⟩:=MH.1 hx;obtain⟨z,hz,rfl⟩:=MH.1 hy;have h1:=aG ht;have h2:=aG (hs z hz);have h3:=hW.nn z hz;have hS:0<(ls.map valI).sum:=hW.sum;have h4:0<=valI t*valI z:=QI h0 h3;have h5:0<=(ls.map valI).sum*(valI t*valI z / (ls.map valI).sum):=QI (Oj hS) (Sy h4 (Oj hS))
 have h6:(valI t*valI z).natAbs<10 ^ (L+L):=by
  rw[Pi,Pr];exact QM h1 h2
 have h7:=Qs (valI t*valI z) (show(ls.map valI).sum≠0 by omega);have h8:=Int.emod_def (valI t*valI z) (ls.map valI).sum;exact bz (by omega)
theorem pz{L:Nat}{t:Bs}{ls:List Bs}(ht:t.length<=L)(hs:∀x ∈ ls,x.length<=L)(h0:0<=valI t)(hW:WtOK ls)(j i:Nat)(v:Int)(h:(cu (bN (valI t) (ls.map valI)) ((cP (valI t) (ls.map valI)).take j))[i]? = some v):(ofI v).length<=L+L+2:=by
 have hi:=(Nk.1 h).1;rw[lA]at hi;rw[lB _ _ (mw.sublist (QD _ _)) _ hi]at h;injection h with h
 have h1:=GP ht hs h0 hW _ (Ml hi);have h2:10 ^ (L+L+1)=10*10 ^ (L+L):=by rw[Nf,MF]
 have h3:0<10 ^ (L+L):=Pf (by decide);refine bz (L:=L+L+1) ?_;subst h;split <;> omega
theorem tW(p:List Int)(is:List Nat)(hj:j<is.length):cu p (is.take (j+1))=(cu p (is.take j)).modify (is[j]'hj) (·+1):=by
 unfold cu;rw[Mo hj,PU];rfl
theorem xM(l:List Int)(i:Nat)(v:Int)(h:l[i]? = some v):(l.map ofI).set i (ofI (v+1))=(l.modify i (·+1)).map ofI:=by
 apply List.ext_getElem?;intro k;rw[List.getElem?_set,Oo,Oo,List.getElem?_modify];have hi:=(Nk.1 h).1;by_cases e:i=k
 ·subst e;rw[Mq rfl,Mq (by simpa using hi),h];simp
 ·rw[Mj e];simp[e]
structure PosAt (w:World) (P R G O:Nat) (T:Int) (ls:List Bs) (kp kr ko:Nat) (W:World):Prop where
 ext:Ext w W
 p:RowS W P ls.length (mixL (lF T ls) [] kp)
 r:RowS W R ls.length (mixL (jO T ls) [] kr)
 o:RowI W O ls.length (mixL (List.range ls.length) 0 ko)
 g:Blk W G 117 #[.slice (some ⟨R,0,none⟩) ls.length ls.length]
structure Apart (w:World) (P R G O:Nat):Prop where
 pr:P≠R
 pg:P≠G
 rg:R≠G
 po:P≠O
 ro:R≠O
 go:G≠O
 p:w.heap.size<=P
 r:w.heap.size<=R
 g:w.heap.size<=G
 o:w.heap.size<=O
section
variable {w:World} {P R G O:Nat} {T:Int} {ls:List Bs} {kp kr ko:Nat} {W W':World}
theorem PosAt.on(h:PosAt w P R G O T ls kp kr ko W)(hx:Ext W W'):PosAt w P R G O T ls kp kr ko W' :=
 ⟨h.ext.trans hx,h.p.ext hx,h.r.ext hx,h.o.ext hx,h.g.ext hx⟩
theorem PosAt.putP(h:PosAt w P R G O T ls kp kr ko W)(ha:Apart w P R G O)(hk:kp<ls.length):PosAt w P R G O T ls (kp+1) kr ko (W.setCell ⟨P,kp,none⟩ (.string (bs (ofI (T*valI (ls[kp]'hk) / aV ls))))):=by
 refine⟨h.ext.setCell (p:=⟨P,kp,none⟩) ha.p _,?_,h.r.far ha.pr.symm _ _,h.o.far ha.po.symm _ _,h.g.far (p:=⟨P,kp,none⟩) ha.pg.symm _⟩;have hl:kp<(lF T ls).length:=by rw[jj];exact hk
 have:=h.p.set_ kp ((lF T ls)[kp]'hl);rw[mixL_set hl,wH T ls hk]at this
 exact this
theorem PosAt.putR(h:PosAt w P R G O T ls kp kr ko W)(ha:Apart w P R G O)(hk:kr<ls.length):PosAt w P R G O T ls kp (kr+1) ko (W.setCell ⟨R,kr,none⟩ (.string (bs (ofI (T*valI (ls[kr]'hk) % aV ls))))):=by
 refine⟨h.ext.setCell (p:=⟨R,kr,none⟩) ha.r _,h.p.far ha.pr _ _,?_,h.o.far ha.ro.symm _ _,h.g.far (p:=⟨R,kr,none⟩) ha.rg.symm _⟩;have hl:kr<(jO T ls).length:=by rw[eC];exact hk
 have:=h.r.set_ kr ((jO T ls)[kr]'hl);rw[mixL_set hl,E6 T ls hk]at this
 exact this
theorem PosAt.putO(h:PosAt w P R G O T ls kp kr ko W)(ha:Apart w P R G O)(hk:ko<ls.length):PosAt w P R G O T ls kp kr (ko+1) (W.setCell ⟨O,ko,none⟩ (.int .i64 (ko:Int))):=by
 refine⟨h.ext.setCell (p:=⟨O,ko,none⟩) ha.o _,h.p.far ha.po _ _,h.r.far ha.ro _ _,?_,h.g.far (p:=⟨O,ko,none⟩) ha.go _⟩;have hl:ko<(List.range ls.length).length:=by simpa using hk
 have:=h.o.set_ ko ((List.range ls.length)[ko]'hl) (by rw[mixL_len (by simp;omega)];exact hl);rw[mixL_set hl,List.getElem_range]at this
 exact this
theorem PosAt.cells(h:PosAt w P R G O T ls kp kr ko W)(hp:kp<ls.length)(hr:kr<ls.length)(ho:ko<ls.length) :
  W.cell? ⟨G,0,none⟩=some (.slice (some ⟨R,0,none⟩) ls.length ls.length)∧W.cell? ⟨P,kp,none⟩=some (.string (bs []))∧W.frozen? ⟨P,kp,none⟩=false∧W.cell? ⟨R,kr,none⟩=some (.string (bs []))∧W.frozen? ⟨R,kr,none⟩=false∧W.cell? ⟨O,ko,none⟩=some (.int .i64 0)∧W.frozen? ⟨O,ko,none⟩=false :=
 ⟨boxCell h.g,h.p.cell (mixL_at (by rw[jj];exact hp)),h.p.frozen _,h.r.cell (mixL_at (by rw[eC];exact hr)),h.r.frozen _,h.o.cell (mixL_at (by simpa using ho)),h.o.frozen _⟩
theorem PosAt.made(h:PosAt w P R G O T ls (kp+1) kr ko W)(hp:kp<ls.length):W.cell? ⟨P,kp,none⟩=some (.string (bs (ofI (T*valI (ls[kp]'hp) / aV ls)))):=by
 have hl:kp<(lF T ls).length:=by rw[jj];exact hp
 rw[←wH T ls hp hl];refine h.p.cell ?_;unfold mixL;rw[OY (by rw[Mu];omega),O7,Mq (by omega),Mr hl]
end
theorem oW(t:Bs)(ls:List Bs)(A:Option Addr)(c:Nat)(w:World)(hE:Env w)(hA:RdS w A ls)(ht:t.length<=4000)(h0:0<=valI t)(hW:WtOK ls) :
  Calls prog 222 #[.string (bs t),.slice A ls.length c] w fun e w'=>∃P,e = .returned (.slice (some ⟨P,0,none⟩) ls.length ls.length)∧w.heap.size<=P∧RowS w' P ls.length ((aY (valI t) (ls.map valI)).map ofI)∧Ext w w':=by
 have HE:=qh hE;have HA:=qh hA;have HWH:=qh (fun W hx=>tU ls A c W (hE.ext hx) (hA.ext hx) hW.sm (by have:=hW.le;omega));have HW:=qh hW;have hnn:=hW.le;have hmk:=makeS ls.length (by have:=hW.le;omega);have hmi:=makeI2 ls.length (by have:=hW.le;omega);have HSUM:Hid (0<aV ls):=qh hW.sum;clear hE hA hW;have HX:Hid (Ext w w):=qh (iD w);go_enter func222,ntmps222;go_wp2_with fail;refine(HWH.out _ HX.out).mono ?_;rintro e w1⟨rfl,hx1⟩;replace HX:=HX.qt hx1;clear hx1;go_upto_region 2 with fail;go_cut [6,7] (fun s6 s7 wx=>ThreeAt ls.length w1 s6 s7 wx)
 case first =>
  go_region
  all_goals (go_wp2_with fail;go_meet;clear HX hmk hmi;first|(refine⟨_,(w1.heap.size+1),_,rfl,rfl,?_,?_,?_,?_,?_,?_,RowS.new' ?_ ?_,RowS.new' ?_ ?_,?_,(((Id _ _).alloc _).alloc _).drew⟩ <;> first|omega|((repeat' first|(refine Mf _ _ _ _ ?_;solve|simp|(simp only[Qe];omega))|refine Blk.drew ?_|refine Blk.alloc ?_ _);done))|(refine⟨_,(w1.heap.size+1+1),_,rfl,rfl,?_,?_,?_,?_,?_,?_,RowS.new' ?_ ?_,RowS.new' ?_ ?_,?_,(((Id _ _).alloc _).alloc _).drew⟩ <;> first|omega|((repeat' first|(refine Mf _ _ _ _ ?_;solve|simp|(simp only[Qe];omega))|refine Blk.drew ?_|refine Blk.alloc ?_ _);done))|(refine⟨_,w1.heap.size,_,rfl,rfl,?_,?_,?_,?_,?_,?_,RowS.new' ?_ ?_,RowS.new' ?_ ?_,?_,(((Id _ _).alloc _).alloc _).drew⟩ <;> first|omega|((repeat' first|(refine Mf _ _ _ _ ?_;solve|simp|(simp only[Qe];omega))|refine Blk.drew ?_|refine Blk.alloc ?_ _);done)))
 case rest =>
  obtain⟨P,R,G,rfl,rfl,hPR,hPG,hRG,hP,hR,hG,hrp,hrr,hbg,hxw⟩:=hcut
  have HST:Hid (PosAt w P R G wc.heap.size (valI t) ls 0 0 0 (wc.alloc (.cells (Array.replicate ls.length (.int .i64 0)) 3))):=qh (by
   refine⟨(HX.out.trans hxw).alloc _,?_,?_,?_,hbg.alloc _⟩
   ·rw[mixL_zero,jj];exact hrp.ext (Id _ _)
   ·rw[mixL_zero,eC];exact hrr.ext (Id _ _)
   ·rw[mixL_zero,Rm];exact RowI.new' (by omega) (ID _ _ _))
  have HAP:Hid (Apart w P R G wc.heap.size):=qh ⟨hPR,hPG,hRG,Nat.ne_of_lt hrp.lt,Nat.ne_of_lt hrr.lt,Nat.ne_of_lt hbg.lt,Mx HX.out.size hP,Mx HX.out.size hR,Mx HX.out.size hG,(HX.out.trans hxw).size⟩;clear hrp hrr hbg hxw HX HWH hP hR hG hmk hPR hPG hRG;have HT0:Hid (valI t=gh (valI t) ls 0):=qh (by simp[gh]);go_wp2_with fail;clear hmi;generalize hW0:wc.alloc (.cells (Array.replicate ls.length (.int .i64 0)) 3)=W0 at *;clear hW0;generalize wc.heap.size=O at *;go_loopw [30,9,10,11] (fun i s _ _ wr=>∃(k:Nat) (l:Bs),k<=ls.length∧i = .int .i64 k∧s = .string (bs l)∧valI l=gh (valI t) ls k∧l.length<=4001∧(0<k->l=ofI (gh (valI t) ls k))∧PosAt w P R G O (valI t) ls k k k wr) (fun i _ _ _ _=>ls.length-(intOf i).toNat)
  case atStart=>exact⟨0,t,by omega,rfl,rfl,HT0.out,by omega,by omega,HST.out⟩
  case round =>
   clear HST HT0;obtain⟨k,l,hk,rfl,rfl,hl,hll,hlk,hpos⟩:=hrel;have HPOS:=qh hpos;have HL:=qh hl;have HLK:=qh hlk;clear hpos hl hlk;by_cases hlt:k<ls.length
   ·obtain⟨b,o,rfl,hb,c0⟩:=(HA.out.ext HPOS.out.ext).at_ hlt;have m1:=jM t (ls[k]'hlt) (by omega) (by have:=HW.out.sm _ (Ml hlt);omega);have ml:=fZ ht (HW.out.sm _ (Ml hlt));have sl:=jD 4000 ls HW.out.sm (by omega);have d1:=pu (ofI (valI t*valI (ls[k]'hlt))) (ofI (aV ls)) (by omega) (by omega) (by rw[valI_ofI];have:=HSUM.out;omega);rw[valI_ofI,valI_ofI,gV HSUM.out,pw HSUM.out]at d1;have pl:=pz ht HW.out.sm h0 HW.out 0 k (valI t*valI (ls[k]'hlt) / aV ls) (by simp[cu,bN,aV,hlt]);have s1:=lC l (ofI (valI t*valI (ls[k]'hlt) / aV ls)) (by omega) (by omega);rw[valI_ofI,HL.out,xJ _ _ hlt]at s1;have HLEN:=qh (xL ht h0 HW.out (k+1));have M1:=qh m1;have D1:=qh d1;have S1:=qh s1;have HC:Hid (∀W,Ext wr W->W.cell? ⟨G,0,none⟩=some (.slice (some ⟨R,0,none⟩) ls.length ls.length)∧W.cell? ⟨P,k,none⟩=some (.string (bs []))∧W.frozen? ⟨P,k,none⟩=false∧W.cell? ⟨R,k,none⟩=some (.string (bs []))∧W.frozen? ⟨R,k,none⟩=false∧W.cell? ⟨O,k,none⟩=some (.int .i64 0)∧W.frozen? ⟨O,k,none⟩=false):=qh (fun W hx=>(HPOS.out.on hx).cells hlt hlt hlt);have HP1:Hid (∀W,Ext wr W->PosAt w P R G O (valI t) ls (k+1) (k+1) k ((W.setCell ⟨P,k,none⟩ (.string (bs (ofI (valI t*valI (ls[k]'hlt) / aV ls))))).setCell ⟨R,k,none⟩ (.string (bs (ofI (valI t*valI (ls[k]'hlt) % aV ls)))))):=qh (fun W hx=>((HPOS.out.on hx).putP HAP.out hlt).putR HAP.out hlt);have HP2:Hid (∀W,PosAt w P R G O (valI t) ls (k+1) (k+1) k W->PosAt w P R G O (valI t) ls (k+1) (k+1) (k+1) (W.setCell ⟨O,k,none⟩ (.int .i64 (k:Int)))):=qh (fun W h=>h.putO HAP.out hlt);have HMD:Hid (∀W,PosAt w P R G O (valI t) ls (k+1) (k+1) k W->W.cell? ⟨P,k,none⟩=some (.string (bs (ofI (valI t*valI (ls[k]'hlt) / aV ls))))∧W.cell? ⟨O,k,none⟩=some (.int .i64 0)∧W.frozen? ⟨O,k,none⟩=false):=qh (fun W h=>⟨h.made hlt,h.o.cell (mixL_at (by simpa using hlt)),h.o.frozen _⟩);have HXE:Hid (∀W,PosAt w P R G O (valI t) ls (k+1) (k+1) k W->Env W):=qh (fun W h=>HE.out.ext h.ext);have HER:Hid (Env wr):=qh (HE.out.ext HPOS.out.ext);have hpr:=HAP.out.pr;have hpg:=HAP.out.pg;have hrg:=HAP.out.rg;have hpr':=HAP.out.pr.symm;have hpg':=HAP.out.pg.symm;have hrg':=HAP.out.rg.symm;have hki:(k:Int)<(ls.length:Int):=by omega
    have hk0:(0:Int)<=(k:Int):=by omega
    clear m1 d1 s1 pl ml sl;generalize ofI (valI t*valI (ls[k]'hlt) / aV ls)=zq at *;generalize ofI (valI t*valI (ls[k]'hlt) % aV ls)=zr at *;generalize ofI (valI t*valI (ls[k]'hlt))=zm at *;generalize ls[k]'hlt=x at *;generalize ofI (aV ls)=zs at *;go_upto_region 8 with fail;go_cut [] (fun wx=>PosAt w P R G O (valI t) ls (k+1) (k+1) k wx)
    case first =>
     obtain⟨q0,q1,q2,q3,q4,_,_⟩:=HC.out _ (iD wr);have HX:Hid (Ext wr wr.drew):=qh (iD wr).drew
     go_region_held3 (fun w'=>w'.cell? ⟨G,0,none⟩=some (.slice (some ⟨R,0,none⟩) ls.length ls.length))
      (go_keep)
      (first
       |(go_at_call 264;((with_reducible refine(M1.out _ (HER.out.ext HX.out)).mono ?_);rintro e w2⟨rfl,hx⟩);(replace HX:=HX.qt hx);(obtain⟨r0,r1,r2,r3,r4,_,_⟩:=HC.out _ HX.out);clear hx M1)
       |(go_at_call 180;((with_reducible refine(D1.out _ (HER.out.ext HX.out)).mono ?_);rintro e w3⟨rfl,hx⟩);(replace HX:=HX.qt hx);(obtain⟨u0,u1,u2,u3,u4,_,_⟩:=HC.out _ HX.out);clear hx D1))
     all_goals (go_wp2_with fail;go_meet;exact HP1.out _ HX.out)
    case rest =>
     obtain⟨y0,y1,y2⟩:=HMD.out _ hcut;have HCU:=qh hcut;clear hcut;go_wp2_with fail;refine(S1.out _ (HXE.out _ HCU.out)).mono ?_;rintro e w4⟨rfl,hx⟩;obtain⟨v0,v1,v2⟩:=HMD.out _ (HCU.out.on hx);replace HCU:=qh (HP2.out _ (HCU.out.on hx));clear hx;go_wp2_with fail;go_roundw
     case rel=>exact⟨k+1,_,by omega,by go_num,rfl,valI_ofI _,HLEN.out,fun _=>rfl,HCU.out⟩
     case measure=>simp[intOf];omega
   ·have hkn:k=ls.length:=by omega
    have hp0:=HW.out.pos
    have HLL:Hid (l=ofI (((bF (valI t) (ls.map valI)).toNat:Nat):Int)):=qh (by
     have h1:=(gD (T:=valI t) (ws:=ls.map valI) HW.out.sum).1;rw[HLK.out (by omega),hkn,xK,Int.toNat_of_nonneg h1])
    have hml:(bF (valI t) (ls.map valI)).toNat<=ls.length:=by
     have h1:=(gD (T:=valI t) (ws:=ls.map valI) HW.out.sum).2;rw[Nb]at h1;omega
    have HPR:Hid (RowS wr P ls.length (lF (valI t) ls)):=qh (by
     have:=HPOS.out.p;rw[hkn,←jj (valI t) ls,mixL_full,jj]at this;exact this)
    have HRR:Hid (RowS wr R ls.length (jO (valI t) ls)):=qh (by
     have:=HPOS.out.r;rw[hkn,←eC (valI t) ls,mixL_full,eC]at this;exact this)
    have HOR:Hid (RowI wr O ls.length (List.range ls.length)):=qh (by
     have:=HPOS.out.o;rw[hkn]at this
     have e:=mixL_full (l:=List.range ls.length) (d:=0);rw[Rm]at e;rw[e]at this;exact this)
    have HBG:=qh HPOS.out.g;have HXR:=qh HPOS.out.ext;have SM:=qh (GN (bF (valI t) (ls.map valI)).toNat (by omega));rw[←HLL.out]at SM
    have srt:=posSort (jO (valI t) ls) (by
      intro x hx;obtain⟨y,hy,rfl⟩:=MH.1 hx;have:=E7 ht HW.out.sm h0 HW.out y hy;omega) (by rw[eC];omega) (by rw[eC];omega) (some ⟨R,0,none⟩) ls.length G O ls.length wr (fun W ho=>by
      rw[eC];exact⟨HE.out.ext (ho.toExt HXR.out HAP.out.o),Blk.only' HBG.out ho HAP.out.go,(HRR.out.only ho HAP.out.ro).reads⟩) (by rw[eC];exact HOR.out)
    have ers:(jO (valI t) ls).map valI=ce (valI t) (ls.map valI):=by
     unfold jO;rw[OH];conv=>rhs;rw[←List.map_id (ce (valI t) (ls.map valI))]
     apply OC;intro x _;exact valI_ofI x
    rw[ers,eC]at srt;have SRT:=qh srt;clear srt ers HLL HPOS HOR HRR HBG;subst hkn;have HTL:Hid ((cP (valI t) (ls.map valI))=((ordR (ce (valI t) (ls.map valI))).map (·.val)).take (bF (valI t) (ls.map valI)).toNat):=qh (by unfold cP;rw[Sb])
    have HTN:Hid ((cP (valI t) (ls.map valI)).length=(bF (valI t) (ls.map valI)).toNat):=qh (by
     have h1:=tI (T:=valI t) (ws:=ls.map valI) HW.out.sum;omega)
    have HOL:Hid (((ordR (ce (valI t) (ls.map valI))).map (·.val)).length=ls.length):=qh (by rw[Nb,ordR_len,jh,Nb]);generalize (bF (valI t) (ls.map valI)).toNat=m at *;generalize (ordR (ce (valI t) (ls.map valI))).map (·.val)=od at *;go_wp2_with fail;refine SRT.out.mono ?_;rintro e w5⟨rfl,ho,hrd⟩;have HPR2:=qh (HPR.out.only ho HAP.out.po);have HXR2:=qh (ho.toExt HXR.out HAP.out.o);have HRD:=qh hrd;clear ho hrd HPR HXR SRT;go_wp2_with fail;refine(SM.out _ (HE.out.ext HXR2.out)).mono ?_;rintro e w6⟨rfl,hx⟩;replace HPR2:=qh (HPR2.out.ext hx);replace HXR2:=HXR2.qt hx;replace HRD:=qh (HRD.out.ext hx);clear hx SM;have hmi1:(m:Int)<=(ls.length:Int):=by omega
    have hmi0:(0:Int)<=(m:Int):=by omega
    go_wp2_with fail;go_loopw [73,15] (fun i _ wr=>∃j:Nat,j<=m∧i = .int .i64 j∧RowS wr P ls.length ((cu (bN (valI t) (ls.map valI)) ((cP (valI t) (ls.map valI)).take j)).map ofI)∧RdI wr (some ⟨O,0,none⟩) od∧Ext w wr) (fun i _ _=>m-(intOf i).toNat)
    case atStart=>exact⟨0,by omega,rfl,HPR2.out,HRD.out,HXR2.out⟩
    case round =>
     clear HPR2 HRD HXR2;obtain⟨j,hj,rfl,hrow,hrd,hx⟩:=hrel;have HRO:=qh hrow;have HRD:=qh hrd;have HX:=qh hx;clear hrow hrd hx;by_cases hjm:j<m
     ·have hjt:j<(cP (valI t) (ls.map valI)).length:=by rw[HTN.out];exact hjm
      have hjo:j<od.length:=by rw[HOL.out];omega
      have eo:od[j]'hjo=(cP (valI t) (ls.map valI))[j]'hjt:=by
       have:(cP (valI t) (ls.map valI))[j]? = od[j]? := by rw[HTL.out,O7,Mq hjm]
       rw[Mr hjt,Mr hjo]at this
       injection this with this
       exact this.symm
      have hin:(cP (valI t) (ls.map valI))[j]'hjt<ls.length:=by
       have:=wC _ (Ml hjt);rw[Nb]at this;exact this
      obtain⟨b',o',he,_,c1⟩:=HRD.out.at_ hjo;injection he with he
      injection he with e1 e2 _
      subst e1 e2;rw[MV,eo]at c1;have HNX:Hid (cu (bN (valI t) (ls.map valI)) ((cP (valI t) (ls.map valI)).take (j+1))=_):=qh (tW (bN (valI t) (ls.map valI)) (cP (valI t) (ls.map valI)) hjt);have hbl:(cu (bN (valI t) (ls.map valI)) ((cP (valI t) (ls.map valI)).take j)).length=ls.length:=by rw[lA,kA,Nb]
      have HBLN:=qh (pz ht HW.out.sm h0 HW.out j);generalize (cP (valI t) (ls.map valI))[j]'hjt=i at *;generalize hB1:cu (bN (valI t) (ls.map valI)) ((cP (valI t) (ls.map valI)).take (j+1))=B1 at *;have HB1:=qh hB1;clear hB1;generalize cu (bN (valI t) (ls.map valI)) ((cP (valI t) (ls.map valI)).take j)=B0 at *;obtain⟨v,hv⟩:∃v,B0[i]? = some v:=⟨_,Mr (by omega)⟩;have hvl:=HBLN.out i v hv;have hmod:=xM B0 i v hv;rw[←HNX.out]at hmod;have HMOD:=qh hmod;have pc:=HRO.out.cell (k:=i) (x:=ofI v) (by rw[Oo,hv];rfl)
      have a1:bJ 19 #[.string (bs (ofI v)),.string ⟨#[49]⟩] (.string (bs (ofI (v+1)))):=by
       have:=iL (ofI v) [49] (by omega) (by decide);rw[valI_ofI,show valI [49]=1 by decide]at this
       exact this
      have A1:=qh a1;have HCC:Hid (∀W,Ext wr W->W.cell? ⟨P,i,none⟩=some (.string (bs (ofI v)))∧W.frozen? ⟨P,i,none⟩=false):=qh (fun W hx=>⟨(HRO.out.ext hx).cell (by rw[Oo,hv];rfl),(HRO.out.ext hx).frozen _⟩);have hii:(i:Int)<(ls.length:Int):=by omega
      have hi0:(0:Int)<=(i:Int):=by omega
      have hjj:(j:Int)<(m:Int):=by omega
      have hj0:(0:Int)<=(j:Int):=by omega
      clear a1 hmod hv hvl HBLN HNX eo hbl hjt hjo;generalize ofI v=z0 at *;generalize ofI (v+1)=z1 at *;go_wp2_with fail;refine(A1.out _ (HE.out.ext HX.out)).mono ?_;rintro e w7⟨rfl,hx⟩;obtain⟨d0,d1⟩:=HCC.out _ hx;have HR2:=qh ((HRO.out.ext hx).set_ i z1);rw[HMOD.out]at HR2;have HRD2:=qh (RdI.far (g:=P) (i:=i) (HRD.out.ext hx) (.string (bs z1)) (fun _ b o he=>by injection he with he;injection he with e1 _ _;rw[←e1];exact HAP.out.po.symm));have HX2:=qh ((HX.out.trans hx).setCell (p:=⟨P,i,none⟩) HAP.out.p (.string (bs z1)));clear hx;go_wp2_with fail;go_roundw
      case rel=>exact⟨j+1,by omega,by go_num,by rw[HB1.out];exact HR2.out,HRD2.out,HX2.out⟩
      case measure=>simp[intOf];omega
     ·have HFIN:Hid (cu (bN (valI t) (ls.map valI)) ((cP (valI t) (ls.map valI)).take j)=aY (valI t) (ls.map valI)):=qh (by
       rw[Mv (by rw[HTN.out];omega)];rfl)
      rw[HFIN.out]at HRO;go_wp2_with fail;go_ret;exact⟨P,rfl,HAP.out.p,HRO.out,HX.out⟩
def lG(sp:List Int)(k:Nat):List Bs:=((sp.take k).map (-·)++sp.drop k).map ofI
theorem yV(sp:List Int):lG sp 0=sp.map ofI:=by simp[lG]
theorem yW(sp:List Int){k:Nat}(h:sp.length<=k):lG sp k=(sp.map (-·)).map ofI:=by simp[lG,Mv h,Nt h]
theorem wI(sp:List Int){k:Nat}(hk:k<sp.length):(lG sp k)[k]? = some (ofI (sp[k]'hk)):=by
 unfold lG;rw[Oo,NK (by simp;omega)];simp[Ot (PE hk),hk]
theorem BT(sp:List Int){k:Nat}(hk:k<sp.length):(lG sp k).set k (ofI (-(sp[k]'hk)))=lG sp (k+1):=by
 unfold lG;rw[←Qd];congr 1
 have e:((sp.take k).map (-·)).length=k:=by simp;omega
 rw[Nx _ _ (by omega),e,Pq,Mo hk,Pp,Mz];congr 1
 rw[MR hk];rfl
theorem yX{L:Nat}{t:Bs}{ls:List Bs}(ht:t.length<=L)(hs:∀x ∈ ls,x.length<=L)(h0:0<=valI t)(hW:WtOK ls):∀v ∈ aY (valI t) (ls.map valI),(ofI v).length<=L+L+2:=by
 intro v hv;obtain⟨i,hi,rfl⟩:=Ok hv;refine pz ht hs h0 hW (cP (valI t) (ls.map valI)).length i _ ?_;rw[MK];exact Mr hi
theorem yY(t:Bs)(ls:List Bs)(A:Option Addr)(c:Nat)(w:World)(hE:Env w)(hA:RdS w A ls)(ht:t.length<=3000)(hW:WtOK ls) :
  Calls prog 149 #[.string (bs t),.slice A ls.length c] w fun e w'=>∃P,e = .returned (.slice (some ⟨P,0,none⟩) ls.length ls.length)∧w.heap.size<=P∧RowS w' P ls.length ((bZ (valI t) (ls.map valI)).map ofI)∧Ext w w':=by
 have HE:=qh hE;have HA:=qh hA;have HX:Hid (Ext w w):=qh (iD w);have N1:=qh (qd t (by omega));by_cases hneg:valI t<0
 ·rw[show decide (valI t<0)=true by simp[hneg]]at N1;have HSV:Hid (bZ (valI t) (ls.map valI)=(aY (-valI t) (ls.map valI)).map (-·)):=qh (by unfold bZ;rw[Mq hneg]);rw[HSV.out];have n2:=xD t (by omega);have hl:(ofI (-valI t)).length<=3000+1:=bz (L:=3000) (by have:=aG ht;omega);have h0:0<=valI (ofI (-valI t)):=by rw[valI_ofI];omega
  have HPO:=qh (fun W hx=>oW (ofI (-valI t)) ls A c W (hE.ext hx) (hA.ext hx) (by omega) h0 hW);have HLS:=qh (yX (L:=4000) (t:=ofI (-valI t)) (by omega) hW.sm h0 hW);rw[valI_ofI]at HPO HLS;have N2:=qh n2;have hspl:(aY (-valI t) (ls.map valI)).length=ls.length:=by rw[iK,Nb]
  have hnn:=hW.le;clear hE hA hW ht hneg n2 h0 hl HSV;generalize ofI (-valI t)=t' at *;generalize aY (-valI t) (ls.map valI)=sp at *;go_enter func149,ntmps149;go_wp2_with fail;refine(N1.out _ HE.out).mono ?_;rintro e w1⟨rfl,hx1⟩;replace HX:=HX.qt hx1;clear hx1;go_wp2_with fail;refine(N2.out _ (HE.out.ext HX.out)).mono ?_;rintro e w2⟨rfl,hx1⟩;replace HX:=HX.qt hx1;clear hx1;go_wp2_with fail;refine(HPO.out _ HX.out).mono ?_;rintro e w3⟨P,rfl,hP,hrow,hx1⟩;have hPw:w.heap.size<=P:=Mx HX.out.size hP;replace HX:=HX.qt hx1;rw[←yV]at hrow;have HR:=qh hrow;clear hx1 hP hrow HPO N1 N2;go_wp2_with fail;go_loopw [19,6] (fun i _ wr=>∃k:Nat,k<=ls.length∧i = .int .i64 k∧RowS wr P ls.length (lG sp k)∧Ext w wr) (fun i _ _=>ls.length-(intOf i).toNat)
  case atStart=>exact⟨0,by omega,rfl,HR.out,HX.out⟩
  case round =>
   clear HR HX;obtain⟨k,hk,rfl,hr,hx⟩:=hrel;have HR:=qh hr;have HX:=qh hx;clear hr hx;by_cases hlt:k<ls.length
   ·have hks:k<sp.length:=by omega
    have n3:=xD (ofI (sp[k]'hks)) (by have:=HLS.out _ (Ml hks);omega);rw[valI_ofI]at n3;have N3:=qh n3;have c0:=HR.out.cell (wI sp hks);have HCC:=qh (fun W hx=>(HR.out.ext (w':=W) hx).cell (wI sp hks));have HSET:=qh (BT sp hks);have hki:(k:Int)<(ls.length:Int):=by omega
    have hk0:(0:Int)<=(k:Int):=by omega
    clear n3;generalize ofI (-(sp[k]'hks))=z1 at *;generalize ofI (sp[k]'hks)=z0 at *;go_wp2_with fail;refine(N3.out _ (HE.out.ext HX.out)).mono ?_;rintro e w4⟨rfl,hx⟩;have d0:=HCC.out _ hx;have d1:=(HR.out.ext hx).frozen k;have HR2:=qh ((HR.out.ext hx).set_ k z1);rw[HSET.out]at HR2;have HX2:=qh ((HX.out.trans hx).setCell (p:=⟨P,k,none⟩) hPw (.string (bs z1)));clear hx;go_wp2_with fail;go_roundw
    case rel=>exact⟨k+1,by omega,by go_num,HR2.out,HX2.out⟩
    case measure=>simp[intOf];omega
   ·have HF:=qh (yW sp (k:=k) (by omega));rw[HF.out]at HR;go_wp2_with fail;go_ret;exact⟨P,rfl,hPw,HR.out,HX.out⟩
 ·rw[show decide (valI t<0)=false by simp;omega]at N1;have HSV:Hid (bZ (valI t) (ls.map valI)=aY (valI t) (ls.map valI)):=qh (by unfold bZ;rw[Mj hneg]);rw[HSV.out];have HPO:=qh (fun W hx=>oW t ls A c W (hE.ext hx) (hA.ext hx) (by omega) (by omega) hW);clear hE hA hW ht hneg HSV;generalize aY (valI t) (ls.map valI)=sp at *;go_enter func149,ntmps149;go_wp2_with fail;refine(N1.out _ HE.out).mono ?_;rintro e w1⟨rfl,hx1⟩;replace HX:=HX.qt hx1;clear hx1;go_wp2_with fail;refine(HPO.out _ HX.out).mono ?_;rintro e w3⟨P,rfl,hP,hrow,hx1⟩;have hPw:w.heap.size<=P:=Mx HX.out.size hP;replace HX:=HX.qt hx1;have HR:=qh hrow;clear hx1 hP hrow HPO N1;go_wp2_with fail;go_ret;exact⟨P,rfl,hPw,HR.out,HX.out⟩
theorem tX(t:Bs)(ls:List Bs)(A:Option Addr)(c:Nat)(w:World)(hE:Env w)(hA:RdS w A ls)(ht:t.length<=3000)(htc:checkI t=0)(hW:WtOK ls) :
  Calls prog 70 #[.string (bs t),.slice A ls.length c] w fun e w'=>∃P,e = .returned (.tuple #[.slice (some ⟨P,0,none⟩) ls.length ls.length,.int .i64 0])∧w.heap.size<=P∧RowS w' P ls.length ((bZ (valI t) (ls.map valI)).map ofI)∧Ext w w':=by
 have HX:Hid (Ext w w):=qh (iD w);have HC:=qh (BS t ls A c w hE hA (by omega) htc hW);have HD:=qh (fun W hx=>yY t ls A c W (hE.ext hx) (hA.ext hx) ht hW);clear hE hA ht htc hW;generalize bZ (valI t) (ls.map valI)=sp at *;go_enter func70,ntmps70;go_wp2_with fail;refine HC.out.mono ?_;rintro e w1⟨rfl,hx1⟩;replace HX:=HX.qt hx1;clear hx1;go_wp2_with fail;refine(HD.out _ HX.out).mono ?_;rintro e w3⟨P,rfl,hP,hrow,hx1⟩;have hPw:w.heap.size<=P:=Mx HX.out.size hP;replace HX:=HX.qt hx1;have HR:=qh hrow;clear hx1 hP hrow HD HC;go_wp2_with fail;go_ret2;exact⟨P,rfl,hPw,HR.out,HX.out⟩
end
section
open Go.RowKit
attribute [local go_sem] size_bs toList_bs
theorem nZ:(prog.info? 62).map (fun i=>(i.zero,i.size,i.bytes))=some (some (.agg #[.string ⟨#[]⟩,.string ⟨#[]⟩,.int .i64 0,.int .i64 0,.string ⟨#[]⟩,.string ⟨#[]⟩,.string ⟨#[]⟩]),7,96):=by kernel_rfl
abbrev bK(ls:List LotV):List Value:=ls.flatMap lotCells
theorem pA(ls:List LotV):(bK ls).length=ls.length*7:=by
 induction ls with
 |nil=>rfl
 |cons x r ih=>simp only[bK,OD,Mp,MG]at *;rw[ih,aM];omega
theorem GS(ls:List LotV):∀u ∈ bK ls,u.oneCell'=true:=by
 intro u hu;obtain⟨h,_,hh⟩:=List.mem_flatMap.1 hu;unfold lotCells at hh;simp only[MS,N7,Qg]at hh;rcases hh with rfl|rfl|rfl|rfl|rfl|rfl|rfl <;> rfl
def aE(w:World)(g cap:Nat)(ls:List LotV):Prop:=∃cur,Row w g 62 7 ls.length cap (bK ls) cur
section
variable {w w':World} {g cap:Nat} {ls:List LotV}
theorem aE.lt(h:aE w g cap ls):g<w.heap.size:=by obtain⟨cur,h⟩:=h;exact h.blk.lt
theorem aE.reads(h:aE w g cap ls):aK w (some ⟨g,0,none⟩) ls:=by obtain⟨cur,h⟩:=h;exact h.reads
theorem aE.frozen(h:aE w g cap ls)(k:Nat):w.frozen? ⟨g,k,none⟩=false:=by obtain⟨cur,h⟩:=h;exact h.frozen k
theorem aE.ext(h:aE w g cap ls)(hx:Ext w w'):aE w' g cap ls:=by obtain⟨cur,h⟩:=h;exact⟨cur,h.ext hx⟩
end
def GU(ls:List LotV)(w:World)(e:Ending)(w':World):Prop :=
 ∃A c,e = .returned (.slice A ls.length c)∧Ext w w'∧(0<ls.length->∃g,A=some ⟨g,0,none⟩∧w.heap.size<=g∧aE w' g c ls)
theorem nj(ls:List LotV)(A:Option Addr)(c:Nat)(w:World)(hA:aK w A ls)(hn:ls.length<=1000000) :
  Calls prog 71 #[.slice A ls.length c] w (GU ls w):=by
 obtain⟨i0,hI,hz0,hz1,hz2⟩:=Ny nZ;have HI:=qh hI;clear hI
 cases A with
 |none =>
  have h0:ls=[]:=by
   rcases MB ls.length with h|h
   ·exact My.1 h
   ·obtain⟨b,o,e,_⟩:=hA.2 h;cases e
  subst h0;clear hA;have hnil:∀W:World,(binOp .eql 22 (.slice none 0 c) (.slice none 0 0)).run prog W = .ok (.bool true) W:=fun W=>QF W _ _ _ _ _ _ _ NS
  go_enter func71,ntmps71;go_wp2_with fail;go_ret;exact⟨none,0,rfl,iD _,fun h=>absurd h (by simp)⟩
 |some a =>
  have hnil:∀W:World,(binOp .eql 22 (.slice (some a) ls.length c) (.slice none 0 0)).run prog W = .ok (.bool false) W:=fun W=>QF W _ _ _ _ _ _ _ NS
  rcases MB ls.length with h0|h0
  ·have h1:ls=[]:=My.1 h0;subst h1;simp only[Ns]at hnil;clear hA h0;go_enter func71,ntmps71
   have hr:∀ty,(Builtin.append_ #[22,22] ty #[.slice (some ⟨w.heap.size,0,none⟩) 0 0,.slice (some a) 0 c]).run prog (w.alloc (.cells #[] 62)) = .ok (.slice (some ⟨w.heap.size,0,none⟩) 0 0) (w.alloc (.cells #[] 62)):=fun ty =>
    run_append_room_cells _ _ ty 62 i0 NS HI.out w.heap.size 0 0 0 a 0 c [] (by simp) (by simp) (by simp) (Mn _) (by simp) (by simp)
   go_wp2_with (at_builtin;refine Lib.wpList_append_run _ rfl (.tmp 5) (.tmp 6) _ _ rfl _ _ rfl rfl _ _ (hr _) ?_);go_ret;exact⟨some ⟨w.heap.size,0,none⟩,0,rfl,Id _ _,fun h=>absurd h (by simp)⟩
  ·obtain⟨b,o,e,hb,hc⟩:=hA.2 h0;injection e with e
   subst e
   have HC:Hid (∀j u,(bK ls)[j]? = some u->(w.alloc (.cells #[] 62)).cell? ((⟨b,o,none⟩:Addr).add j)=some u):=qh (fun j u hu=>by
    rw[So];exact((Id w _).cell (p:=⟨b,o+j,none⟩) hb).trans (hc j u hu))
   have HL:Hid ((bK ls).length=ls.length*7):=qh (pA ls);clear hc hA;go_enter func71,ntmps71;go_wp2_with (at_builtin;refine OK _ rfl (.tmp 5) (.tmp 6) 22 rfl w.heap.size 62 i0 _ 7 96 NS HI.out hz0 hz1 hz2 rfl (by decide) _ 0 [] rfl ⟨rfl,.inr ⟨w.heap.size,0,#[],rfl,Mn _,M4 w _,Mn _,by decide,rfl,rfl⟩⟩ ⟨b,o,none⟩ ls.length c (bK ls) rfl HL.out HC.out (GS ls) h0 (by simp only[maxLen];omega) (by omega) (by simp) _ rfl ?_;intro g cap w' hown hgrow hat hlt);go_ret;simp only[MV,ML]at hown;obtain⟨hg,cur,hrow⟩:=Row.of_own hown;exact⟨some ⟨g,0,none⟩,cap,rfl,Ext.only (Id w (.cells #[] 62)) hgrow (Mn _),fun _=>⟨g,rfl,hg,cur,hrow⟩⟩
end
section
open Go.RowKit Go.Lib
attribute [local go_sem] size_bs toList_bs
theorem BU(a b:List LotV):bK (a++b)=bK a++bK b:=by simp[bK]
theorem rA(x:LotV):∀u ∈ lotCells x,u.oneCell'=true:=by
 intro u hu;unfold lotCells at hu;simp only[MS,N7,Qg]at hu;rcases hu with rfl|rfl|rfl|rfl|rfl|rfl|rfl <;> rfl
def pB(w:World)(base:Nat)(v:Value)(ls:List LotV):Prop:=w.ownsRow base 62 7 v ls.length (bK ls)
end
section
open Go.RowKit
attribute [local go_sem] size_bs toList_bs
def gv(ch:Nat->LotV->LotV)(ins:Bs):Nat->List LotV->List LotV
 |_,[]=>[]
 |n,x :: r=>if x.ins=ins then ch n x :: gv ch ins (n+1) r else x :: gv ch ins n r
section
variable {ch:Nat->LotV->LotV} {ins:Bs}
theorem eV(x:LotV)(r:List LotV):ofL (x :: r) ins=if x.ins=ins then x :: ofL r ins else ofL r ins:=by
 unfold ofL;rw[St];simp
theorem mD(l r:List LotV):ofL (l++r) ins=ofL l ins++ofL r ins:=by unfold ofL;rw[PM]
theorem oh(n:Nat)(l:List LotV):(gv ch ins n l).length=l.length:=by
 induction l generalizing n with
 |nil=>rfl
 |cons x r ih=>unfold gv;split <;> simp[ih]
theorem tY(n:Nat)(l:List LotV)(x:LotV):gv ch ins n (l++[x])=gv ch ins n l++[if x.ins=ins then ch (n+(ofL l ins).length) x else x]:=by
 induction l generalizing n with
 |nil=>simp[gv,ofL];split <;> rfl
 |cons y r ih =>
  rw[MZ];unfold gv;rw[eV];by_cases h:y.ins=ins
  ·simp only[h,if_true,MZ,ih,MG];rw[show n+1+(ofL r ins).length=n+((ofL r ins).length+1) by omega]
  ·simp only[h,if_false,MZ,ih]
def fF(ch:Nat->LotV->LotV)(ins:Bs)(ls:List LotV)(k:Nat):List LotV:=gv ch ins 0 (ls.take k)++ls.drop k
variable {ls:List LotV} {k:Nat}
theorem yZ:fF ch ins ls 0=ls:=by simp[fF,gv]
theorem zb(h:ls.length<=k):fF ch ins ls k=gv ch ins 0 ls:=by simp[fF,Mv h,Nt h]
theorem BV:(fF ch ins ls k).length=ls.length:=by simp[fF,oh];omega
theorem wJ(h:k<ls.length)(h':k<(fF ch ins ls k).length):(fF ch ins ls k)[k]'h'=ls[k]'h:=by
 have e:(gv ch ins 0 (ls.take k)).length=k:=by rw[oh,Mu];omega
 have h1:(fF ch ins ls k)[k]? = some (ls[k]'h):=by
  unfold fF;rw[NK (by omega),e,Pq,MR h];rfl
 rw[Mr h']at h1;injection h1
theorem BW(h:k<ls.length)(hi:(ls[k]'h).ins=ins):(fF ch ins ls k).set k (ch (ofL (ls.take k) ins).length (ls[k]'h))=fF ch ins ls (k+1):=by
 have e:(gv ch ins 0 (ls.take k)).length=k:=by rw[oh,Mu];omega
 unfold fF;rw[Nx _ _ (by omega),e,Pq,Mo h,tY,Mq hi,Mz,MV];congr 1
 rw[MR h];rfl
theorem ze(h:k<ls.length)(hi:¬ (ls[k]'h).ins=ins):fF ch ins ls k=fF ch ins ls (k+1):=by
 unfold fF;rw[Mo h,tY,Mj hi,Mz];congr 1
 rw[MR h];rfl
theorem GW(h:k<ls.length)(hi:(ls[k]'h).ins=ins):(ofL ls ins)[(ofL (ls.take k) ins).length]? = some (ls[k]'h):=by
 have e:ofL ls ins=ofL (ls.take k) ins++ofL (ls.drop k) ins:=by rw[←mD,MP]
 rw[e,NK (Mn _),Pq,MR h,eV,Mq hi];rfl
theorem vQ(h:k<ls.length)(hi:(ls[k]'h).ins=ins):(ofL (ls.take (k+1)) ins).length=(ofL (ls.take k) ins).length+1:=by
 rw[Mo h,mD,eV,Mq hi];simp[ofL]
theorem tZ(h:k<ls.length)(hi:¬ (ls[k]'h).ins=ins):(ofL (ls.take (k+1)) ins).length=(ofL (ls.take k) ins).length:=by
 rw[Mo h,mD,eV,Mj hi];simp[ofL]
end
theorem eh{w:World}{g:Nat}{t:TypeId}{cs cs':Array Value}(h:Blk w g t cs)(h':Blk w g' t' cs')(hne:t≠t'):g≠g':=by
 rintro rfl;unfold Blk at h h';rw[h]at h';injection h' with h'
 injection h' with _ h2 _
 exact hne h2
theorem lH(qs:List Bs){n:Nat}{x:Bs}(h:qs[n]? = some x):scells (qs.take n)++[.string (bs x)]=scells (qs.take (n+1)):=by
 obtain⟨hn,hx⟩:=Nk.1 h;rw[Mo hn,hx];simp[scells]
end
section
open Go.RowKit Go.Shelf
attribute [local go_sem] size_bs toList_bs Oper.semAt_some
def qm(ls:List LotV)(ins:Bs)(w:World)(e:Ending)(w':World):Prop:=∃A c,e = .returned (.slice A (ofL ls ins).length c)∧pB w' w.heap.size (.slice A (ofL ls ins).length c) (ofL ls ins)∧(ofL ls ins).length<=c∧Ext w w'
structure CoAt (w:World) (B:Nat) (lp:Loop) (ls:List LotV) (A:Option Addr) (c:Nat) (ins:Bs) (k:Nat) (W:World):Prop where
 ext:Ext w W
 o:∃v,Blk W w.heap.size 22 #[v]∧pB W w.heap.size v (ofL (ls.take k) ins)
 l:Blk W B 22 #[.slice A ls.length c]
 i:Blk W (B+1) 9 #[.string (bs ins)]
 D:W.heap[w.heap.size+1]? = some (.deferred (some []))
 L:W.heap[w.heap.size+1+1]? = some (.loop lp)
theorem rB{w:World}{size n:Nat}{lp lp':Loop}(h:w.ownsRow base e size v n xs)(hl:w.heap[l]? = some (.loop lp)):(w.putObj l (.loop lp')).ownsRow base e size v n xs:=by
 refine⟨h.1,?_⟩;rcases h.2 with h2 | ⟨g,cap,cur,h1,h2,h3,h4,h5⟩
 ·exact .inl h2
 ·refine .inr ⟨g,cap,cur,h1,h2,?_,h4,h5⟩;have hne:g≠l:=by rintro rfl;rw[hl]at h3;cases h3
  rw[OL hne];exact h3
theorem sD{w:World}{size n:Nat}(h:w.ownsRow base e size v n xs)(hb:b<=base):w.ownsRow b e size v n xs:=by
 refine⟨h.1,?_⟩;rcases h.2 with h2 | ⟨g,cap,cur,h1,h2,h3⟩
 ·exact .inl h2
 ·exact .inr ⟨g,cap,cur,h1,Mx hb h2,h3⟩
theorem kH{w:World}{size n:Nat}{o:Obj}(h:w.ownsRow base e size v n xs)(hl:w.heap[l]? = some (.deferred (some []))):(w.putObj l o).ownsRow base e size v n xs:=by
 refine⟨h.1,?_⟩;rcases h.2 with h2 | ⟨g,cap,cur,h1,h2,h3,h4,h5⟩
 ·exact .inl h2
 ·refine .inr ⟨g,cap,cur,h1,h2,?_,h4,h5⟩;have hne:g≠l:=by rintro rfl;rw[hl]at h3;cases h3
  rw[OL hne];exact h3
theorem rC{w:World}{size n:Nat}{lp:Loop}(h:w.ownsRow base e size v n xs)(hl:w.heap[l]? = some (.loop lp)):v.ownBlock≠some l:=by
 rcases h.2 with ⟨rfl,_⟩ | ⟨g,cap,cur,rfl,_,h3,_⟩
 ·simp[Value.ownBlock]
 ·intro he;have:g=l:=by simpa[Value.ownBlock] using he
  subst this
  rw[hl]at h3;cases h3
theorem rD{w:World}{size n:Nat}(h:w.ownsRow base e size v n xs)(hl:w.heap[l]? = some (.deferred (some []))):v.ownBlock≠some l:=by
 rcases h.2 with ⟨rfl,_⟩ | ⟨g,cap,cur,rfl,_,h3,_⟩
 ·simp[Value.ownBlock]
 ·intro he;have:g=l:=by simpa[Value.ownBlock] using he
  subst this
  rw[hl]at h3;cases h3
section
variable {w:World} {B:Nat} {lp lp':Loop} {ls:List LotV} {A:Option Addr} {c:Nat} {ins:Bs} {k:Nat} {W W':World}
theorem CoAt.on(h:CoAt w B lp ls A c ins k W)(hx:Ext W W'):CoAt w B lp ls A c ins k W':=by
 obtain⟨v,h1,h2⟩:=h.o;exact⟨h.ext.trans hx,⟨v,h1.ext hx,own_ext2 h2 hx⟩,h.l.ext hx,h.i.ext hx,eB h.D hx,eB h.L hx⟩
theorem CoAt.put(h:CoAt w B lp ls A c ins k W)(hB:B+1<w.heap.size):CoAt w B lp' ls A c ins k (W.putObj (w.heap.size+1+1) (.loop lp')):=by
 obtain⟨v,h1,h2⟩:=h.o;exact⟨h.ext.putObj (by omega) _,⟨v,h1.put _ (by omega),rB h2 h.L⟩,h.l.put _ (by omega),h.i.put _ (by omega),mz h.D (by omega),PK (MD.1 h.L).1⟩
theorem CoAt.skip(h:CoAt w B lp ls A c ins k W)(hk:k<ls.length)(hne:(ls[k]'hk).ins≠ins):CoAt w B lp ls A c ins (k+1) W :=
 ⟨h.ext,by rw[jN hk hne];exact h.o,h.l,h.i,h.D,h.L⟩
theorem CoAt.hit{x:LotV}{w':World}(h:CoAt w B lp ls A c ins k W)(hB:B+1<w.heap.size)(hb:Blk W w.heap.size 22 #[v])(ho:pB W w.heap.size v (ofL (ls.take k) ins))(hgrow:W.grownBy w' v.ownBlock)
  (hown':w'.ownsRow w.heap.size 62 7 v' ((ofL (ls.take k) ins).length+1) (bK (ofL (ls.take k) ins)++lotCells x)) (hq:ofL (ls.take (k+1)) ins=ofL (ls.take k) ins++[x]) :
  CoAt w B lp ls A c ins (k+1) (w'.setCell ⟨w.heap.size,0,none⟩ v'):=by
 have keep:∀ {g:Nat} {t:TypeId} {cs:Array Value},Blk W g t cs->t≠62->Blk w' g t cs:=fun {g t cs} hb hne =>
  (hgrow.block g hb.lt (fun e=>gC ho hb hne.symm e.symm)).trans hb
 have hb':=keep hb (by decide);have hDl:=(MD.1 h.D).1;have hLl:=(MD.1 h.L).1;refine⟨(Ext.grown h.ext hgrow (own_base ho)).setCell (p:=⟨w.heap.size,0,none⟩) (Mn _) _,⟨v',hb'.set_ 0 _,?_⟩,(keep h.l (by decide)).far (p:=⟨w.heap.size,0,none⟩) (by dsimp only;omega) _,(keep h.i (by decide)).far (p:=⟨w.heap.size,0,none⟩) (by dsimp only;omega) _,eM ?_ (by omega),eM ?_ (by omega)⟩
 ·unfold pB;rw[hq,Mp,BU];have e1:bK [x]=lotCells x:=by simp[bK]
  rw[e1];exact fW hown' (gC hown' hb' (by decide)) _
 ·exact(hgrow.block _ hDl (fun e=>rD ho h.D e.symm)).trans h.D
 ·exact(hgrow.block _ hLl (fun e=>rC ho h.L e.symm)).trans h.L
end
theorem GX(ls:List LotV)(A:Option Addr)(c:Nat)(ins:Bs)(w:World)(B:Nat)(hA:aK w A ls)(hn:ls.length<=100000)(bl:Blk w B 22 #[.slice A ls.length c])(bi:Blk w (B+1) 9 #[.string (bs ins)]) :
  Calls prog 178 #[.slice none 0 0,.func (.func 126) #[] #[.pointer (some ⟨B,0,none⟩),.pointer (some ⟨B+1,0,none⟩)]] w (qm ls ins w):=by
 have hfn:∀k,Fence.wide.fn k:=fun _=>trivial
 have hdp:Fence.wide.depth.isSome=false:=rfl;have HA:=qh hA;have BL:=qh bl;have BI:=qh bi;have hlt:=bi.lt;obtain⟨i0,hI,hz0,hz1,hz2⟩:=Ny nZ;have HI:=qh hI;clear hA bl bi hI;refine(Nu (n:=5)).1 ?_;refine Qk func178 rfl trivial ?_ rfl;simp only[ntmps178,Nh,MG,Ns,Nat.reduceAdd,Nat.reduceSub,Ov,Ow,OU,OA,ML,MZ];gi_wp2_with fail;refine fI rfl (by omega) (w.heap.size+1) (by simp) rfl trivial (fun _ _=>by rfl) ?_;intro fn lp W1 hlp hW1 _
 have h0:CoAt w B lp ls A c ins 0 W1:=by
  subst hW1;refine⟨((Id w _).alloc _).alloc _,⟨.slice none 0 0,((Mf _ _ _ _ rfl).alloc _).alloc _,NF _ _ _ _⟩,((BL.out.alloc _).alloc _).alloc _,((BI.out.alloc _).alloc _).alloc _,?_,?_⟩
  ·exact qc (newAt _ _ _ (by simp))
  ·exact newAt _ _ _ (by simp)
 refine(yK 4 (w.heap.size+1+1) B w ls A c ins HA.out (by omega) (CoAt w B lp ls A c ins) (fun k W h=>⟨h.ext,h.l,h.i⟩) (fun k W W' h hx=>h.on hx) ?hY (fun k hk W hne h=>h.skip hk hne) W1 h0).mono ?_
 case hY =>
  intro k hk W he h;have e1:=M6 Loop.assign hlp;have e2:=M6 Loop.body hlp;have e3:=M6 Loop.tmps hlp;have e4:=M6 Loop.params hlp;have e5:{ lp with state := .ready,pending:=none }=lp:=by rw[hlp];rfl
  obtain⟨lb,hlb⟩:∃lb,{ lp with state := .busy }=lb:=⟨_,rfl⟩;simp only[gL]at e1 e2 e3 e4;refine iM (rec:=lp) h.L (by rw[hlp];rfl) (by rw[hlp];rfl) trivial e1 e2 e4 e3 (GF _ _ _) hlb ?_;clear e1 e2 e3 e4 hlp hW1 h0;have HXN:Hid (Ext W (W.alloc (.cells (lc (ls[k]'hk)) 62))):=qh (Id _ _);have HL0:=qh (h.on HXN.out).L;have HP:=qh ((h.on HXN.out).put (lp':=lb) hlt);have HBX:=qh ((ID W 62 (lc (ls[k]'hk))).put (.loop lb) (l:=w.heap.size+1+1) (by have:=(MD.1 h.L).1;omega));have HLB:=qh hlb;have HE5:=qh e5;have HQ:=qh (kD hk he);clear h hlb e5 he;generalize ls[k]'hk=x at *;gi_wp2
  refine⟨HL0.out,?_⟩;generalize hXX:W.heap.size=X at *;have hXw:w.heap.size+1<X:=by have:=(MD.1 HL0.out).1;simp only[Qe]at this;omega
  clear hXX;generalize (W.alloc (.cells (lc x) 62)).putObj (w.heap.size+1+1) (.loop lb)=Wb at *;have HPB:=qh (HP.out.on (Id Wb (.cells (lc x) 62)));obtain⟨v,ob,ow⟩:=HP.out.o;have q0:=ob.cell 0;simp only[Mk,Mm]at q0;have OB:=qh (ob.alloc (.cells (lc x) 62));have OW:=qh (own_ext2 ow (Id Wb (.cells (lc x) 62)));have hsz:=HPB.out.ext.size;have hln:(ofL (ls.take k) ins).length<=100000:=Mx rx hn;clear ob ow;obtain⟨x0,x1,x2,x3,x4,x5,x6⟩:=ap HBX.out (iD Wb);gi_wp2_with (gi_at_builtin;refine QT _ rfl (.tmp 8) (.tmp 10) 22 rfl w.heap.size 62 i0 _ 7 96 NS HI.out hz0 hz1 hz2 rfl (by decide) v _ _ rfl OW.out ⟨Wb.heap.size,0,none⟩ 1 1 (lotCells x) rfl rfl (M7 (M4 Wb _)) (rA x) (by simp only[maxLen];omega) (by omega) hsz ?_;intro v2 w' hown' hgrow hnil;(obtain⟨A2,c2,rfl⟩:=aF hown');clear hnil;(have HT:=qh (HPB.out.hit hlt OB.out OW.out hgrow hown' HQ.out));(have hbG:Blk w' w.heap.size 22 #[v]:=(hgrow.block w.heap.size OB.out.lt (fun e=>gC OW.out OB.out (by decide) e.symm)).trans OB.out);(have d0:=boxCell hbG);(have d1:=hbG.frozen 0));refine⟨by rw[HLB.out];exact HT.out.L,rfl,?_⟩;rw[HE5.out];exact HT.out.put hlt
 rintro e W⟨hv,h⟩;refine⟨hv,.inl ⟨h.L,?_⟩⟩;have hP:=h.put (lp':={ lp with state := .exhausted }) hlt;generalize W.putObj (w.heap.size+1+1) (.loop { lp with state := .exhausted })=W3 at *;clear h hv hW1 hlp W1 h0;obtain⟨v,ob,ow⟩:=hP.o;rw[MK]at ow;have q0:=ob.cell 0;simp only[Mk,Mm]at q0;obtain⟨A2,c2,rfl⟩:=aF ow;have HOW:=qh ow;have HP:=qh hP;clear hP ow ob;gi_wp2
 refine⟨by simp,.inl ⟨_,_,rfl,QN HP.out.D,?_⟩⟩;refine⟨.slice A2 (ofL ls ins).length c2,by simp[results,results178,go_sem],?_⟩;exact⟨A2,c2,rfl,kH HOW.out HP.out.D,(own_cap HOW.out).1,HP.out.ext.putObj (by omega) _⟩
theorem xN(ls:List LotV)(A:Option Addr)(c:Nat)(ins:Bs)(w:World)(B:Nat)(hA:aK w A ls)(hn:ls.length<=100000)(bl:Blk w B 22 #[.slice A ls.length c])(bi:Blk w (B+1) 9 #[.string (bs ins)]) :
  Calls prog 98 #[.func (.func 126) #[] #[.pointer (some ⟨B,0,none⟩),.pointer (some ⟨B+1,0,none⟩)]] w (qm ls ins w):=by
 have HS:=qh (GX ls A c ins w B hA hn bl bi);clear hA bl bi;go_enter func98,ntmps98;go_wp2_with fail;refine HS.out.mono ?_;rintro e w1⟨A2,c2,rfl,h1,h2,h3⟩;have HR:=qh (MC h1 (MC h2 h3));clear h1 h2 h3;go_wp2_with fail;go_ret;exact⟨A2,c2,rfl,HR.out⟩
theorem nk(ls:List LotV)(A:Option Addr)(c:Nat)(ins:Bs)(w:World)(hA:aK w A ls)(hn:ls.length<=100000) :
  Calls prog 29 #[.slice A ls.length c,.string (bs ins)] w (qm ls ins w):=by
 have HA:=qh hA;clear hA;go_enter func29,ntmps29;go_wp2_with fail;refine(Ei A _ c ins _).mono ?_;rintro e w1⟨rfl,hw1⟩;have HX:Hid (Ext w w1):=qh (by rw[hw1];exact(Id _ _).alloc _);have B0:Hid (Blk w1 w.heap.size 22 #[.slice A ls.length c]):=qh (by rw[hw1];exact(ID _ _ _).alloc _);have B1:Hid (Blk w1 (w.heap.size+1) 9 #[.string (bs ins)]):=qh (by rw[hw1];exact Mf _ _ _ _ (by simp));clear hw1;go_wp2_with fail;refine(xN ls A c ins w1 w.heap.size (HA.out.ext HX.out) hn B0.out B1.out).mono ?_;rintro e w2⟨A2,c2,rfl,h1,h2,h3⟩;have HR:=qh (MC (sD h1 HX.out.size) (MC h2 (HX.out.trans h3)));clear h1 h2 h3;go_wp2_with fail;go_ret;exact⟨A2,c2,rfl,HR.out⟩
end
section
open Go.RowKit Go.Shelf
attribute [local go_sem] size_bs toList_bs
theorem Ej(n:Nat)(A:Option Addr)(c:Nat)(t:Bs)(W:World) :
  Calls prog 125 #[.slice A n c,.string (bs t)] W fun e w'=>e = .returned (.func (.func 198) #[] #[.pointer (some ⟨W.heap.size,0,none⟩),.pointer (some ⟨W.heap.size+1,0,none⟩)])∧w'=(W.alloc (.cells #[.slice A n c] 22)).alloc (.cells #[.string (bs t)] 24):=by
 go_enter func125,ntmps125;go_wp2_with fail;go_ret;exact⟨by simp,rfl⟩
end
end Go.Proofs.YtaegjkllenlfpaaGreatDoor
