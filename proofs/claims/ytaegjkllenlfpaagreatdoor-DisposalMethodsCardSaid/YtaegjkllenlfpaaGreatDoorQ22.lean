/- The seat's texts, part Q22. -/
import Derived.Test.YtaegjkllenlfpaaGreatDoorQ10
import Derived.Test.YtaegjkllenlfpaaGreatDoorQ20
import Derived.Test.YtaegjkllenlfpaaGreatDoorQ21
import Derived.BigQuiet
import Derived.BigRegion
set_option maxRecDepth 100000
set_option maxHeartbeats 8000000
namespace Go.Proofs.YtaegjkllenlfpaaGreatDoor
variable {x y:LotV}{c id d s n q:Bs}{k:Nat}{A B m X U M V Y:List LotV}{ps:List Fr}{os:List OptV}
section
open Go.RowKit
attribute [local go_sem] size_bs toList_bs
def jL(n:Nat):Bool:=(decide (12<(n:Int)) && decide ((n:Int)<999)) || decide (1002<(n:Int))
def bG(ls:List LotV):Bool:=jL ls.length || ls.any fj
theorem zN(ls:List LotV)(A:Option Addr)(c:Nat)(w:World)(hA:aG w A ls)(_hn:ls.length<=4611686018427387904) :
  Calls Tryz.prog 50 #[.slice A ls.length c] w fun e w'=>e = .returned (.bool (bG ls))∧Ext w w':=by
 have HA:=qh hA;clear hA;by_cases h:jL ls.length=true
 ·have HG:Hid (bG ls=true):=qh (by unfold bG;rw[h];rfl);unfold jL at h;go_enter Tryz.func50,Tryz.ntmps50
  cases a1:decide (12<(ls.length:Int)) <;> cases a2:decide ((ls.length:Int)<999) <;> cases a3:decide (1002<(ls.length:Int)) <;> simp only[a1,a2,a3]at h
  all_goals first
   |(exact absurd h (by decide))
   |(clear h
     go_wp2_with fail;go_ret;exact⟨by rw[HG.out];rfl,Ext.refl _⟩)
 ·have HG:Hid (bG ls=ls.any fj):=qh (by unfold bG;rw[Bool.not_eq_true]at h;rw[h];rfl);rw[Bool.not_eq_true]at h
  have hn:ls.length<=1002:=by
   have h2:=h;simp only[jL,Bool.or_eq_false_iff,decide_eq_false_iff_not]at h2;omega
  unfold jL at h;go_enter Tryz.func50,Tryz.ntmps50
  cases a1:decide (12<(ls.length:Int)) <;> cases a2:decide ((ls.length:Int)<999) <;> cases a3:decide (1002<(ls.length:Int)) <;> simp only[a1,a2,a3]at h
  all_goals first
   |(exact absurd h (by decide))
   |skip
  all_goals
   clear h;go_wp2_with fail;go_loopw [3] (fun i wr=>∃k:Nat,k<=ls.length∧i = .int .i64 k∧(∀x ∈ ls.take k,fj x=false)∧Ext w wr) (fun i _=>ls.length-(intOf i).toNat)
   case atStart=>exact⟨0,by omega,rfl,by simp,Ext.refl _⟩
   case round =>
    clear a1 a2 a3;obtain⟨k,hk,rfl,hz,hx⟩:=hrel;have HZ:=qh hz;have HX:=qh hx;clear hz hx;by_cases hlt:k<ls.length
    ·obtain⟨b,o,rfl,hb,c0,c1,c2,c3,c4,c5,c6⟩:=(HA.out.ext HX.out).at_ hlt;have HC:=qh (fun W=>tZ (ls[k]'hlt) W)
     cases hg:fj (ls[k]'hlt)
     ·rw[hg]at HC
      have HT:Hid (∀x ∈ ls.take (k+1),fj x=false):=qh (by
       intro x hx;rw[List.take_succ_eq_append_getElem hlt]at hx;rcases List.mem_append.1 hx with h|h
       ·exact HZ.out x h
       ·rw[List.mem_singleton.1 h];exact hg)
      clear hg;generalize (ls[k]'hlt)=x at *;go_wp2_with fail;refine(HC.out _).mono ?_;rintro e w1⟨rfl,hx1⟩;replace HX:=HX.qt hx1;clear hx1;go_wp2_with fail;go_roundw
      case rel=>exact⟨k+1,by omega,by go_num,HT.out,HX.out⟩
      case measure=>simp[intOf];omega
     ·rw[hg]at HC;have HT:Hid (ls.any fj=true):=qh (List.any_eq_true.2 ⟨_,List.getElem_mem hlt,hg⟩);clear hg;generalize (ls[k]'hlt)=x at *;go_wp2_with fail;refine(HC.out _).mono ?_;rintro e w1⟨rfl,hx1⟩;replace HX:=HX.qt hx1;clear hx1;go_wp2_with fail;go_ret;exact⟨by rw[HG.out,HT.out];rfl,HX.out⟩
    ·have HT:Hid (ls.any fj=false):=qh (by
      have h:=HZ.out;rw[List.take_of_length_le (by omega)]at h;rw[List.any_eq_false];intro x hx;rw[h x hx];simp)
     go_wp2_with fail;go_ret;exact⟨by rw[HG.out,HT.out];rfl,HX.out⟩
end
section
open Go.RowKit
theorem fI(h:fj x=false):x.q.length<=13∧x.c.length<=13∧x.u.length<=13∧x.id.length<=40∧x.ins.length<=40:=by
 unfold fj i8 at h;simp only[Bool.or_eq_false_iff,decide_eq_false_iff_not]at h;omega
theorem cI{ls:List LotV}(h:bG ls=false):ls.length<=1002∧∀x ∈ ls,fj x=false:=by
 unfold bG jL at h;simp only[Bool.or_eq_false_iff,decide_eq_false_iff_not,List.any_eq_false,Bool.not_eq_true]at h;exact⟨by omega,h.2⟩
theorem bM{ls:List LotV}(h:bG ls=false):∀x ∈ ls,SmallL x:=fun x hx=>by
 have:=fI ((cI h).2 x hx);refine⟨?_,?_,?_,?_,?_⟩ <;> omega
theorem bH{ls:List LotV}{ins:Bs}(h:x ∈ ofL ls ins):x ∈ ls∧x.ins=ins:=by
 have:=List.mem_filter.1 h;exact⟨this.1,by simpa using this.2⟩
theorem nV{ls:List LotV}{ins:Bs}(h:checkAllL ls=0)(hl:0<(ofL ls ins).length):0<totQ ls ins:=by
 refine uK _ ?_ (by rw[List.length_map];exact hl);intro v hv;obtain⟨x,hx,rfl⟩:=List.mem_map.1 hv;exact(bh ((ap h).2 x (bH hx).1)).2.2.1
theorem ue{ls:List LotV}{ins:Bs}(h:checkAllL ls=0):0<=totC ls ins:=by
 refine dY _ ?_;intro v hv;obtain⟨x,hx,rfl⟩:=List.mem_map.1 hv;exact(bh ((ap h).2 x (bH hx).1)).2.2.2.1
theorem qO{ls:List LotV}{ins:Bs}(h:checkAllL ls=0):totQ ls ins=0↔(ofL ls ins).length=0:=by
 constructor
 ·intro h0;rcases Nat.eq_zero_or_pos (ofL ls ins).length with k|k
  ·exact k
  ·have:=nV h k;omega
 ·intro h0;have:=List.length_eq_zero_iff.1 h0;unfold totQ;rw[this];rfl
def nW(ch:Nat->LotV->LotV):Nat->List LotV->List LotV
 |_,[]=>[]
 |n,x :: r=>ch n x :: nW ch (n+1) r
theorem pV{ch:Nat->LotV->LotV}{ins:Bs}(hch:∀n x,(ch n x).ins=x.ins):∀(l:List LotV) (n:Nat),ofL (eZ ch ins n l) ins=nW ch n (ofL l ins)
 |[],_=>rfl
 |x :: r,n=>by
  unfold eZ;by_cases h:x.ins=ins
  ·rw[if_pos h,da,if_pos (by rw[hch];exact h),da,if_pos h,pV hch r];rfl
  ·rw[if_neg h,da,if_neg h,da,if_neg h,pV hch r]
theorem sI{α:Type}{ch:Nat->LotV->LotV}{f:LotV->α}(hf:∀n x,f (ch n x)=f x):∀(l:List LotV) (n:Nat),(nW ch n l).map f=l.map f
 |[],_=>rfl
 |x :: r,n=>by simp[nW,hf,sI hf r]
theorem pW{α:Type}{ch:Nat->LotV->LotV}{ins:Bs}{f:LotV->α}(hf:∀n x,f (ch n x)=f x):∀(l:List LotV) (n:Nat),(eZ ch ins n l).map f=l.map f
 |[],_=>rfl
 |x :: r,n=>by
  unfold eZ;split
  ·simp[hf,pW hf r]
  ·simp[pW hf r]
theorem pX{ch:Nat->LotV->LotV}{ins:Bs}:∀(l:List LotV) (n:Nat),x ∈ eZ ch ins n l->(x ∈ l∧x.ins≠ins)∨∃k y,y ∈ l∧y.ins=ins∧x=ch k y∧n<=k∧k<n+(ofL l ins).length
 |[],_,h=>by cases h
 |y :: r,n,h=>by
  unfold eZ at h;rw[da];by_cases e:y.ins=ins
  ·rw[if_pos e]at h;rw[if_pos e,List.length_cons];rcases List.mem_cons.1 h with rfl|h
   ·exact .inr ⟨n,y,by simp,e,rfl,by omega,by omega⟩
   ·rcases pX r (n+1) h with ⟨k,ne⟩ | ⟨k,z,hz,hi,he,h1,h2⟩
    ·exact .inl ⟨List.mem_cons_of_mem _ k,ne⟩
    ·exact .inr ⟨k,z,List.mem_cons_of_mem _ hz,hi,he,by omega,by omega⟩
  ·rw[if_neg e]at h;rw[if_neg e];rcases List.mem_cons.1 h with rfl|h
   ·exact .inl ⟨by simp,e⟩
   ·rcases pX r n h with ⟨k,ne⟩ | ⟨k,z,hz,hi,he,h1,h2⟩
    ·exact .inl ⟨List.mem_cons_of_mem _ k,ne⟩
    ·exact .inr ⟨k,z,List.mem_cons_of_mem _ hz,hi,he,h1,h2⟩
def iA(ss:List Bs)(n:Nat)(x:LotV):LotV:={ x with c:=ss.getD n [] }
theorem km{ls:List LotV}{ins:Bs}(h:(ofL ls ins).length≠0):bS ls ins=eZ (iA (cG ls ins)) ins 0 ls:=by
 unfold bS;rw[if_neg h];rfl
theorem iB{ls:List LotV}{ins:Bs}(h:(ofL ls ins).length=0):bS ls ins=ls:=by unfold bS;rw[if_pos h]
theorem o9(ss:List Bs):∀(l:List LotV) (n:Nat),n+l.length=ss.length->(nW (iA ss) n l).map (·.c)=ss.drop n
 |[],n,h=>by
  rw[List.drop_of_length_le (by simp at h;omega)];rfl
 |x :: r,n,h=>by
  have hn:n<ss.length:=by simp at h;omega
  simp only[nW,List.map_cons];rw[o9 ss r (n+1) (by simp at h ⊢;omega),List.drop_eq_getElem_cons hn];congr 1
  show ss.getD n []=_;rw[List.getD_eq_getElem?_getD,List.getElem?_eq_getElem hn];rfl
section
variable {ls:List LotV} {ins:Bs}
theorem zO{α:Type}{f:LotV->α}(hf:∀n x,f (iA (cG ls ins) n x)=f x):(bS ls ins).map f=ls.map f:=by
 by_cases h:(ofL ls ins).length=0
 ·rw[iB h]
 ·rw[km h];exact pW hf ls 0
theorem sJ:ofL (bS ls ins) ins=nW (iA (cG ls ins)) 0 (ofL ls ins):=by
 by_cases h:(ofL ls ins).length=0
 ·rw[iB h,List.length_eq_zero_iff.1 h];rfl
 ·rw[km h];exact pV (ch:=iA (cG ls ins)) (fun _ _=>rfl) ls 0
theorem zP:dN (bS ls ins) ins=dN ls ins:=by
 unfold dN;rw[sJ];exact sI (ch:=iA (cG ls ins)) (fun _ _=>rfl) _ _
theorem mQ(ls:List LotV)(ins:Bs):totQ ls ins=((dN ls ins).map valI).sum:=by
 unfold totQ dN;rw[List.map_map];rfl
theorem xH:totQ (bS ls ins) ins=totQ ls ins:=by rw[mQ,mQ,zP]
theorem CJ:(cG ls ins).map valI=bU (totC ls ins) ((dN ls ins).map valI):=by
 unfold cG;rw[List.map_map];have:(valI ∘ ofI)=id:=by funext z;exact valI_ofI z
 rw[this,List.map_id]
theorem vV:(ofL (bS ls ins) ins).map (·.c)=cG ls ins:=by
 rw[sJ,o9 _ _ 0 (by rw[mP];omega),List.drop_zero]
theorem xI(hv:checkAllL ls=0):totC (bS ls ins) ins=totC ls ins:=by
 by_cases h:(ofL ls ins).length=0
 ·rw[iB h]
 ·have e:totC (bS ls ins) ins=((ofL (bS ls ins) ins).map (·.c) |>.map valI).sum:=by unfold totC;rw[List.map_map];rfl
  rw[e,vV,CJ];exact lm (by rw[←mQ];exact nV hv (by omega))
theorem uf(h:checkL x=0)(h1:checkI c=0)(h2:0<=valI c):checkL { x with c:=c }=0:=by
 have hk:=bh h;unfold checkL at h ⊢;split at h
 ·cases h
 split at h
 ·cases h
 split at h
 ·cases h
 split at h
 ·cases h
 split at h
 ·cases h
 rename_i a1 a2 a3 a4 a5
 rw[if_neg a1,if_neg a2,if_neg a3,if_neg (by simp only[not_or,Decidable.not_not]at a4 ⊢;exact⟨a4.1,h1,a4.2.2⟩),if_neg (by simp only[not_or]at a5 ⊢;exact⟨a5.1,by omega,a5.2.2⟩)]
theorem EY(hv:checkAllL ls=0)(hl:0<(ofL ls ins).length){a:Bs}(h:a ∈ cG ls ins):∃v:Int,a=ofI v∧0<=v∧v<=totC ls ins:=by
 obtain⟨v,hv',rfl⟩:=List.mem_map.1 h;have hT:=ue (ins:=ins) hv;have e:bU (totC ls ins) ((dN ls ins).map valI)=be (totC ls ins) ((dN ls ins).map valI):=by unfold bU;rw[if_neg (by omega)]
 rw[e]at hv';have hS:0<((dN ls ins).map valI).sum:=by rw[←mQ];exact nV hv hl
 have hnn:=l7 hT (fun x hx=>by
  obtain⟨q,hq,rfl⟩:=List.mem_map.1 hx;obtain⟨y,hy,rfl⟩:=List.mem_map.1 hq;exact Int.le_of_lt (bh ((ap hv).2 y (bH hy).1)).2.2.1) hS
 have hs:=ll (T:=totC ls ins) hS;refine⟨v,rfl,hnn v hv',?_⟩;rw[←hs];clear e hs;generalize be (totC ls ins) ((dN ls ins).map valI)=l at *;induction l with
 |nil=>cases hv'
 |cons a r ih =>
  rw[List.sum_cons];have h0:=hnn a (by simp);have h1:=dY r (fun x hx=>hnn x (by simp[hx]));rcases List.mem_cons.1 hv' with rfl|hm
  ·omega
  ·have:=ih hm (fun x hx=>hnn x (by simp[hx]));omega
theorem nX(hv:checkAllL ls=0)(h:x ∈ bS ls ins):x ∈ ls∨∃y v,y ∈ ls∧x={ y with c:=ofI v }∧0<=v∧v<=totC ls ins:=by
 by_cases h0:(ofL ls ins).length=0
 ·rw[iB h0]at h;exact .inl h
 ·rw[km h0]at h;rcases pX ls 0 h with ⟨k,_⟩ | ⟨k,y,hy,hi,rfl,_,h2⟩
  ·exact .inl k
  ·have hk:k<(cG ls ins).length:=by rw[mP];omega
   have hm:(cG ls ins).getD k [] ∈ cG ls ins:=by rw[List.getD_eq_getElem?_getD,List.getElem?_eq_getElem hk];exact List.getElem_mem _
   obtain⟨v,e,h1,h3⟩:=EY hv (by omega) hm;refine .inr ⟨y,v,hy,?_,h1,h3⟩;unfold iA;rw[e]
theorem vW(hv:checkAllL ls=0):∀x ∈ bS ls ins,checkL x=0:=by
 intro x hx;rcases nX hv hx with h | ⟨y,v,hy,rfl,h1,_⟩
 ·exact(ap hv).2 x h
 ·exact uf ((ap hv).2 y hy) (jx v) (by rw[valI_ofI];exact h1)
theorem nG:∀(l m:List LotV) (seen:List Bs),(∀x ∈ l,checkL x=0)->(∀x ∈ m,checkL x=0)->l.map (·.id)=m.map (·.id)->goAll seen l=goAll seen m
 |[],[],_,_,_,_=>rfl
 |[],_ :: _,_,_,_,h=>by simp at h
 |_ :: _,[],_,_,_,h=>by simp at h
 |x :: r,y :: s,seen,h1,h2,h=>by
  simp only[List.map_cons,List.cons.injEq]at h;have hx:=h1 x (by simp);have hy:=h2 y (by simp);by_cases hm:x.id ∈ seen
  ·rw[il.2.1 hx hm,il.2.1 hy (by rw[←h.1];exact hm)]
  ·rw[il.2.2 hx hm,il.2.2 hy (by rw[←h.1];exact hm),h.1];exact nG r s _ (fun z hz=>h1 z (by simp[hz])) (fun z hz=>h2 z (by simp[hz])) h.2
theorem rj(hv:checkAllL ls=0):checkAllL (bS ls ins)=0:=by
 have hi:(bS ls ins).map (·.id)=ls.map (·.id):=zO (fun _ _=>rfl);have h0:=ap hv;unfold checkAllL at hv ⊢;rw[mv];split at hv
 ·cases hv
 ·rename_i hn
  rw[if_neg hn,nG _ ls [] (vW (by unfold checkAllL;rw[if_neg hn];exact hv)) h0.2 hi];exact hv
theorem vX{L:Nat}(hv:checkAllL ls=0)(hs:∀x ∈ ls,x.c.length<=L∧x.q.length<=1000∧x.u.length<=1000∧x.id.length<=1000∧x.ins.length<=1000)(hL:L<=900)(hn:ls.length<=1000):∀x ∈ bS ls ins,SmallL x:=by
 intro x hx;rcases nX hv hx with h | ⟨y,v,hy,rfl,h1,h2⟩
 ·have:=hs x h;refine⟨?_,?_,?_,?_,?_⟩ <;> omega
 ·have:=hs y hy;refine⟨by simp only;omega,by simp only;omega,by simp only;omega,?_,by simp only;omega⟩;show(ofI v).length<=1000;have hc:=rP (fun x=>x.c) L (ofL ls ins) (fun z hz=>(hs z (bH hz).1).1) (by have:(ofL ls ins).length<=ls.length:=List.length_filter_le _ _;omega);have hm:=eL (z:=v) (l:=ofI (totC ls ins)) (by rw[valI_ofI];omega) (L:=L+7) hc;omega
end
theorem qP:∀(l:List LotV) (seen:List Bs),goAll seen l=0->(l.map (·.id)).Nodup∧∀a ∈ l.map (·.id),a ∉ seen
 |[],_,_=>⟨by simp,by simp⟩
 |x :: r,seen,h=>by
  unfold goAll at h;split at h
  ·rename_i hc;exact absurd h hc
  ·split at h
   ·cases h
   ·rename_i hm
    obtain⟨h1,h2⟩:=qP r _ h;refine⟨?_,?_⟩
    ·rw[List.map_cons,List.nodup_cons];exact⟨fun hx=>h2 _ hx (by simp),h1⟩
    ·intro a ha;rw[List.map_cons]at ha;rcases List.mem_cons.1 ha with e|h'
     ·rw[e];exact hm
     ·exact fun hs=>h2 a h' (by simp[hs])
theorem bj{ls:List LotV}(h:checkAllL ls=0):(ls.map (·.id)).Nodup:=by
 unfold checkAllL at h;split at h
 ·cases h
 ·exact(qP _ _ h).1
theorem iU:∀(ls:List LotV) (k:Nat) (hk:k<ls.length),(ls.map (·.id)).Nodup->findL ls (ls[k]'hk).id=some k
 |[],k,hk,_=>by simp at hk
 |x :: r,0,_,_=>by simp[findL]
 |x :: r,k+1,hk,h=>by
  rw[List.map_cons,List.nodup_cons]at h;have hk':k<r.length:=by simpa using hk
  unfold findL;simp only[List.getElem_cons_succ];rw[if_neg,iU r k hk' h.2]
  ·rfl
  ·intro e;exact h.1 (by rw[e];exact List.mem_map_of_mem (List.getElem_mem _))
end
section
open Go.RowKit
attribute [local go_sem] size_bs toList_bs
theorem pY(ls:List LotV)(id:Bs):(findL ls id).isSome=true↔id ∈ ls.map (·.id):=by
 induction ls with
 |nil=>simp[findL]
 |cons x r ih =>
  unfold findL;by_cases h:x.id=id
  ·simp[h]
  ·rw[if_neg h];simp only[Option.isSome_map,List.map_cons,List.mem_cons];rw[ih];constructor
   ·exact fun k => .inr k
   ·rintro(k|k)
    ·exact absurd k.symm h
    ·exact k
end
section
open Go.RowKit
theorem pf:∀(l:List LotV) (seen:List Bs),(∀x ∈ l,checkL x=0)->(l.map (·.id)).Nodup->(∀a ∈ l.map (·.id),a ∉ seen)->goAll seen l=0
 |[],_,_,_,_=>rfl
 |x :: r,seen,h1,h2,h3=>by
  have e1:=h1 x (by simp);have e2:=h3 x.id (by simp);rw[List.map_cons,List.nodup_cons]at h2;unfold goAll;rw[if_neg (by omega),if_neg e2];refine pf r _ (fun y hy=>h1 y (List.mem_cons_of_mem _ hy)) h2.2 (fun a ha=>?_);rw[List.mem_append,List.mem_singleton];rintro(h|h)
  ·exact h3 a (by rw[List.map_cons];exact List.mem_cons_of_mem _ ha) h
  ·subst h;exact h2.1 ha
def bW(ps:List Fr)(id:Bs):Option Bs:=(ps.find? (fun p=>p.num == id)).map (·.den)
def lk(ls:List LotV)(id:Bs):Option LotV:=ls.find? (fun x=>decide (x.id=id))
def aY(ps:List Fr)(x:LotV):Option LotV:=match bW ps x.id with
 |none=>some x
 |some d=>if x.q=d then none else some (cH x d)
def iV(ls:List LotV)(p:Fr):LotV:=match lk ls p.num with
 |some x=>if x.q=p.den then x else cV x p.den
 |none=>aQ
structure PicksOK (ls:List LotV) (ps:List Fr):Prop where
 nod:(ps.map (·.num)).Nodup
 at_:∀p ∈ ps,∃x ∈ ls,x.id=p.num∧0<valI p.den∧valI p.den<=valI x.q
 den:∀p ∈ ps,checkI p.den=0
theorem lR:∀(ls:List LotV) (id:Bs),lk ls id=(findL ls id).bind (fun i=>ls[i]?)
 |[],_=>rfl
 |x :: r,id=>by
  unfold lk findL;rw[List.find?_cons];by_cases h:x.id=id
  ·simp[h]
  ·have:=lR r id;unfold lk at this
   simp only[h,decide_false,if_false,this]
   cases findL r id <;> simp
theorem mw{ls:List LotV}(h:∃x ∈ ls,x.id=id):∃k,∃hk:k<ls.length,findL ls id=some k∧(ls[k]'hk).id=id:=by
 obtain⟨x,hx,e⟩:=h;have:(findL ls id).isSome=true:=(pY ls id).2 (by rw[←e];exact List.mem_map_of_mem hx)
 cases h2:findL ls id with
 |none=>rw[h2]at this;cases this
 |some k =>
  obtain⟨a,b⟩:=lF h2;exact⟨k,a,rfl,b a⟩
theorem sK{ls:List LotV}(hk:k<ls.length):ls=ls.take k++(ls[k]'hk) :: ls.drop (k+1):=by
 rw[List.getElem_cons_drop,List.take_append_drop]
theorem kG{ls:List LotV}:ls.eraseIdx k=ls.take k++ls.drop (k+1):=List.eraseIdx_eq_take_drop_succ ..
theorem qQ{ls:List LotV}(hk:k<ls.length)(y:LotV):ls.set k y=ls.take k++y :: ls.drop (k+1):=List.set_eq_take_append_cons_drop .. |>.trans (if_pos hk)
theorem qR(h:((A++x :: B).map (·.id)).Nodup):((A++B).map (·.id)).Nodup∧∀y ∈ A++B,y.id≠x.id:=by
 have hp:((A++x :: B).map (·.id)).Perm (x.id :: (A++B).map (·.id)):=(List.perm_middle (a:=x) (l₁:=A) (l₂:=B)).map _;have h2:=hp.nodup_iff.1 h;rw[List.nodup_cons]at h2;exact⟨h2.2,fun y hy e=>h2.1 (by rw[←e];exact List.mem_map_of_mem hy)⟩
theorem ja(p:Fr)(ps:List Fr)(id:Bs):bW (p :: ps) id=if p.num=id then some p.den else bW ps id:=by
 unfold bW;rw[List.find?_cons];by_cases h:p.num=id
 ·simp[h]
 ·have h2:(p.num == id)=false:=by simpa using h
  rw[h2,if_neg h]
theorem gu(h:∀p ∈ ps,p.num≠id):bW ps id=none:=by
 unfold bW;rw[List.find?_eq_none.2 (fun p hp=>by simpa using h p hp)];rfl
theorem vY{p:Fr}(h:y.id≠p.num):aY (p :: ps) y=aY ps y:=by
 unfold aY;rw[ja,if_neg (fun e=>h e.symm)]
theorem eY{α β:Type}{f g:α->Option β}{l:List α}(h:∀x ∈ l,f x=g x):l.filterMap f=l.filterMap g:=by
 induction l with
 |nil=>rfl
 |cons x r ih=>rw[List.filterMap_cons,List.filterMap_cons,h x (by simp),ih (fun y hy=>h y (by simp[hy]))]
theorem qS{p:Fr}(hm:∀z ∈ m,z.id≠p.num):iV (A++(m++B)) p=iV (A++B) p:=by
 unfold iV lk;have e:m.find? (fun x=>decide (x.id=p.num))=none:=List.find?_eq_none.2 (fun z hz=>by simpa using hm z hz);rw[List.find?_append,List.find?_append,List.find?_append,e,Option.none_or]
theorem PicksOK.tail{ls:List LotV}{p:Fr}(h:PicksOK ls (p :: ps))(ls':List LotV)(hl:∀x ∈ ls,x.id≠p.num->x ∈ ls'):PicksOK ls' ps:=by
 have h1:=h.nod;rw[List.map_cons,List.nodup_cons]at h1;refine⟨h1.2,fun q hq=>?_,fun q hq=>h.den q (by simp[hq])⟩;obtain⟨x,hx,e,e2⟩:=h.at_ q (by simp[hq]);exact⟨x,hl x hx (fun e3=>h1.1 (by rw[←e3,e];exact List.mem_map_of_mem hq)),e,e2⟩
theorem eA:∀(ps:List Fr) (ls:List LotV),(ls.map (·.id)).Nodup->PicksOK ls ps->ax ls ps=(ls.filterMap (aY ps),ps.map (iV ls))
 |[],ls,_,_=>by
  have:ls.filterMap (aY [])=ls:=by
   have e:aY []=some:=by funext x;rfl
   rw[e,List.filterMap_some]
  rw[this];rfl
 |p :: ps,ls,hn,h=>by
  obtain⟨x0,hx0,e0,e1,e2⟩:=h.at_ p (by simp);obtain⟨k,hk,hf,he⟩:=mw ⟨x0,hx0,e0⟩;have hx:ls[k]? = some (ls[k]'hk):=List.getElem?_eq_getElem hk;have h3:=sK hk;have hlk:lk ls p.num=some (ls[k]'hk):=by rw[lR,hf];exact hx
  have hT:iV ls p=if(ls[k]'hk).q=p.den then(ls[k]'hk) else cV (ls[k]'hk) p.den:=by unfold iV;rw[hlk]
  have hR:aY (p :: ps) (ls[k]'hk)=if(ls[k]'hk).q=p.den then none else some (cH (ls[k]'hk) p.den):=by
   unfold aY;rw[ja,if_pos he.symm]
  have hn1:=h.nod;rw[List.map_cons,List.nodup_cons]at hn1;have hps:∀q ∈ ps,(ls[k]'hk).id≠q.num:=fun q hq e=>hn1.1 (by rw[←he,e];exact List.mem_map_of_mem hq)
  unfold ax;rw[hf];simp only[hx];generalize ls[k]'hk=x at *;generalize hA:ls.take k=A at *;generalize hB:ls.drop (k+1)=B at *;obtain⟨n1,n2⟩:=qR (by rw[←h3];exact hn);have hrest:∀y ∈ A++B,aY (p :: ps) y=aY ps y:=fun y hy=>vY (by rw[←he];exact n2 y hy)
  have hmem:∀y ∈ ls,y.id≠p.num->y ∈ A++B:=by
   intro y hy hne;rw[h3]at hy;rcases List.mem_append.1 hy with h1|h1
   ·exact List.mem_append_left _ h1
   ·rcases List.mem_cons.1 h1 with rfl|h1
    ·exact absurd he hne
    ·exact List.mem_append_right _ h1
  have hl:ls.filterMap (aY (p :: ps))=A.filterMap (aY ps)++((if x.q=p.den then [] else [cH x p.den])++B.filterMap (aY ps)):=by
   rw[h3,List.filterMap_append,List.filterMap_cons,hR,eY (fun y hy=>hrest y (List.mem_append_left _ hy)),eY (l:=B) (fun y hy=>hrest y (List.mem_append_right _ hy))];congr 1
   split <;> rename_i e <;> split at e <;> simp_all
  have hmap:∀m:List LotV,(∀z ∈ m,z.id=x.id)->ps.map (iV (A++(m++B)))=ps.map (iV ls):=by
   intro m hm;apply List.map_congr_left;intro q hq;have t1:=qS (A:=A) (B:=B) (m:=m) (p:=q) (fun z hz e=>hps q hq ((hm z hz).symm.trans e));have t2:=qS (A:=A) (B:=B) (m:=[x]) (p:=q) (fun z hz e=>by simp at hz;rw[hz]at e;exact hps q hq e);rw[t1,←t2,h3];rfl
  rw[List.map_cons,hT,hl];by_cases hq:x.q=p.den
  ·rw[if_pos hq,if_pos hq,if_pos hq,kG,hA,hB,eA ps (A++B) n1 (h.tail _ hmem),List.filterMap_append];have:=hmap [] (by simp);rw[List.nil_append]at this
   rw[this];rfl
  ·rw[if_neg hq,if_neg hq,if_neg hq,qQ hk,hA,hB];have hid:(cH x p.den).id=x.id:=rfl
   have n3:((A++cH x p.den :: B).map (·.id)).Nodup:=by
    have e:(A++cH x p.den :: B).map (·.id)=(A++x :: B).map (·.id):=by simp[hid]
    rw[e,←h3];exact hn
   have hmem2:∀y ∈ ls,y.id≠p.num->y ∈ A++cH x p.den :: B:=by
    intro y hy hne;rcases List.mem_append.1 (hmem y hy hne) with h1|h1
    ·exact List.mem_append_left _ h1
    ·exact List.mem_append_right _ (List.mem_cons_of_mem _ h1)
   rw[eA ps _ n3 (h.tail _ hmem2),List.filterMap_append,List.filterMap_cons]
   have hc:aY ps (cH x p.den)=some (cH x p.den):=by
    unfold aY;rw[hid,gu (fun q hq e=>hps q hq e.symm)]
   have:=hmap [cH x p.den] (by simp[hid]);rw[List.singleton_append]at this
   rw[hc,this];rfl
theorem BC(a b:Rat):a<b∨b<=a:=by
 by_cases h:a<b
 ·exact .inl h
 ·exact .inr (Rat.not_lt.1 h)
theorem xJ{t p a:Int}(ht:0<=t)(hp:0<=p)(ha:p<=a)(h0:0<a):0<=dv t p a∧dv t p a<=t:=by
 obtain⟨n1,n2⟩:=tT (Rat.divInt (t*p) a);have ha':(0:Rat)<(a:Rat):=by exact_mod_cast h0
 have e:Rat.divInt (t*p) a*(a:Rat)=((t*p:Int):Rat):=by
  rw[Rat.divInt_eq_div,Rat.div_mul_cancel (Rat.ne_of_gt ha')]
 have q0:(0:Rat)<=Rat.divInt (t*p) a:=by
  rcases BC (Rat.divInt (t*p) a) 0 with h|h
  ·have h1:Rat.divInt (t*p) a*(a:Rat)<0:=by
    have:=Rat.mul_lt_mul_of_pos_right h ha';rwa[Rat.zero_mul]at this
   rw[e]at h1;have h2:(t*p:Int)<0:=by exact_mod_cast h1
   have:=Int.mul_nonneg ht hp;omega
  ·exact h
 have q1:Rat.divInt (t*p) a<=(t:Rat):=by
  rcases BC (t:Rat) (Rat.divInt (t*p) a) with h|h
  ·have h1:=Rat.mul_lt_mul_of_pos_right h ha';rw[e,←Rat.intCast_mul]at h1;have h2:t*a<t*p:=by exact_mod_cast h1
   have:=Int.mul_le_mul_of_nonneg_left ha ht;omega
  ·exact h
 unfold dv;generalize Rat.divInt (t*p) a=q at *
 have r0:(((-1:Int)):Rat)<((bg q:Int):Rat):=by
  have:(((-1:Int)):Rat) = -1:=by norm_cast
  rw[this];grind
 have r1:((bg q:Int):Rat)<(((t+1:Int)):Rat):=by
  rw[Rat.intCast_add];have:(((1:Int)):Rat)=1:=by norm_cast
  rw[this];grind
 have s0:(-1:Int)<bg q:=by exact_mod_cast r0
 have s1:bg q<t+1:=by exact_mod_cast r1
 omega
theorem sL(h:checkL x=0)(hd:checkI d=0)(h0:0<valI d)(h1:valI d<valI x.q):checkL (cV x d)=0∧checkL (cH x d)=0:=by
 obtain⟨o1,o2,o3,o4,o5⟩:=bh h;obtain⟨s1,s2⟩:=xJ o4 (Int.le_of_lt h0) (Int.le_of_lt h1) o3
 have key:∀q c u:Bs,checkI q=0->checkI c=0->0<valI q->0<=valI c->(u=[]∨u=q)->checkL { x with q:=q,c:=c,u:=u }=0:=by
  intro q c u k1 k2 k3 k4 k5;unfold checkL at h ⊢
  have ku:checkI u=0:=by
   rcases k5 with rfl|rfl
   ·decide
   ·exact k1
  split at h
  ·simp at h
  ·rename_i g1
   rw[if_neg g1];split at h
   ·simp at h
   ·rename_i g2
    rw[if_neg g2];split at h
    ·simp at h
    ·rename_i g3
     rw[if_neg g3,if_neg (by simp only[k1,k2,ku];simp),if_neg];simp only;rcases k5 with rfl|rfl <;> simp <;> omega
 refine⟨key d _ _ hd (eM _) h0 (by rw[valI_ofI];exact s1) ?_,key _ _ _ (eM _) (eM _) (by rw[valI_ofI];omega) (by rw[valI_ofI];omega) ?_⟩
 ·split <;> simp
 ·split <;> simp
theorem mR{ls:List LotV}{p:Fr}(hn:(ls.map (·.id)).Nodup)(hx:x ∈ ls)(he:x.id=p.num):iV ls p=if x.q=p.den then x else cV x p.den:=by
 obtain⟨k,hk,rfl⟩:=List.mem_iff_getElem.1 hx;have:=iU ls k hk hn;unfold iV;rw[lR,←he,this];simp[hk]
theorem uP(f:LotV->Int)(ins:Bs):∀(ps:List Fr) (ls:List LotV),(ls.map (·.id)).Nodup->PicksOK ls ps->(∀x ∈ ls,∀p ∈ ps,x.id=p.num->x.q≠p.den->f (cV x p.den)+f (cH x p.den)=f x) ->
  ((ofL (ax ls ps).1 ins).map f).sum+((ofL (ax ls ps).2 ins).map f).sum=((ofL ls ins).map f).sum:=by
 intro ps ls hn h hf;rw[eA ps ls hn h]
 have key:∀l:List LotV,(∀x ∈ l,x ∈ ls)->((ofL (l.filterMap (aY ps)) ins).map f).sum+(l.map (fun x=>if x.ins=ins then(match bW ps x.id with|some d=>if x.q=d then f x else f (cV x d)|none=>0) else 0)).sum=((ofL l ins).map f).sum:=by
  intro l;induction l with
  |nil=>intro _;rfl
  |cons x r ih =>
   intro hl;have ih:=ih (fun y hy=>hl y (by simp[hy]));rw[List.filterMap_cons,List.map_cons,List.sum_cons,da];have hx:=hl x (by simp)
   cases hp:bW ps x.id with
   |none =>
    have hr:aY ps x=some x:=by unfold aY;rw[hp]
    rw[hr];simp only;rw[da];split <;> (try simp only[List.map_cons,List.sum_cons]) <;> omega
   |some d =>
    have hpd:∃p ∈ ps,x.id=p.num∧p.den=d:=by
     unfold bW at hp;obtain⟨p,h1,h2⟩:=Option.map_eq_some_iff.1 hp;have h3:=List.find?_some h1;exact⟨p,List.mem_of_find?_eq_some h1,by simpa using(beq_iff_eq.1 h3).symm,h2⟩
    obtain⟨p,hp1,hp2,rfl⟩:=hpd;by_cases hq:x.q=p.den
    ·have hr:aY ps x=none:=by unfold aY;rw[hp];exact if_pos hq
     rw[hr];simp only[if_pos hq];split <;> (try simp only[List.map_cons,List.sum_cons]) <;> omega
    ·have:=hf x hx p hp1 hp2 hq;have hr:aY ps x=some (cH x p.den):=by unfold aY;rw[hp];exact if_neg hq
     rw[hr];simp only[if_neg hq];rw[da];have hi:(cH x p.den).ins=x.ins:=rfl;rw[hi];split <;> (try simp only[List.map_cons,List.sum_cons]) <;> omega
 have k1:=key ls (fun _ h=>h);suffices hs:(ls.map (fun x=>if x.ins=ins then(match bW ps x.id with|some d=>if x.q=d then f x else f (cV x d)|none=>0) else 0)).sum=((ofL (ps.map (iV ls)) ins).map f).sum by rw[←hs];exact k1
 clear k1 key hf;have hins:∀x d,(if x.q=d then x else cV x d:LotV).ins=x.ins:=by intro x d;split <;> rfl
 have step:∀ps:List Fr,PicksOK ls ps->(ls.map (fun x=>if x.ins=ins then(match bW ps x.id with|some d=>if x.q=d then f x else f (cV x d)|none=>0) else 0)).sum=((ofL (ps.map (iV ls)) ins).map f).sum:=by
  intro ps;induction ps with
  |nil =>
   intro _
   have:ls.map (fun x=>if x.ins=ins then(match bW [] x.id with|some d=>if x.q=d then f x else f (cV x d)|none=>0) else 0)=ls.map (fun _=>(0:Int)):=by
    apply List.map_congr_left;intro x _;simp[bW]
   rw[this];have z:∀l:List LotV,(l.map (fun _=>(0:Int))).sum=0:=by intro l;induction l with|nil=>rfl|cons _ _ ih=>simp[ih]
   rw[z];rfl
  |cons p ps ih =>
   intro h;have h':PicksOK ls ps:=h.tail ls (fun x hx _=>hx);obtain⟨x,hx,he,_⟩:=h.at_ p (by simp);have hn1:=h.nod;rw[List.map_cons,List.nodup_cons]at hn1;have hnp:bW ps p.num=none:=gu (fun q hq e=>hn1.1 (by rw[←e];exact List.mem_map_of_mem hq));rw[List.map_cons,da,mR hn hx he,hins]
   have e:ls.map (fun y=>if y.ins=ins then(match bW (p :: ps) y.id with|some d=>if y.q=d then f y else f (cV y d)|none=>0) else 0)
     = ls.map (fun y=>(if y.ins=ins then(match bW ps y.id with|some d=>if y.q=d then f y else f (cV y d)|none=>0) else 0)-if y.id=x.id then -(if x.ins=ins then f (if x.q=p.den then x else cV x p.den) else 0) else 0):=by
    apply List.map_congr_left;intro y hy;rw[ja];by_cases hyx:y.id=x.id
    ·have hyx2:y=x:=by
      obtain⟨i,hi,rfl⟩:=List.mem_iff_getElem.1 hy;obtain⟨j,hj,rfl⟩:=List.mem_iff_getElem.1 hx;have a1:=iU ls i hi hn;have a2:=iU ls j hj hn;rw[hyx,a2]at a1;injection a1 with a1
      subst a1;rfl
     subst hyx2;rw[if_pos he.symm,if_pos rfl,he,hnp];simp only;split <;> (try split) <;> simp
    ·have g:(if p.num=y.id then some p.den else bW ps y.id)=bW ps y.id:=if_neg (fun e2=>hyx (by rw[he,e2]));rw[g,if_neg hyx,Int.sub_zero]
   rw[e,uO hn hx,ih h'];split <;> (try simp only[List.map_cons,List.sum_cons]) <;> omega
 exact step ps h
theorem pZ(x:LotV)(d:Bs):valI (cV x d).q+valI (cH x d).q=valI x.q∧valI (cV x d).c+valI (cH x d).c=valI x.c:=by
 constructor
 ·show valI d+valI (ofI _)=_;rw[valI_ofI];omega
 ·show valI (ofI _)+valI (ofI _)=_;rw[valI_ofI,valI_ofI];omega
theorem CL{ls:List LotV}(ins:Bs)(hn:(ls.map (·.id)).Nodup)(h:PicksOK ls ps):totQ (ax ls ps).1 ins+totQ (ax ls ps).2 ins=totQ ls ins∧totC (ax ls ps).1 ins+totC (ax ls ps).2 ins=totC ls ins :=
 ⟨uP (fun x=>valI x.q) ins ps ls hn h (fun x _ p _ _ _=>(pZ x p.den).1),uP (fun x=>valI x.c) ins ps ls hn h (fun x _ p _ _ _=>(pZ x p.den).2)⟩
theorem sM(h:aY ps x=some y):y.id=x.id∧y.ins=x.ins∧y.acq=x.acq∧y.opn=x.opn:=by
 unfold aY at h;split at h
 ·injection h with h;rw[←h];exact⟨rfl,rfl,rfl,rfl⟩
 ·split at h
  ·cases h
  ·injection h with h;rw[←h];exact⟨rfl,rfl,rfl,rfl⟩
theorem CO(ps:List Fr)(ls:List LotV):((ls.filterMap (aY ps)).map (·.id)).Sublist (ls.map (·.id)):=by
 induction ls with
 |nil=>exact List.Sublist.refl _
 |cons x r ih =>
  rw[List.filterMap_cons];split
  ·exact ih.cons _
  ·rename_i y hy
   rw[List.map_cons,List.map_cons,(sM hy).1];exact ih.cons_cons _
theorem xK(h:bW ps id=some d):∃p ∈ ps,p.num=id∧p.den=d:=by
 unfold bW at h;obtain⟨p,h1,h2⟩:=Option.map_eq_some_iff.1 h;have h3:=List.find?_some h1;exact⟨p,List.mem_of_find?_eq_some h1,by simpa using h3,h2⟩
theorem nY{ls:List LotV}(hn:(ls.map (·.id)).Nodup)(hx:x ∈ ls)(hy:y ∈ ls)(e:y.id=x.id):y=x:=by
 obtain⟨i,hi,rfl⟩:=List.mem_iff_getElem.1 hy;obtain⟨j,hj,rfl⟩:=List.mem_iff_getElem.1 hx;have a1:=iU ls i hi hn;have a2:=iU ls j hj hn;rw[e,a2]at a1;injection a1 with a1
 subst a1;rfl
theorem sN{ls:List LotV}(hv:∀x ∈ ls,checkL x=0)(hx:x ∈ ls)(hd:checkI d=0)(hle:valI d<=valI x.q)(hne:x.q≠d):valI d<valI x.q:=by
 obtain⟨o1,_⟩:=bh (hv x hx);have:valI d≠valI x.q:=fun e=>hne (by rw[←di.1 o1,←di.1 hd,e])
 omega
theorem xL{ls:List LotV}(hv:checkAllL ls=0)(h:PicksOK ls ps):checkAllL (ax ls ps).1=0∧∀x ∈ (ax ls ps).2,checkL x=0:=by
 have hn:=bj hv;obtain⟨hl,hvx⟩:=ap hv;rw[eA ps ls hn h]
 have hcut:∀x ∈ ls,∀p ∈ ps,x.id=p.num->x.q≠p.den->checkL (cV x p.den)=0∧checkL (cH x p.den)=0:=by
  intro x hx p hp e hne;obtain⟨y,hy,e1,e2,e3⟩:=h.at_ p hp;have:=nY hn hy hx (e.trans e1.symm);subst this
  exact sL (hvx x hx) (h.den p hp) e2 (sN hvx hx (h.den p hp) e3 hne)
 constructor
 ·unfold checkAllL;rw[if_neg (by have:=List.length_filterMap_le (aY ps) ls;simp only;omega)];refine pf _ [] (fun y hy=>?_) ((CO ps ls).nodup hn) (by simp);obtain⟨x,hx,hy⟩:=List.mem_filterMap.1 hy;unfold aY at hy;split at hy
  ·injection hy with hy;rw[←hy];exact hvx x hx
  ·rename_i d hd
   obtain⟨p,hp,e1,e2⟩:=xK hd;split at hy
   ·cases hy
   ·rename_i hq
    injection hy with hy
    rw[←hy,←e2];exact(hcut x hx p hp e1.symm (by rw[e2];exact hq)).2
 ·intro y hy;obtain⟨p,hp,rfl⟩:=List.mem_map.1 hy;obtain⟨x,hx,e1,_⟩:=h.at_ p hp;rw[mR hn hx e1];split
  ·exact hvx x hx
  ·rename_i hq;exact(hcut x hx p hp e1 hq).1
theorem vZ{ls:List LotV}(hn:(ls.map (·.id)).Nodup)(h:PicksOK ls ps){ins:Bs}(hi:∀p ∈ ps,∀x ∈ ls,x.id=p.num->x.ins=ins):(ax ls ps).1.filter (fun x=>decide (x.ins≠ins))=ls.filter (fun x=>decide (x.ins≠ins)):=by
 rw[eA ps ls hn h]
 have key:∀l:List LotV,(∀x ∈ l,x ∈ ls)->(l.filterMap (aY ps)).filter (fun x=>decide (x.ins≠ins))=l.filter (fun x=>decide (x.ins≠ins)):=by
  intro l;induction l with
  |nil=>intro _;rfl
  |cons x r ih =>
   intro hl;have ih:=ih (fun y hy=>hl y (by simp[hy]));rw[List.filterMap_cons,List.filter_cons];by_cases hx:x.ins=ins
   ·rw[if_neg (by simp[hx]),←ih];split
    ·rfl
    ·rename_i y hy
     rw[List.filter_cons,if_neg (by rw[(sM hy).2.1];simp[hx])]
   ·have:aY ps x=some x:=by
     unfold aY;rw[gu (fun p hp e=>hx (hi p hp x (hl x (by simp)) e.symm))]
    rw[this];simp only;rw[List.filter_cons,if_pos (by simp[hx]),if_pos (by simp[hx]),ih]
 exact key ls (fun _ h=>h)
theorem mx{fn:Nat->Int}:∀ {n:Nat},cX fn n=0->∀k,k<n->fn k=0
 |0,_,k,hk=>absurd hk (by omega)
 |n+1,h,k,hk=>by
  unfold cX at h;by_cases g:cX fn n=0
  ·rw[if_neg (by simpa using g)]at h;by_cases e:k=n
   ·subst e;exact h
   ·exact mx g k (by omega)
  ·rw[if_pos g]at h;exact absurd h g
theorem sO{f:FactV}(h:aU f ps os=0)(hk0:f.kind≠0){sp:KSp}(hs:dg f.kind=some sp):isName f.key=true∧0<=f.stamp ∧ -25567<=f.day∧f.day<=84005∧f.canc=false∧∀k,k<13->dM f ps os sp k=0:=by
 unfold aU at h;rw[hs]at h;split at h
 ·exact absurd h (by decide)
 rename_i g1
 split at h
 ·exact absurd h (by decide)
 rename_i g2
 split at h
 ·split at h
  ·rename_i g
   exact absurd g (by simp[fz,hk0])
  ·exact absurd h (by decide)
 rename_i g4
 split at h
 ·exact absurd h (by decide)
 rename_i g3
 exact⟨by simpa using g1,by omega,by omega,by omega,by simpa using g4,mx h⟩
theorem jX{f:FactV}{sp:KSp}(h:dM f ps os sp k=0)(hb:sp.bits.getD k false=true):gJ f ps os sp k=0:=by
 unfold dM at h;rwa[if_pos hb]at h
theorem CQ(h:eV s=0):isName s=true:=by
 unfold eV at h;by_cases g:isName s=true
 ·exact g
 ·rw[if_neg g]at h;exact absurd h (by decide)
theorem gX(n:Bs):ay ⟨n,[]⟩=((valI n:Int):Rat):=by
 have e:valI ([]:Bs)=0:=by decide
 unfold ay DQ ni;simp only[e,if_true];exact oD _
theorem lS{p:Bool}(h:bR ⟨n,[]⟩ p false=0):checkI n=0∧bO n<=40∧0<=valI n∧(p=true->0<valI n):=by
 unfold bR at h;split at h
 ·exact absurd h (by decide)
 rename_i h1
 split at h
 ·exact absurd h (by decide)
 rename_i h2
 dsimp only at h2;split at h
 ·exact absurd h (by decide)
 rename_i h3
 have c1:bV ⟨n,[]⟩=0:=by simpa using h1
 have c2:ofI (valI n)=n:=by
  unfold bV at c1;rw[gX,pu]at c1;by_cases g:ofI (valI n)=n
  ·exact g
  ·rw[if_neg (by simp[g])]at c1;exact absurd c1 (by decide)
 have c3:¬ ay ⟨n,[]⟩<0:=fun g=>h3 (.inl (rH.2 g))
 rw[gX]at c3
 have c4:0<=valI n:=by
  by_cases g:valI n<0
  ·exact absurd (by exact_mod_cast g) c3
  ·omega
 refine⟨di.2 c2,by omega,c4,fun hp=>?_⟩;have c5:¬ ay ⟨n,[]⟩=0:=fun g=>h3 (.inr (.inl ⟨hp,qy.2 g⟩))
 rw[gX]at c5;have c6:valI n≠0:=fun g=>c5 (by rw[g];rfl)
 omega
theorem mS(h:bO n<=40):n.length<=41:=by
 rcases qJ n with ⟨t,rfl,e⟩ | ⟨e,_⟩ | ⟨rfl,_⟩
 ·rw[e]at h;simp;omega
 ·omega
 ·simp
theorem sP{f:FactV}{sp:KSp}{a b:Bool}(h:gJ f ps os sp k=0)(_:decide (k<4)=false)(_:decide (9<k)=false)(hk:gJ f ps os sp k=match (sp.nums.getD []).lookup k with|some pq=>bR (fZ f k) pq.1 pq.2|none=>0)(hl:(sp.nums.getD []).lookup k=some (a,b)):bR (fZ f k) a b=0:=by
 rw[hk,hl]at h;exact h
structure SaleOK (f:FactV) (ps:List Fr):Prop where
 key:isName f.key=true
 ins:isName f.ins=true
 d0 : -25567<=f.day
 d1:f.day<=84005
 cq:checkI f.qty=0
 q0:0<valI f.qty
 ql:f.qty.length<=41
 ca:checkI f.amt=0
 a0:0<=valI f.amt
 al:f.amt.length<=41
 cf:checkI f.fee=0
 f0:0<=valI f.fee
 fl:f.fee.length<=41
 pl:ps.length<=64
 pk:∀p ∈ ps,checkI p.den=0∧0<valI p.den∧p.den.length<=41
theorem SaleOK.bad{f:FactV}(h:SaleOK f ps):ps.any gW=false:=by
 rw[List.any_eq_false];intro p hp;obtain⟨a,b,_⟩:=h.pk p hp;simp[gW,a,b]
theorem zQ(h:eJ ps q=0):ps.length<=64∧∀p ∈ ps,checkI p.den=0∧0<valI p.den∧p.den.length<=41:=by
 unfold eJ at h;split at h
 ·exact absurd h (by decide)
 rename_i h1
 split at h
 ·rename_i h2;exact absurd h h2
 rename_i h2
 have h3:cX (dQ ps) ps.length=0:=by
  by_cases g:cX (dQ ps) ps.length=0
  ·exact g
  ·exact absurd g h2
 refine⟨by omega,fun p hp=>?_⟩;obtain⟨k,hk,rfl⟩:=List.getElem_of_mem hp;have h4:=mx h3 k hk;unfold dQ at h4;rw[List.getElem?_eq_getElem hk]at h4;dsimp only at h4;split at h4
 ·exact absurd h4 (by decide)
 split at h4
 ·exact absurd h4 (by decide)
 obtain⟨a,b,_,d⟩:=lS h4;exact⟨a,d rfl,mS b⟩
theorem CR{f:FactV}(h:aU f ps os=0)(hk:f.kind=4):SaleOK f ps:=by
 have e:∃sp,dg 4=some sp∧sp.bits=[true,false,false,false,true,true,true,false,false,false,true,false,false]∧sp.nums.getD []=iR:=⟨_,rfl,rfl,rfl⟩;obtain⟨sp,e1,e2,e3⟩:=e;obtain⟨h1,_,h2,h3,_,h4⟩:=sO h (by omega) (hk ▸ e1);have g0:eV f.ins=0:=jX (h4 0 (by decide)) (by rw[e2];rfl);have g4:gJ f ps os sp 4=0:=jX (h4 4 (by decide)) (by rw[e2];rfl);have g5:gJ f ps os sp 5=0:=jX (h4 5 (by decide)) (by rw[e2];rfl);have g6:gJ f ps os sp 6=0:=jX (h4 6 (by decide)) (by rw[e2];rfl);have g10:eJ ps f.qty=0:=jX (h4 10 (by decide)) (by rw[e2];rfl);have k4:=sP g4 rfl rfl rfl (by rw[e3];rfl:(sp.nums.getD []).lookup 4=some (true,false));have k5:=sP g5 rfl rfl rfl (by rw[e3];rfl:(sp.nums.getD []).lookup 5=some (false,false));have k6:=sP g6 rfl rfl rfl (by rw[e3];rfl:(sp.nums.getD []).lookup 6=some (false,false));obtain⟨a1,a2,_,a4⟩:=lS k4;obtain⟨b1,b2,b3,_⟩:=lS k5;obtain⟨c1,c2,c3,_⟩:=lS k6;obtain⟨p1,p2⟩:=zQ g10;exact { key:=h1,ins:=CQ g0,d0:=h2,d1:=h3,cq:=a1,q0:=a4 rfl,ql:=mS a2,ca:=b1,a0:=b3,al:=mS b2,cf:=c1,f0:=c3,fl:=mS c2,pl:=p1,pk:=p2 }
end
section
open Go.RowKit
attribute [local go_sem] size_bs toList_bs
def iC(X U M V Y:List LotV)(k:Nat):List LotV:=X++(V.take k++(U.drop k++(M++(U.take k++(V.drop k++Y)))))
theorem zS(X U M V Y:List LotV):iC X U M V Y 0=X++(U++(M++(V++Y))):=by simp[iC]
theorem zT(h:U.length=V.length):iC X U M V Y U.length=X++(V++(M++(U++Y))):=by
 unfold iC;rw[List.take_length,List.drop_length,h,List.take_length,List.drop_length];simp
theorem uQ(h:U.length=V.length)(hk:k<=U.length):(iC X U M V Y k).length=X.length+U.length+M.length+V.length+Y.length:=by
 simp[iC];omega
theorem nZ(h:k<U.length)(h2:k<V.length):iC X U M V Y k=(X++V.take k)++U[k] :: (U.drop (k+1)++(M++U.take k))++V[k] :: (V.drop (k+1)++Y):=by
 unfold iC;rw[List.drop_eq_getElem_cons h,List.drop_eq_getElem_cons h2];simp only[List.append_assoc,List.cons_append]
theorem zU(h:k<U.length)(h2:k<V.length)(hl:U.length=V.length):((iC X U M V Y k).set (X.length+k) V[k]).set (X.length+U.length+M.length+k) U[k]=iC X U M V Y (k+1):=by
 have e:=ET (X++V.take k) (U.drop (k+1)++(M++U.take k)) (V.drop (k+1)++Y) U[k] V[k];have l1:(X++V.take k).length=X.length+k:=by simp;omega
 have l2:(X++V.take k).length+1+(U.drop (k+1)++(M++U.take k)).length=X.length+U.length+M.length+k:=by simp;omega
 rw[l2,l1]at e;rw[nZ h h2,e];unfold iC;rw[List.take_succ_eq_append_getElem h,List.take_succ_eq_append_getElem h2];simp only[List.append_assoc,List.cons_append,List.nil_append]
theorem EZ(h:k<U.length)(h2:k<V.length)(hl:U.length=V.length):∃(h3:X.length+k<(iC X U M V Y k).length) (h4:X.length+U.length+M.length+k<(iC X U M V Y k).length),(iC X U M V Y k)[X.length+k]=U[k]∧(iC X U M V Y k)[X.length+U.length+M.length+k]=V[k]:=by
 have l:=uQ (X:=X) (M:=M) (Y:=Y) hl (Nat.le_of_lt h);refine⟨by omega,by omega,?_,?_⟩
 ·have e:(iC X U M V Y k)[X.length+k]? = some U[k]:=by
   rw[nZ h h2,List.append_assoc,List.getElem?_append_right (by simp;omega),show X.length+k-(X++V.take k).length=0 by simp;omega];rfl
  rw[List.getElem?_eq_getElem (by omega)]at e;injection e
 ·have e:(iC X U M V Y k)[X.length+U.length+M.length+k]? = some V[k]:=by
   rw[nZ h h2,List.getElem?_append_right (by simp;omega),show X.length+U.length+M.length+k-((X++V.take k)++U[k] :: (U.drop (k+1)++(M++U.take k))).length=0 by simp;omega];rfl
  rw[List.getElem?_eq_getElem (by omega)]at e;injection e
theorem lU(X U M V Y:List LotV)(hl:U.length=V.length)(cf:Value)(g cap:Nat)(w:World)(hr:aD w g cap (X++(U++(M++(V++Y)))))(hn:(X++(U++(M++(V++Y)))).length<=1000000)(a b n N:Nat)(ha:X.length=a)(hb:X.length+U.length+M.length=b)(hN:(X++(U++(M++(V++Y)))).length=N)(hUn:U.length=n) :
  Calls Tryz.prog 374 #[.slice (some ⟨g,0,none⟩) N cap,.int .i64 a,.int .i64 b,.int .i64 n,cf] w fun e w'=>e = .returned (.tuple #[])∧aD w' g cap (X++(V++(M++(U++Y))))∧Only g w w':=by
 have HR0:=qh hr;have HN:=qh hN;have hbn:b+n<=N:=by simp at hN;omega
 have han:a+n<=b:=by omega
 have hNb:N<=1000000:=by omega
 have HA:=qh ha;have HB:=qh (show a+U.length+M.length=b by rw[←ha];exact hb);have HU:=qh hUn;clear hr hN hn ha hb hUn;go_enter Tryz.func374,Tryz.ntmps374;go_wp2_with fail;go_loopw [10] (fun i wr=>∃k:Nat,k<=n∧i = .int .i64 k∧aD wr g cap (iC X U M V Y k)∧Only g w wr) (fun i _=>n-(intOf i).toNat)
 case atStart=>exact⟨0,by omega,rfl,by rw[zS];exact HR0.out,Only.refl _ _⟩
 case round =>
  clear HR0;obtain⟨k,hk,rfl,hr,ho⟩:=hrel;have HR:=qh hr;have HO:=qh ho;clear hr ho;by_cases hlt:k<n
  ·have hu:k<U.length:=by rw[HU.out];exact hlt
   have hv:k<V.length:=by rw[←hl];exact hu
   obtain⟨h3,h4,e3,e4⟩:=EZ (X:=X) (M:=M) (Y:=Y) hu hv hl;have hst:=zU (X:=X) (M:=M) (Y:=Y) hu hv hl;have hL:=uQ (X:=X) (M:=M) (Y:=Y) hl (Nat.le_of_lt hu);have hL2:(iC X U M V Y k).length=N:=by rw[hL,←HN.out];simp;omega
   simp only[HA.out,HB.out]at h3 h4 e3 e4 hst;rw[HA.out]at hL;obtain⟨p,hp⟩:∃p,a+k=p:=⟨_,rfl⟩;obtain⟨q,hq⟩:∃q,b+k=q:=⟨_,rfl⟩;simp only[hp,hq]at h3 h4 e3 e4 hst;have hpi:(a:Int)+(k:Int)=(p:Int):=by omega
   have hqi:(b:Int)+(k:Int)=(q:Int):=by omega
   have hpN:(p:Int)<(N:Int):=by omega
   have hqN:(q:Int)<(N:Int):=by omega
   have hp0:(0:Int)<=(p:Int):=by omega
   have hq0:(0:Int)<=(q:Int):=by omega
   have hkn:(k:Int)<(n:Int):=by omega
   have hne:p≠q:=by omega
   obtain⟨b,o,e1,_,c0,c1,c2,c3,c4,c5,c6⟩:=HR.out.reads.at_ h3;simp only[Option.some.injEq,Addr.mk.injEq,and_true]at e1;obtain⟨rfl,rfl⟩:=e1;obtain⟨b,o,e1,_,d0,d1,d2,d3,d4,d5,d6⟩:=HR.out.reads.at_ h4;simp only[Option.some.injEq,Addr.mk.injEq,and_true]at e1;obtain⟨rfl,rfl⟩:=e1;simp only[Nat.zero_add]at c0 c1 c2 c3 c4 c5 c6 d0 d1 d2 d3 d4 d5 d6;have hfr:=fun m=>HR.out.frozen m
   rw[e3]at c0 c1 c2 c3 c4 c5 c6;rw[e4]at d0 d1 d2 d3 d4 d5 d6;have HS:=qh hst;have HP:=qh (And.intro h3 h4);clear e3 e4 hst hL hL2 h3 h4;generalize U[k]'hu=x at *;generalize V[k]'hv=y at *;clear hu hv;obtain⟨x0,x1,x2,x3,x4,x5,x6⟩:=x;obtain⟨y0,y1,y2,y3,y4,y5,y6⟩:=y;simp only at c0 c1 c2 c3 c4 c5 c6 d0 d1 d2 d3 d4 d5 d6;go_wp2_with fail;go_region
   have HRN:=(HR.out.setl HP.out.1 ⟨y0,y1,y2,y3,y4,y5,y6⟩).setl (k:=q) (by rw[List.length_set];exact HP.out.2) ⟨x0,x1,x2,x3,x4,x5,x6⟩;have HON:=Only.sets (lotCells ⟨x0,x1,x2,x3,x4,x5,x6⟩) (q*7) _ _ (Only.sets (lotCells ⟨y0,y1,y2,y3,y4,y5,y6⟩) (p*7) _ _ HO.out);rw[HS.out]at HRN;have HRN':=qh HRN.drew;have HON':=qh HON.drew;clear HR HO HRN HON c0 c1 c2 c3 c4 c5 c6 d0 d1 d2 d3 d4 d5 d6 hfr;go_wp2_with fail;refine⟨⟨k+1,by omega,congrArg (Value.int .i64) (by omega),HRN'.out,HON'.out⟩,?_⟩;have e1:(intOf (.int .i64 ((k:Int)+1))).toNat=k+1:=by show((k:Int)+1).toNat=_;omega
   have e2:(intOf (.int .i64 (k:Int))).toNat=k:=by show((k:Int)).toNat=_;omega
   rw[e1,e2];omega
  ·have hf:k=n:=by omega
   subst hf;have hcmp:¬ ((k:Int)<(k:Int)):=by omega
   go_wp2_with fail;go_end0
   exact⟨rfl,by rw[←zT hl,HU.out];exact HR.out,HO.out⟩
end
end Go.Proofs.YtaegjkllenlfpaaGreatDoor
