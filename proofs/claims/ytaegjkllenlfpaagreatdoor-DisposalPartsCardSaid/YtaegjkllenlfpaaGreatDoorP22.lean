/- The seat's texts, part P22. -/
import Derived.Test.YtaegjkllenlfpaaGreatDoorP10
import Derived.Test.YtaegjkllenlfpaaGreatDoorP20
import Derived.Test.YtaegjkllenlfpaaGreatDoorP21
import Derived.BigQuiet
import Derived.BigRegion
set_option maxRecDepth 100000
set_option maxHeartbeats 8000000
namespace Go.Proofs.YtaegjkllenlfpaaGreatDoor
section
open Go.RowKit
attribute [local go_sem] size_bs toList_bs
def kH(n:Nat):Bool:=(decide (12<(n:Int)) && decide ((n:Int)<999)) || decide (1002<(n:Int))
def dv(ls:List LotV):Bool:=kH ls.length || ls.any fK
theorem CB(ls:List LotV)(A:Option Addr)(c:Nat)(w:World)(hA:bv w A ls)(_hn:ls.length≤4611686018427387904) :
  Calls Tryz.prog 50 #[.slice A ls.length c] w fun e w'=>e = .returned (.bool (dv ls))∧Ext w w':=by
 have HA:=qh hA;clear hA;by_cases h:kH ls.length=true
 ·have HG:Hid (dv ls=true):=qh (by unfold dv;rw[h];rfl);unfold kH at h;go_enter Tryz.func50,Tryz.ntmps50
  cases a1:decide (12<(ls.length:Int)) <;> cases a2:decide ((ls.length:Int)<999) <;> cases a3:decide (1002<(ls.length:Int)) <;> simp only[a1,a2,a3]at h
  all_goals first
   |(exact absurd h (by decide))
   |(clear h
     go_wp2_with fail;go_ret;exact⟨by rw[HG.out];rfl,Ext.refl _⟩)
 ·have HG:Hid (dv ls=ls.any fK):=qh (by unfold dv;rw[Bool.not_eq_true]at h;rw[h];rfl);rw[Bool.not_eq_true]at h
  have hn:ls.length≤1002:=by
   have h2:=h;simp only[kH,Bool.or_eq_false_iff,decide_eq_false_iff_not]at h2;omega
  unfold kH at h;go_enter Tryz.func50,Tryz.ntmps50
  cases a1:decide (12<(ls.length:Int)) <;> cases a2:decide ((ls.length:Int)<999) <;> cases a3:decide (1002<(ls.length:Int)) <;> simp only[a1,a2,a3]at h
  all_goals first
   |(exact absurd h (by decide))
   |skip
  all_goals
   clear h;go_wp2_with fail;go_loopw [3] (fun i wr=>∃k:Nat,k≤ls.length∧i = .int .i64 k∧(∀x ∈ ls.take k,fK x=false)∧Ext w wr) (fun i _=>ls.length-(intOf i).toNat)
   case atStart=>exact⟨0,by omega,rfl,by simp,Ext.refl _⟩
   case round =>
    clear a1 a2 a3;obtain⟨k,hk,rfl,hz,hx⟩:=hrel;have HZ:=qh hz;have HX:=qh hx;clear hz hx;by_cases hlt:k<ls.length
    ·obtain⟨b,o,rfl,hb,c0,c1,c2,c3,c4,c5,c6⟩:=(HA.out.ext HX.out).at_ hlt;have HC:=qh (fun W=>vR (ls[k]'hlt) W)
     cases hg:fK (ls[k]'hlt)
     ·rw[hg]at HC
      have HT:Hid (∀x ∈ ls.take (k+1),fK x=false):=qh (by
       intro x hx;rw[List.take_succ_eq_append_getElem hlt]at hx;rcases List.mem_append.1 hx with h|h
       ·exact HZ.out x h
       ·rw[List.mem_singleton.1 h];exact hg)
      clear hg;generalize (ls[k]'hlt)=x at *;go_wp2_with fail;refine(HC.out _).mono ?_;rintro e w1⟨rfl,hx1⟩;replace HX:=HX.qt hx1;clear hx1;go_wp2_with fail;go_roundw
      case rel=>exact⟨k+1,by omega,by go_num,HT.out,HX.out⟩
      case measure=>simp[intOf];omega
     ·rw[hg]at HC;have HT:Hid (ls.any fK=true):=qh (List.any_eq_true.2 ⟨_,List.getElem_mem hlt,hg⟩);clear hg;generalize (ls[k]'hlt)=x at *;go_wp2_with fail;refine(HC.out _).mono ?_;rintro e w1⟨rfl,hx1⟩;replace HX:=HX.qt hx1;clear hx1;go_wp2_with fail;go_ret;exact⟨by rw[HG.out,HT.out];rfl,HX.out⟩
    ·have HT:Hid (ls.any fK=false):=qh (by
      have h:=HZ.out;rw[List.take_of_length_le (by omega)]at h;rw[List.any_eq_false];intro x hx;rw[h x hx];simp)
     go_wp2_with fail;go_ret;exact⟨by rw[HG.out,HT.out];rfl,HX.out⟩
end
section
open Go.RowKit
theorem lH{x:LotV}(h:fK x=false):x.q.length≤13∧x.c.length≤13∧x.u.length≤13∧x.id.length≤40∧x.ins.length≤40:=by
 unfold fK jO at h;simp only[Bool.or_eq_false_iff,decide_eq_false_iff_not]at h;omega
theorem ib{ls:List LotV}(h:dv ls=false):ls.length≤1002∧∀x ∈ ls,fK x=false:=by
 unfold dv kH at h;simp only[Bool.or_eq_false_iff,decide_eq_false_iff_not,List.any_eq_false,Bool.not_eq_true]at h;exact⟨by omega,h.2⟩
theorem ic{ls:List LotV}(h:dv ls=false):∀x ∈ ls,bE x:=fun x hx=>by
 have:=lH ((ib h).2 x hx);refine⟨?_,?_,?_,?_,?_⟩ <;> omega
theorem fF{ls:List LotV}{ins:Bs}{x:LotV}(h:x ∈ av ls ins):x ∈ ls∧x.ins=ins:=by
 have:=List.mem_filter.1 h;exact⟨this.1,by simpa using this.2⟩
theorem uu{ls:List LotV}{ins:Bs}(h:aA ls=0)(hl:0<(av ls ins).length):0<aH ls ins:=by
 refine wG _ ?_ (by rw[List.length_map];exact hl);intro v hv;obtain⟨x,hx,rfl⟩:=List.mem_map.1 hv;exact(bU ((aF h).2 x (fF hx).1)).2.2.1
theorem vS{ls:List LotV}{ins:Bs}(h:aA ls=0):0≤aZ ls ins:=by
 refine fw _ ?_;intro v hv;obtain⟨x,hx,rfl⟩:=List.mem_map.1 hv;exact(bU ((aF h).2 x (fF hx).1)).2.2.2.1
end
section
open Go.RowKit
def pz(ch:Nat→LotV→LotV):Nat→List LotV→List LotV
 |_,[]=>[]
 |n,x :: r=>ch n x :: pz ch (n+1) r
theorem rA{ch:Nat→LotV→LotV}{ins:Bs}(hch:∀n x,(ch n x).ins=x.ins):∀(l:List LotV) (n:Nat),av (fV ch ins n l) ins=pz ch n (av l ins)
 |[],_=>rfl
 |x :: r,n=>by
  unfold fV;by_cases h:x.ins=ins
  ·rw[if_pos h,dC,if_pos (by rw[hch];exact h),dC,if_pos h,rA hch r];rfl
  ·rw[if_neg h,dC,if_neg h,dC,if_neg h,rA hch r]
theorem uv{α:Type}{ch:Nat→LotV→LotV}{f:LotV→α}(hf:∀n x,f (ch n x)=f x):∀(l:List LotV) (n:Nat),(pz ch n l).map f=l.map f
 |[],_=>rfl
 |x :: r,n=>by simp[pz,hf,uv hf r]
theorem rB{α:Type}{ch:Nat→LotV→LotV}{ins:Bs}{f:LotV→α}(hf:∀n x,f (ch n x)=f x):∀(l:List LotV) (n:Nat),(fV ch ins n l).map f=l.map f
 |[],_=>rfl
 |x :: r,n=>by
  unfold fV;split
  ·simp[hf,rB hf r]
  ·simp[rB hf r]
theorem rC{ch:Nat→LotV→LotV}{ins:Bs}{x:LotV}:∀(l:List LotV) (n:Nat),x ∈ fV ch ins n l→(x ∈ l∧x.ins≠ins)∨∃k y,y ∈ l∧y.ins=ins∧x=ch k y∧n≤k∧k<n+(av l ins).length
 |[],_,h=>by cases h
 |y :: r,n,h=>by
  unfold fV at h;rw[dC];by_cases e:y.ins=ins
  ·rw[if_pos e]at h;rw[if_pos e,List.length_cons];rcases List.mem_cons.1 h with rfl|h
   ·exact .inr ⟨n,y,by simp,e,rfl,by omega,by omega⟩
   ·rcases rC r (n+1) h with ⟨k,ne⟩ | ⟨k,z,hz,hi,he,h1,h2⟩
    ·exact .inl ⟨List.mem_cons_of_mem _ k,ne⟩
    ·exact .inr ⟨k,z,List.mem_cons_of_mem _ hz,hi,he,by omega,by omega⟩
  ·rw[if_neg e]at h;rw[if_neg e];rcases List.mem_cons.1 h with rfl|h
   ·exact .inl ⟨by simp,e⟩
   ·rcases rC r n h with ⟨k,ne⟩ | ⟨k,z,hz,hi,he,h1,h2⟩
    ·exact .inl ⟨List.mem_cons_of_mem _ k,ne⟩
    ·exact .inr ⟨k,z,List.mem_cons_of_mem _ hz,hi,he,h1,h2⟩
def jj(ss:List Bs)(n:Nat)(x:LotV):LotV:={ x with c:=ss.getD n [] }
theorem lI{ls:List LotV}{ins:Bs}(h:(av ls ins).length≠0):da ls ins=fV (jj (eI ls ins)) ins 0 ls:=by
 unfold da;rw[if_neg h];rfl
theorem jk{ls:List LotV}{ins:Bs}(h:(av ls ins).length=0):da ls ins=ls:=by unfold da;rw[if_pos h]
theorem qv(ss:List Bs):∀(l:List LotV) (n:Nat),n+l.length=ss.length→(pz (jj ss) n l).map (·.c)=ss.drop n
 |[],n,h=>by
  rw[List.drop_of_length_le (by simp at h;omega)];rfl
 |x :: r,n,h=>by
  have hn:n<ss.length:=by simp at h;omega
  simp only[pz,List.map_cons];rw[qv ss r (n+1) (by simp at h ⊢;omega),List.drop_eq_getElem_cons hn];congr 1
  show ss.getD n []=_;rw[List.getD_eq_getElem?_getD,List.getElem?_eq_getElem hn];rfl
section
variable {ls:List LotV} {ins:Bs}
theorem CE{α:Type}{f:LotV→α}(hf:∀n x,f (jj (eI ls ins) n x)=f x):(da ls ins).map f=ls.map f:=by
 by_cases h:(av ls ins).length=0
 ·rw[jk h]
 ·rw[lI h];exact rB hf ls 0
theorem uw:av (da ls ins) ins=pz (jj (eI ls ins)) 0 (av ls ins):=by
 by_cases h:(av ls ins).length=0
 ·rw[jk h,List.length_eq_zero_iff.1 h];rfl
 ·rw[lI h];exact rA (ch:=jj (eI ls ins)) (fun _ _=>rfl) ls 0
theorem CG:gz (da ls ins) ins=gz ls ins:=by
 unfold gz;rw[uw];exact uv (ch:=jj (eI ls ins)) (fun _ _=>rfl) _ _
theorem nZ(ls:List LotV)(ins:Bs):aH ls ins=((gz ls ins).map valI).sum:=by
 unfold aH gz;rw[List.map_map];rfl
theorem zS:aH (da ls ins) ins=aH ls ins:=by rw[nZ,nZ,CG]
theorem E4:(eI ls ins).map valI=cI (aZ ls ins) ((gz ls ins).map valI):=by
 unfold eI;rw[List.map_map];have:(valI ∘ af)=id:=by funext z;exact ah z
 rw[this,List.map_id]
theorem xT:(av (da ls ins) ins).map (·.c)=eI ls ins:=by
 rw[uw,qv _ _ 0 (by rw[ru];omega),List.drop_zero]
theorem zT(hv:aA ls=0):aZ (da ls ins) ins=aZ ls ins:=by
 by_cases h:(av ls ins).length=0
 ·rw[jk h]
 ·have e:aZ (da ls ins) ins=((av (da ls ins) ins).map (·.c) |>.map valI).sum:=by unfold aZ;rw[List.map_map];rfl
  rw[e,xT,E4];exact pO (by rw[←nZ];exact uu hv (by omega))
theorem vT{x:LotV}{c:Bs}(h:aU x=0)(h1:checkI c=0)(h2:0≤valI c):aU { x with c:=c }=0:=by
 have hk:=bU h;unfold aU at h ⊢;split at h
 ·cases h
 split at h
 ·cases h
 split at h
 ·cases h
 split at h
 ·cases h
 split at h
 ·cases h
 rename_i a1 a2 a3 a4 a5
 rw[if_neg a1,if_neg a2,if_neg a3,if_neg (by simp only[not_or,Decidable.not_not]at a4 ⊢;exact⟨a4.1,h1,a4.2.2⟩),if_neg (by simp only[not_or]at a5 ⊢;exact⟨a5.1,by omega,a5.2.2⟩)]
theorem H8(hv:aA ls=0)(hl:0<(av ls ins).length){a:Bs}(h:a ∈ eI ls ins):∃v:Int,a=af v∧0≤v∧v≤aZ ls ins:=by
 obtain⟨v,hv',rfl⟩:=List.mem_map.1 h;have hT:=vS (ins:=ins) hv;have e:cI (aZ ls ins) ((gz ls ins).map valI)=bG (aZ ls ins) ((gz ls ins).map valI):=by unfold cI;rw[if_neg (by omega)]
 rw[e]at hv';have hS:0<((gz ls ins).map valI).sum:=by rw[←nZ];exact uu hv hl
 have hnn:=nj hT (fun x hx=>by
  obtain⟨q,hq,rfl⟩:=List.mem_map.1 hx;obtain⟨y,hy,rfl⟩:=List.mem_map.1 hq;exact Int.le_of_lt (bU ((aF hv).2 y (fF hy).1)).2.2.1) hS
 have hs:=mN (T:=aZ ls ins) hS;refine⟨v,rfl,hnn v hv',?_⟩;rw[←hs];clear e hs;generalize bG (aZ ls ins) ((gz ls ins).map valI)=l at *;induction l with
 |nil=>cases hv'
 |cons a r ih =>
  rw[List.sum_cons];have h0:=hnn a (by simp);have h1:=fw r (fun x hx=>hnn x (by simp[hx]));rcases List.mem_cons.1 hv' with rfl|hm
  ·omega
  ·have:=ih hm (fun x hx=>hnn x (by simp[hx]));omega
theorem pA(hv:aA ls=0){x:LotV}(h:x ∈ da ls ins):x ∈ ls∨∃y v,y ∈ ls∧x={ y with c:=af v }∧0≤v∧v≤aZ ls ins:=by
 by_cases h0:(av ls ins).length=0
 ·rw[jk h0]at h;exact .inl h
 ·rw[lI h0]at h;rcases rC ls 0 h with ⟨k,_⟩ | ⟨k,y,hy,hi,rfl,_,h2⟩
  ·exact .inl k
  ·have hk:k<(eI ls ins).length:=by rw[ru];omega
   have hm:(eI ls ins).getD k [] ∈ eI ls ins:=by rw[List.getD_eq_getElem?_getD,List.getElem?_eq_getElem hk];exact List.getElem_mem _
   obtain⟨v,e,h1,h3⟩:=H8 hv (by omega) hm;refine .inr ⟨y,v,hy,?_,h1,h3⟩;unfold jj;rw[e]
theorem xU(hv:aA ls=0):∀x ∈ da ls ins,aU x=0:=by
 intro x hx;rcases pA hv hx with h | ⟨y,v,hy,rfl,h1,_⟩
 ·exact(aF hv).2 x h
 ·exact vT ((aF hv).2 y hy) (pR v) (by rw[ah];exact h1)
theorem oU:∀(l m:List LotV) (seen:List Bs),(∀x ∈ l,aU x=0)→(∀x ∈ m,aU x=0)→l.map (·.id)=m.map (·.id)→dH seen l=dH seen m
 |[],[],_,_,_,_=>rfl
 |[],_ :: _,_,_,_,h=>by simp at h
 |_ :: _,[],_,_,_,h=>by simp at h
 |x :: r,y :: s,seen,h1,h2,h=>by
  simp only[List.map_cons,List.cons.injEq]at h;have hx:=h1 x (by simp);have hy:=h2 y (by simp);by_cases hm:x.id ∈ seen
  ·rw[ja.2.1 hx hm,ja.2.1 hy (by rw[←h.1];exact hm)]
  ·rw[ja.2.2 hx hm,ja.2.2 hy (by rw[←h.1];exact hm),h.1];exact oU r s _ (fun z hz=>h1 z (by simp[hz])) (fun z hz=>h2 z (by simp[hz])) h.2
theorem sP(hv:aA ls=0):aA (da ls ins)=0:=by
 have hi:(da ls ins).map (·.id)=ls.map (·.id):=CE (fun _ _=>rfl);have h0:=aF hv;unfold aA at hv ⊢;rw[nJ];split at hv
 ·cases hv
 ·rename_i hn
  rw[if_neg hn,oU _ ls [] (xU (by unfold aA;rw[if_neg hn];exact hv)) h0.2 hi];exact hv
theorem xV{L:Nat}(hv:aA ls=0)(hs:∀x ∈ ls,x.c.length≤L∧x.q.length≤1000∧x.u.length≤1000∧x.id.length≤1000∧x.ins.length≤1000)(hL:L≤900)(hn:ls.length≤1000):∀x ∈ da ls ins,bE x:=by
 intro x hx;rcases pA hv hx with h | ⟨y,v,hy,rfl,h1,h2⟩
 ·have:=hs x h;refine⟨?_,?_,?_,?_,?_⟩ <;> omega
 ·have:=hs y hy;refine⟨by simp only;omega,by simp only;omega,by simp only;omega,?_,by simp only;omega⟩;show(af v).length≤1000;have hc:=tQ (fun x=>x.c) L (av ls ins) (fun z hz=>(hs z (fF hz).1).1) (by have:(av ls ins).length≤ls.length:=List.length_filter_le _ _;omega);have hm:=gg (z:=v) (l:=af (aZ ls ins)) (by rw[ah];omega) (L:=L+7) hc;omega
end
theorem sv:∀(l:List LotV) (seen:List Bs),dH seen l=0→(l.map (·.id)).Nodup∧∀a ∈ l.map (·.id),a ∉ seen
 |[],_,_=>⟨by simp,by simp⟩
 |x :: r,seen,h=>by
  unfold dH at h;split at h
  ·rename_i hc;exact absurd h hc
  ·split at h
   ·cases h
   ·rename_i hm
    obtain⟨h1,h2⟩:=sv r _ h;refine⟨?_,?_⟩
    ·rw[List.map_cons,List.nodup_cons];exact⟨fun hx=>h2 _ hx (by simp),h1⟩
    ·intro a ha;rw[List.map_cons]at ha;rcases List.mem_cons.1 ha with e|h'
     ·rw[e];exact hm
     ·exact fun hs=>h2 a h' (by simp[hs])
theorem cV{ls:List LotV}(h:aA ls=0):(ls.map (·.id)).Nodup:=by
 unfold aA at h;split at h
 ·cases h
 ·exact(sv _ _ h).1
theorem jE:∀(ls:List LotV) (k:Nat) (hk:k<ls.length),(ls.map (·.id)).Nodup→bK ls (ls[k]'hk).id=some k
 |[],k,hk,_=>by simp at hk
 |x :: r,0,_,_=>by simp[bK]
 |x :: r,k+1,hk,h=>by
  rw[List.map_cons,List.nodup_cons]at h;have hk':k<r.length:=by simpa using hk
  unfold bK;simp only[List.getElem_cons_succ];rw[if_neg,jE r k hk' h.2]
  ·rfl
  ·intro e;exact h.1 (by rw[e];exact List.mem_map_of_mem (List.getElem_mem _))
end
section
open Go.RowKit
attribute [local go_sem] size_bs toList_bs
theorem rD(ls:List LotV)(id:Bs):(bK ls id).isSome=true↔id ∈ ls.map (·.id):=by
 induction ls with
 |nil=>simp[bK]
 |cons x r ih =>
  unfold bK;by_cases h:x.id=id
  ·simp[h]
  ·rw[if_neg h];simp only[Option.isSome_map,List.map_cons,List.mem_cons];rw[ih];constructor
   ·exact fun k => .inr k
   ·rintro(k|k)
    ·exact absurd k.symm h
    ·exact k
end
section
open Go.RowKit
theorem qw:∀(l:List LotV) (seen:List Bs),(∀x ∈ l,aU x=0)→(l.map (·.id)).Nodup→(∀a ∈ l.map (·.id),a ∉ seen)→dH seen l=0
 |[],_,_,_,_=>rfl
 |x :: r,seen,h1,h2,h3=>by
  have e1:=h1 x (by simp);have e2:=h3 x.id (by simp);rw[List.map_cons,List.nodup_cons]at h2;unfold dH;rw[if_neg (by omega),if_neg e2];refine qw r _ (fun y hy=>h1 y (List.mem_cons_of_mem _ hy)) h2.2 (fun a ha=>?_);rw[List.mem_append,List.mem_singleton];rintro(h|h)
  ·exact h3 a (by rw[List.map_cons];exact List.mem_cons_of_mem _ ha) h
  ·subst h;exact h2.1 ha
end
section
open Go.RowKit
def di(ps:List Fr)(id:Bs):Option Bs:=(ps.find? (fun p=>p.num == id)).map (·.den)
def lk(ls:List LotV)(id:Bs):Option LotV:=ls.find? (fun x=>decide (x.id=id))
def bW(ps:List Fr)(x:LotV):Option LotV:=match di ps x.id with
 |none=>some x
 |some d=>if x.q=d then none else some (cU x d)
def jF(ls:List LotV)(p:Fr):LotV:=match lk ls p.num with
 |some x=>if x.q=p.den then x else du x p.den
 |none=>bt
structure PicksOK (ls:List LotV) (ps:List Fr):Prop where
 nod:(ps.map (·.num)).Nodup
 at_:∀p ∈ ps,∃x ∈ ls,x.id=p.num∧0<valI p.den∧valI p.den≤valI x.q
 den:∀p ∈ ps,checkI p.den=0
theorem m6:∀(ls:List LotV) (id:Bs),lk ls id=(bK ls id).bind (fun i=>ls[i]?)
 |[],_=>rfl
 |x :: r,id=>by
  unfold lk bK;rw[List.find?_cons];by_cases h:x.id=id
  ·simp[h]
  ·have:=m6 r id;unfold lk at this
   simp only[h,decide_false,if_false,this]
   cases bK r id <;> simp
theorem nK{ls:List LotV}{id:Bs}(h:∃x ∈ ls,x.id=id):∃k,∃hk:k<ls.length,bK ls id=some k∧(ls[k]'hk).id=id:=by
 obtain⟨x,hx,e⟩:=h;have:(bK ls id).isSome=true:=(rD ls id).2 (by rw[←e];exact List.mem_map_of_mem hx)
 cases h2:bK ls id with
 |none=>rw[h2]at this;cases this
 |some k =>
  obtain⟨a,b⟩:=mR h2;exact⟨k,a,rfl,b a⟩
theorem uy{ls:List LotV}{k:Nat}(hk:k<ls.length):ls=ls.take k++(ls[k]'hk) :: ls.drop (k+1):=by
 rw[List.getElem_cons_drop,List.take_append_drop]
theorem ma{ls:List LotV}{k:Nat}:ls.eraseIdx k=ls.take k++ls.drop (k+1):=List.eraseIdx_eq_take_drop_succ ..
theorem sw{ls:List LotV}{k:Nat}(hk:k<ls.length)(y:LotV):ls.set k y=ls.take k++y :: ls.drop (k+1):=List.set_eq_take_append_cons_drop .. |>.trans (if_pos hk)
theorem sA{A B:List LotV}{x:LotV}(h:((A++x :: B).map (·.id)).Nodup):((A++B).map (·.id)).Nodup∧∀y ∈ A++B,y.id≠x.id:=by
 have hp:((A++x :: B).map (·.id)).Perm (x.id :: (A++B).map (·.id)):=(List.perm_middle (a:=x) (l₁:=A) (l₂:=B)).map _;have h2:=hp.nodup_iff.1 h;rw[List.nodup_cons]at h2;exact⟨h2.2,fun y hy e=>h2.1 (by rw[←e];exact List.mem_map_of_mem hy)⟩
theorem mb(p:Fr)(ps:List Fr)(id:Bs):di (p :: ps) id=if p.num=id then some p.den else di ps id:=by
 unfold di;rw[List.find?_cons];by_cases h:p.num=id
 ·simp[h]
 ·have h2:(p.num == id)=false:=by simpa using h
  rw[h2,if_neg h]
theorem me{ps:List Fr}{id:Bs}(h:∀p ∈ ps,p.num≠id):di ps id=none:=by
 unfold di;rw[List.find?_eq_none.2 (fun p hp=>by simpa using h p hp)];rfl
theorem xW{p:Fr}{ps:List Fr}{y:LotV}(h:y.id≠p.num):bW (p :: ps) y=bW ps y:=by
 unfold bW;rw[mb,if_neg (fun e=>h e.symm)]
theorem kY{α β:Type}{f g:α→Option β}{l:List α}(h:∀x ∈ l,f x=g x):l.filterMap f=l.filterMap g:=by
 induction l with
 |nil=>rfl
 |cons x r ih=>rw[List.filterMap_cons,List.filterMap_cons,h x (by simp),ih (fun y hy=>h y (by simp[hy]))]
theorem sB{A B:List LotV}{m:List LotV}{p:Fr}(hm:∀z ∈ m,z.id≠p.num):jF (A++(m++B)) p=jF (A++B) p:=by
 unfold jF lk;have e:m.find? (fun x=>decide (x.id=p.num))=none:=List.find?_eq_none.2 (fun z hz=>by simpa using hm z hz);rw[List.find?_append,List.find?_append,List.find?_append,e,Option.none_or]
theorem PicksOK.tail{ls:List LotV}{p:Fr}{ps:List Fr}(h:PicksOK ls (p :: ps))(ls':List LotV)(hl:∀x ∈ ls,x.id≠p.num→x ∈ ls'):PicksOK ls' ps:=by
 have h1:=h.nod;rw[List.map_cons,List.nodup_cons]at h1;refine⟨h1.2,fun q hq=>?_,fun q hq=>h.den q (by simp[hq])⟩;obtain⟨x,hx,e,e2⟩:=h.at_ q (by simp[hq]);exact⟨x,hl x hx (fun e3=>h1.1 (by rw[←e3,e];exact List.mem_map_of_mem hq)),e,e2⟩
theorem gB:∀(ps:List Fr) (ls:List LotV),(ls.map (·.id)).Nodup→PicksOK ls ps→aR ls ps=(ls.filterMap (bW ps),ps.map (jF ls))
 |[],ls,_,_=>by
  have:ls.filterMap (bW [])=ls:=by
   have e:bW []=some:=by funext x;rfl
   rw[e,List.filterMap_some]
  rw[this];rfl
 |p :: ps,ls,hn,h=>by
  obtain⟨x0,hx0,e0,e1,e2⟩:=h.at_ p (by simp);obtain⟨k,hk,hf,he⟩:=nK ⟨x0,hx0,e0⟩;have hx:ls[k]? = some (ls[k]'hk):=List.getElem?_eq_getElem hk;have h3:=uy hk;have hlk:lk ls p.num=some (ls[k]'hk):=by rw[m6,hf];exact hx
  have hT:jF ls p=if(ls[k]'hk).q=p.den then(ls[k]'hk) else du (ls[k]'hk) p.den:=by unfold jF;rw[hlk]
  have hR:bW (p :: ps) (ls[k]'hk)=if(ls[k]'hk).q=p.den then none else some (cU (ls[k]'hk) p.den):=by
   unfold bW;rw[mb,if_pos he.symm]
  have hn1:=h.nod;rw[List.map_cons,List.nodup_cons]at hn1;have hps:∀q ∈ ps,(ls[k]'hk).id≠q.num:=fun q hq e=>hn1.1 (by rw[←he,e];exact List.mem_map_of_mem hq)
  unfold aR;rw[hf];simp only[hx];generalize ls[k]'hk=x at *;generalize hA:ls.take k=A at *;generalize hB:ls.drop (k+1)=B at *;obtain⟨n1,n2⟩:=sA (by rw[←h3];exact hn);have hrest:∀y ∈ A++B,bW (p :: ps) y=bW ps y:=fun y hy=>xW (by rw[←he];exact n2 y hy)
  have hmem:∀y ∈ ls,y.id≠p.num→y ∈ A++B:=by
   intro y hy hne;rw[h3]at hy;rcases List.mem_append.1 hy with h1|h1
   ·exact List.mem_append_left _ h1
   ·rcases List.mem_cons.1 h1 with rfl|h1
    ·exact absurd he hne
    ·exact List.mem_append_right _ h1
  have hl:ls.filterMap (bW (p :: ps))=A.filterMap (bW ps)++((if x.q=p.den then [] else [cU x p.den])++B.filterMap (bW ps)):=by
   rw[h3,List.filterMap_append,List.filterMap_cons,hR,kY (fun y hy=>hrest y (List.mem_append_left _ hy)),kY (l:=B) (fun y hy=>hrest y (List.mem_append_right _ hy))];congr 1
   split <;> rename_i e <;> split at e <;> simp_all
  have hmap:∀m:List LotV,(∀z ∈ m,z.id=x.id)→ps.map (jF (A++(m++B)))=ps.map (jF ls):=by
   intro m hm;apply List.map_congr_left;intro q hq;have t1:=sB (A:=A) (B:=B) (m:=m) (p:=q) (fun z hz e=>hps q hq ((hm z hz).symm.trans e));have t2:=sB (A:=A) (B:=B) (m:=[x]) (p:=q) (fun z hz e=>by simp at hz;rw[hz]at e;exact hps q hq e);rw[t1,←t2,h3];rfl
  rw[List.map_cons,hT,hl];by_cases hq:x.q=p.den
  ·rw[if_pos hq,if_pos hq,if_pos hq,ma,hA,hB,gB ps (A++B) n1 (h.tail _ hmem),List.filterMap_append];have:=hmap [] (by simp);rw[List.nil_append]at this
   rw[this];rfl
  ·rw[if_neg hq,if_neg hq,if_neg hq,sw hk,hA,hB];have hid:(cU x p.den).id=x.id:=rfl
   have n3:((A++cU x p.den :: B).map (·.id)).Nodup:=by
    have e:(A++cU x p.den :: B).map (·.id)=(A++x :: B).map (·.id):=by simp[hid]
    rw[e,←h3];exact hn
   have hmem2:∀y ∈ ls,y.id≠p.num→y ∈ A++cU x p.den :: B:=by
    intro y hy hne;rcases List.mem_append.1 (hmem y hy hne) with h1|h1
    ·exact List.mem_append_left _ h1
    ·exact List.mem_append_right _ (List.mem_cons_of_mem _ h1)
   rw[gB ps _ n3 (h.tail _ hmem2),List.filterMap_append,List.filterMap_cons]
   have hc:bW ps (cU x p.den)=some (cU x p.den):=by
    unfold bW;rw[hid,me (fun q hq e=>hps q hq e.symm)]
   have:=hmap [cU x p.den] (by simp[hid]);rw[List.singleton_append]at this
   rw[hc,this];rfl
theorem Ea(a b:Rat):a<b∨b≤a:=by
 by_cases h:a<b
 ·exact .inl h
 ·exact .inr (Rat.not_lt.1 h)
theorem zU{t p a:Int}(ht:0≤t)(hp:0≤p)(ha:p≤a)(h0:0<a):0≤dS t p a∧dS t p a≤t:=by
 obtain⟨n1,n2⟩:=vK (Rat.divInt (t*p) a);have ha':(0:Rat)<(a:Rat):=by exact_mod_cast h0
 have e:Rat.divInt (t*p) a*(a:Rat)=((t*p:Int):Rat):=by
  rw[Rat.divInt_eq_div,Rat.div_mul_cancel (Rat.ne_of_gt ha')]
 have q0:(0:Rat)≤Rat.divInt (t*p) a:=by
  rcases Ea (Rat.divInt (t*p) a) 0 with h|h
  ·have h1:Rat.divInt (t*p) a*(a:Rat)<0:=by
    have:=Rat.mul_lt_mul_of_pos_right h ha';rwa[Rat.zero_mul]at this
   rw[e]at h1;have h2:(t*p:Int)<0:=by exact_mod_cast h1
   have:=Int.mul_nonneg ht hp;omega
  ·exact h
 have q1:Rat.divInt (t*p) a≤(t:Rat):=by
  rcases Ea (t:Rat) (Rat.divInt (t*p) a) with h|h
  ·have h1:=Rat.mul_lt_mul_of_pos_right h ha';rw[e,←Rat.intCast_mul]at h1;have h2:t*a<t*p:=by exact_mod_cast h1
   have:=Int.mul_le_mul_of_nonneg_left ha ht;omega
  ·exact h
 unfold dS;generalize Rat.divInt (t*p) a=q at *
 have r0:(((-1:Int)):Rat)<((bX q:Int):Rat):=by
  have:(((-1:Int)):Rat) = -1:=by norm_cast
  rw[this];grind
 have r1:((bX q:Int):Rat)<(((t+1:Int)):Rat):=by
  rw[Rat.intCast_add];have:(((1:Int)):Rat)=1:=by norm_cast
  rw[this];grind
 have s0:(-1:Int)<bX q:=by exact_mod_cast r0
 have s1:bX q<t+1:=by exact_mod_cast r1
 omega
theorem uz{x:LotV}{d:Bs}(h:aU x=0)(hd:checkI d=0)(h0:0<valI d)(h1:valI d<valI x.q):aU (du x d)=0∧aU (cU x d)=0:=by
 obtain⟨o1,o2,o3,o4,o5⟩:=bU h;obtain⟨s1,s2⟩:=zU o4 (Int.le_of_lt h0) (Int.le_of_lt h1) o3
 have key:∀q c u:Bs,checkI q=0→checkI c=0→0<valI q→0≤valI c→(u=[]∨u=q)→aU { x with q:=q,c:=c,u:=u }=0:=by
  intro q c u k1 k2 k3 k4 k5;unfold aU at h ⊢
  have ku:checkI u=0:=by
   rcases k5 with rfl|rfl
   ·decide
   ·exact k1
  split at h
  ·simp at h
  ·rename_i g1
   rw[if_neg g1];split at h
   ·simp at h
   ·rename_i g2
    rw[if_neg g2];split at h
    ·simp at h
    ·rename_i g3
     rw[if_neg g3,if_neg (by simp only[k1,k2,ku];simp),if_neg];simp only;rcases k5 with rfl|rfl <;> simp <;> omega
 refine⟨key d _ _ hd (gA _) h0 (by rw[ah];exact s1) ?_,key _ _ _ (gA _) (gA _) (by rw[ah];omega) (by rw[ah];omega) ?_⟩
 ·split <;> simp
 ·split <;> simp
theorem rE{ls:List LotV}{p:Fr}(hn:(ls.map (·.id)).Nodup){x:LotV}(hx:x ∈ ls)(he:x.id=p.num):jF ls p=if x.q=p.den then x else du x p.den:=by
 obtain⟨k,hk,rfl⟩:=List.mem_iff_getElem.1 hx;have:=jE ls k hk hn;unfold jF;rw[m6,←he,this];simp[hk]
theorem wL(f:LotV→Int)(ins:Bs):∀(ps:List Fr) (ls:List LotV),(ls.map (·.id)).Nodup→PicksOK ls ps→(∀x ∈ ls,∀p ∈ ps,x.id=p.num→x.q≠p.den→f (du x p.den)+f (cU x p.den)=f x) →
  ((av (aR ls ps).1 ins).map f).sum+((av (aR ls ps).2 ins).map f).sum=((av ls ins).map f).sum:=by
 intro ps ls hn h hf;rw[gB ps ls hn h]
 have key:∀l:List LotV,(∀x ∈ l,x ∈ ls)→((av (l.filterMap (bW ps)) ins).map f).sum+(l.map (fun x=>if x.ins=ins then(match di ps x.id with|some d=>if x.q=d then f x else f (du x d)|none=>0) else 0)).sum=((av l ins).map f).sum:=by
  intro l;induction l with
  |nil=>intro _;rfl
  |cons x r ih =>
   intro hl;have ih:=ih (fun y hy=>hl y (by simp[hy]));rw[List.filterMap_cons,List.map_cons,List.sum_cons,dC];have hx:=hl x (by simp)
   cases hp:di ps x.id with
   |none =>
    have hr:bW ps x=some x:=by unfold bW;rw[hp]
    rw[hr];simp only;rw[dC];split <;> (try simp only[List.map_cons,List.sum_cons]) <;> omega
   |some d =>
    have hpd:∃p ∈ ps,x.id=p.num∧p.den=d:=by
     unfold di at hp;obtain⟨p,h1,h2⟩:=Option.map_eq_some_iff.1 hp;have h3:=List.find?_some h1;exact⟨p,List.mem_of_find?_eq_some h1,by simpa using(beq_iff_eq.1 h3).symm,h2⟩
    obtain⟨p,hp1,hp2,rfl⟩:=hpd;by_cases hq:x.q=p.den
    ·have hr:bW ps x=none:=by unfold bW;rw[hp];exact if_pos hq
     rw[hr];simp only[if_pos hq];split <;> (try simp only[List.map_cons,List.sum_cons]) <;> omega
    ·have:=hf x hx p hp1 hp2 hq;have hr:bW ps x=some (cU x p.den):=by unfold bW;rw[hp];exact if_neg hq
     rw[hr];simp only[if_neg hq];rw[dC];have hi:(cU x p.den).ins=x.ins:=rfl;rw[hi];split <;> (try simp only[List.map_cons,List.sum_cons]) <;> omega
 have k1:=key ls (fun _ h=>h);suffices hs:(ls.map (fun x=>if x.ins=ins then(match di ps x.id with|some d=>if x.q=d then f x else f (du x d)|none=>0) else 0)).sum=((av (ps.map (jF ls)) ins).map f).sum by rw[←hs];exact k1
 clear k1 key hf;have hins:∀x d,(if x.q=d then x else du x d:LotV).ins=x.ins:=by intro x d;split <;> rfl
 have step:∀ps:List Fr,PicksOK ls ps→(ls.map (fun x=>if x.ins=ins then(match di ps x.id with|some d=>if x.q=d then f x else f (du x d)|none=>0) else 0)).sum=((av (ps.map (jF ls)) ins).map f).sum:=by
  intro ps;induction ps with
  |nil =>
   intro _
   have:ls.map (fun x=>if x.ins=ins then(match di [] x.id with|some d=>if x.q=d then f x else f (du x d)|none=>0) else 0)=ls.map (fun _=>(0:Int)):=by
    apply List.map_congr_left;intro x _;simp[di]
   rw[this];have z:∀l:List LotV,(l.map (fun _=>(0:Int))).sum=0:=by intro l;induction l with|nil=>rfl|cons _ _ ih=>simp[ih]
   rw[z];rfl
  |cons p ps ih =>
   intro h;have h':PicksOK ls ps:=h.tail ls (fun x hx _=>hx);obtain⟨x,hx,he,_⟩:=h.at_ p (by simp);have hn1:=h.nod;rw[List.map_cons,List.nodup_cons]at hn1;have hnp:di ps p.num=none:=me (fun q hq e=>hn1.1 (by rw[←e];exact List.mem_map_of_mem hq));rw[List.map_cons,dC,rE hn hx he,hins]
   have e:ls.map (fun y=>if y.ins=ins then(match di (p :: ps) y.id with|some d=>if y.q=d then f y else f (du y d)|none=>0) else 0)
     = ls.map (fun y=>(if y.ins=ins then(match di ps y.id with|some d=>if y.q=d then f y else f (du y d)|none=>0) else 0)-if y.id=x.id then -(if x.ins=ins then f (if x.q=p.den then x else du x p.den) else 0) else 0):=by
    apply List.map_congr_left;intro y hy;rw[mb];by_cases hyx:y.id=x.id
    ·have hyx2:y=x:=by
      obtain⟨i,hi,rfl⟩:=List.mem_iff_getElem.1 hy;obtain⟨j,hj,rfl⟩:=List.mem_iff_getElem.1 hx;have a1:=jE ls i hi hn;have a2:=jE ls j hj hn;rw[hyx,a2]at a1;injection a1 with a1
      subst a1;rfl
     subst hyx2;rw[if_pos he.symm,if_pos rfl,he,hnp];simp only;split <;> (try split) <;> simp
    ·have g:(if p.num=y.id then some p.den else di ps y.id)=di ps y.id:=if_neg (fun e2=>hyx (by rw[he,e2]));rw[g,if_neg hyx,Int.sub_zero]
   rw[e,wK hn hx,ih h'];split <;> (try simp only[List.map_cons,List.sum_cons]) <;> omega
 exact step ps h
theorem oh(x:LotV)(d:Bs):valI (du x d).q+valI (cU x d).q=valI x.q∧valI (du x d).c+valI (cU x d).c=valI x.c:=by
 constructor
 ·show valI d+valI (af _)=_;rw[ah];omega
 ·show valI (af _)+valI (af _)=_;rw[ah,ah];omega
theorem E5{ls:List LotV}{ps:List Fr}(ins:Bs)(hn:(ls.map (·.id)).Nodup)(h:PicksOK ls ps):aH (aR ls ps).1 ins+aH (aR ls ps).2 ins=aH ls ins∧aZ (aR ls ps).1 ins+aZ (aR ls ps).2 ins=aZ ls ins :=
 ⟨wL (fun x=>valI x.q) ins ps ls hn h (fun x _ p _ _ _=>(oh x p.den).1),wL (fun x=>valI x.c) ins ps ls hn h (fun x _ p _ _ _=>(oh x p.den).2)⟩
theorem uA{ps:List Fr}{x y:LotV}(h:bW ps x=some y):y.id=x.id∧y.ins=x.ins∧y.acq=x.acq∧y.opn=x.opn:=by
 unfold bW at h;split at h
 ·injection h with h;rw[←h];exact⟨rfl,rfl,rfl,rfl⟩
 ·split at h
  ·cases h
  ·injection h with h;rw[←h];exact⟨rfl,rfl,rfl,rfl⟩
theorem E6(ps:List Fr)(ls:List LotV):((ls.filterMap (bW ps)).map (·.id)).Sublist (ls.map (·.id)):=by
 induction ls with
 |nil=>exact List.Sublist.refl _
 |cons x r ih =>
  rw[List.filterMap_cons];split
  ·exact ih.cons _
  ·rename_i y hy
   rw[List.map_cons,List.map_cons,(uA hy).1];exact ih.cons_cons _
theorem zV{ps:List Fr}{id d:Bs}(h:di ps id=some d):∃p ∈ ps,p.num=id∧p.den=d:=by
 unfold di at h;obtain⟨p,h1,h2⟩:=Option.map_eq_some_iff.1 h;have h3:=List.find?_some h1;exact⟨p,List.mem_of_find?_eq_some h1,by simpa using h3,h2⟩
theorem xX{ls:List LotV}(hn:(ls.map (·.id)).Nodup){x y:LotV}(hx:x ∈ ls)(hy:y ∈ ls)(e:y.id=x.id):y=x:=by
 obtain⟨i,hi,rfl⟩:=List.mem_iff_getElem.1 hy;obtain⟨j,hj,rfl⟩:=List.mem_iff_getElem.1 hx;have a1:=jE ls i hi hn;have a2:=jE ls j hj hn;rw[e,a2]at a1;injection a1 with a1
 subst a1;rfl
theorem uB{ls:List LotV}(hv:∀x ∈ ls,aU x=0){x:LotV}(hx:x ∈ ls){d:Bs}(hd:checkI d=0)(hle:valI d≤valI x.q)(hne:x.q≠d):valI d<valI x.q:=by
 obtain⟨o1,_⟩:=bU (hv x hx);have:valI d≠valI x.q:=fun e=>hne (by rw[←dI.1 o1,←dI.1 hd,e])
 omega
theorem zW{ls:List LotV}{ps:List Fr}(hv:aA ls=0)(h:PicksOK ls ps):aA (aR ls ps).1=0∧∀x ∈ (aR ls ps).2,aU x=0:=by
 have hn:=cV hv;obtain⟨hl,hvx⟩:=aF hv;rw[gB ps ls hn h]
 have hcut:∀x ∈ ls,∀p ∈ ps,x.id=p.num→x.q≠p.den→aU (du x p.den)=0∧aU (cU x p.den)=0:=by
  intro x hx p hp e hne;obtain⟨y,hy,e1,e2,e3⟩:=h.at_ p hp;have:=xX hn hy hx (e.trans e1.symm);subst this
  exact uz (hvx x hx) (h.den p hp) e2 (uB hvx hx (h.den p hp) e3 hne)
 constructor
 ·unfold aA;rw[if_neg (by have:=List.length_filterMap_le (bW ps) ls;simp only;omega)];refine qw _ [] (fun y hy=>?_) ((E6 ps ls).nodup hn) (by simp);obtain⟨x,hx,hy⟩:=List.mem_filterMap.1 hy;unfold bW at hy;split at hy
  ·injection hy with hy;rw[←hy];exact hvx x hx
  ·rename_i d hd
   obtain⟨p,hp,e1,e2⟩:=zV hd;split at hy
   ·cases hy
   ·rename_i hq
    injection hy with hy
    rw[←hy,←e2];exact(hcut x hx p hp e1.symm (by rw[e2];exact hq)).2
 ·intro y hy;obtain⟨p,hp,rfl⟩:=List.mem_map.1 hy;obtain⟨x,hx,e1,_⟩:=h.at_ p hp;rw[rE hn hx e1];split
  ·exact hvx x hx
  ·rename_i hq;exact(hcut x hx p hp e1 hq).1
theorem xY{ls:List LotV}{ps:List Fr}(hn:(ls.map (·.id)).Nodup)(h:PicksOK ls ps){ins:Bs}(hi:∀p ∈ ps,∀x ∈ ls,x.id=p.num→x.ins=ins):(aR ls ps).1.filter (fun x=>decide (x.ins≠ins))=ls.filter (fun x=>decide (x.ins≠ins)):=by
 rw[gB ps ls hn h]
 have key:∀l:List LotV,(∀x ∈ l,x ∈ ls)→(l.filterMap (bW ps)).filter (fun x=>decide (x.ins≠ins))=l.filter (fun x=>decide (x.ins≠ins)):=by
  intro l;induction l with
  |nil=>intro _;rfl
  |cons x r ih =>
   intro hl;have ih:=ih (fun y hy=>hl y (by simp[hy]));rw[List.filterMap_cons,List.filter_cons];by_cases hx:x.ins=ins
   ·rw[if_neg (by simp[hx]),←ih];split
    ·rfl
    ·rename_i y hy
     rw[List.filter_cons,if_neg (by rw[(uA hy).2.1];simp[hx])]
   ·have:bW ps x=some x:=by
     unfold bW;rw[me (fun p hp e=>hx (hi p hp x (hl x (by simp)) e.symm))]
    rw[this];simp only;rw[List.filter_cons,if_pos (by simp[hx]),if_pos (by simp[hx]),ih]
 exact key ls (fun _ h=>h)
end
section
open Go.RowKit
theorem nL{fn:Nat→Int}:∀ {n:Nat},dJ fn n=0→∀k,k<n→fn k=0
 |0,_,k,hk=>absurd hk (by omega)
 |n+1,h,k,hk=>by
  unfold dJ at h;by_cases g:dJ fn n=0
  ·rw[if_neg (by simpa using g)]at h;by_cases e:k=n
   ·subst e;exact h
   ·exact nL g k (by omega)
  ·rw[if_pos g]at h;exact absurd h g
theorem CH{f:FactV}{ps:List Fr}{os:List OptV}(h:cA f ps os=0)(hk0:f.kind≠0){sp:KSp}(hs:eL f.kind=some sp):aB f.key=true∧0≤f.stamp ∧ -25567≤f.day∧f.day≤84005∧f.canc=false∧∀k,k<13→fj f ps os sp k=0:=by
 unfold cA at h;rw[hs]at h;split at h
 ·exact absurd h (by decide)
 rename_i g1
 split at h
 ·exact absurd h (by decide)
 rename_i g2
 split at h
 ·split at h
  ·rename_i g
   exact absurd g (by simp[bA,hk0])
  ·exact absurd h (by decide)
 rename_i g4
 split at h
 ·exact absurd h (by decide)
 rename_i g3
 exact⟨by simpa using g1,by omega,by omega,by omega,by simpa using g4,nL h⟩
theorem kZ{f:FactV}{ps:List Fr}{os:List OptV}{sp:KSp}{k:Nat}(h:fj f ps os sp k=0)(hb:sp.bits.getD k false=true):iC f ps os sp k=0:=by
 unfold fj at h;rwa[if_pos hb]at h
theorem E7{s:Bs}(h:fD s=0):aB s=true:=by
 unfold fD at h;by_cases g:aB s=true
 ·exact g
 ·rw[if_neg g]at h;exact absurd h (by decide)
theorem nM(n:Bs):aN ⟨n,[]⟩=((valI n:Int):Rat):=by
 have e:valI ([]:Bs)=0:=by decide
 unfold aN Gh oH;simp only[e,if_true];exact pM _
theorem m7{n:Bs}{p:Bool}(h:cN ⟨n,[]⟩ p false=0):checkI n=0∧dj n≤40∧0≤valI n∧(p=true→0<valI n):=by
 unfold cN at h;split at h
 ·exact absurd h (by decide)
 rename_i h1
 split at h
 ·exact absurd h (by decide)
 rename_i h2
 dsimp only at h2;split at h
 ·exact absurd h (by decide)
 rename_i h3
 have c1:cS ⟨n,[]⟩=0:=by simpa using h1
 have c2:af (valI n)=n:=by
  unfold cS at c1;rw[nM,wk]at c1;by_cases g:af (valI n)=n
  ·exact g
  ·rw[if_neg (by simp[g])]at c1;exact absurd c1 (by decide)
 have c3:¬ aN ⟨n,[]⟩<0:=fun g=>h3 (.inl (Bj.2 g))
 rw[nM]at c3
 have c4:0≤valI n:=by
  by_cases g:valI n<0
  ·exact absurd (by exact_mod_cast g) c3
  ·omega
 refine⟨dI.2 c2,by omega,c4,fun hp=>?_⟩;have c5:¬ aN ⟨n,[]⟩=0:=fun g=>h3 (.inr (.inl ⟨hp,yE.2 g⟩))
 rw[nM]at c5;have c6:valI n≠0:=fun g=>c5 (by rw[g];rfl)
 omega
theorem om{n:Bs}(h:dj n≤40):n.length≤41:=by
 rcases zf n with ⟨t,rfl,e⟩ | ⟨e,_⟩ | ⟨rfl,_⟩
 ·rw[e]at h;simp;omega
 ·omega
 ·simp
theorem uC{f:FactV}{ps:List Fr}{os:List OptV}{sp:KSp}{k:Nat}{a b:Bool}(h:iC f ps os sp k=0)(_:decide (k<4)=false)(_:decide (9<k)=false)(hk:iC f ps os sp k=match (sp.nums.getD []).lookup k with|some pq=>cN (iB f k) pq.1 pq.2|none=>0)(hl:(sp.nums.getD []).lookup k=some (a,b)):cN (iB f k) a b=0:=by
 rw[hk,hl]at h;exact h
structure SaleOK (f:FactV) (ps:List Fr):Prop where
 key:aB f.key=true
 ins:aB f.ins=true
 d0 : -25567≤f.day
 d1:f.day≤84005
 cq:checkI f.qty=0
 q0:0<valI f.qty
 ql:f.qty.length≤41
 ca:checkI f.amt=0
 a0:0≤valI f.amt
 al:f.amt.length≤41
 cf:checkI f.fee=0
 f0:0≤valI f.fee
 fl:f.fee.length≤41
 pl:ps.length≤64
 pk:∀p ∈ ps,checkI p.den=0∧0<valI p.den∧p.den.length≤41
theorem SaleOK.bad{f:FactV}{ps:List Fr}(h:SaleOK f ps):ps.any iU=false:=by
 rw[List.any_eq_false];intro p hp;obtain⟨a,b,_⟩:=h.pk p hp;simp[iU,a,b]
theorem CI{ps:List Fr}{q:Bs}(h:gv ps q=0):ps.length≤64∧∀p ∈ ps,checkI p.den=0∧0<valI p.den∧p.den.length≤41:=by
 unfold gv at h;split at h
 ·exact absurd h (by decide)
 rename_i h1
 split at h
 ·rename_i h2;exact absurd h h2
 rename_i h2
 have h3:dJ (eF ps) ps.length=0:=by
  by_cases g:dJ (eF ps) ps.length=0
  ·exact g
  ·exact absurd g h2
 refine⟨by omega,fun p hp=>?_⟩;obtain⟨k,hk,rfl⟩:=List.getElem_of_mem hp;have h4:=nL h3 k hk;unfold eF at h4;rw[List.getElem?_eq_getElem hk]at h4;dsimp only at h4;split at h4
 ·exact absurd h4 (by decide)
 split at h4
 ·exact absurd h4 (by decide)
 obtain⟨a,b,_,d⟩:=m7 h4;exact⟨a,d rfl,om b⟩
theorem E8{f:FactV}{ps:List Fr}{os:List OptV}(h:cA f ps os=0)(hk:f.kind=4):SaleOK f ps:=by
 have e:∃sp,eL 4=some sp∧sp.bits=[true,false,false,false,true,true,true,false,false,false,true,false,false]∧sp.nums.getD []=kg:=⟨_,rfl,rfl,rfl⟩;obtain⟨sp,e1,e2,e3⟩:=e;obtain⟨h1,_,h2,h3,_,h4⟩:=CH h (by omega) (hk ▸ e1);have g0:fD f.ins=0:=kZ (h4 0 (by decide)) (by rw[e2];rfl);have g4:iC f ps os sp 4=0:=kZ (h4 4 (by decide)) (by rw[e2];rfl);have g5:iC f ps os sp 5=0:=kZ (h4 5 (by decide)) (by rw[e2];rfl);have g6:iC f ps os sp 6=0:=kZ (h4 6 (by decide)) (by rw[e2];rfl);have g10:gv ps f.qty=0:=kZ (h4 10 (by decide)) (by rw[e2];rfl);have k4:=uC g4 rfl rfl rfl (by rw[e3];rfl:(sp.nums.getD []).lookup 4=some (true,false));have k5:=uC g5 rfl rfl rfl (by rw[e3];rfl:(sp.nums.getD []).lookup 5=some (false,false));have k6:=uC g6 rfl rfl rfl (by rw[e3];rfl:(sp.nums.getD []).lookup 6=some (false,false));obtain⟨a1,a2,_,a4⟩:=m7 k4;obtain⟨b1,b2,b3,_⟩:=m7 k5;obtain⟨c1,c2,c3,_⟩:=m7 k6;obtain⟨p1,p2⟩:=CI g10;exact { key:=h1,ins:=E7 g0,d0:=h2,d1:=h3,cq:=a1,q0:=a4 rfl,ql:=om a2,ca:=b1,a0:=b3,al:=om b2,cf:=c1,f0:=c3,fl:=om c2,pl:=p1,pk:=p2 }
end
section
open Go.RowKit
attribute [local go_sem] size_bs toList_bs
def jl(X U M V Y:List LotV)(k:Nat):List LotV:=X++(V.take k++(U.drop k++(M++(U.take k++(V.drop k++Y)))))
theorem CJ(X U M V Y:List LotV):jl X U M V Y 0=X++(U++(M++(V++Y))):=by simp[jl]
theorem CS{X U M V Y:List LotV}(h:U.length=V.length):jl X U M V Y U.length=X++(V++(M++(U++Y))):=by
 unfold jl;rw[List.take_length,List.drop_length,h,List.take_length,List.drop_length];simp
theorem wM{X U M V Y:List LotV}{k:Nat}(h:U.length=V.length)(hk:k≤U.length):(jl X U M V Y k).length=X.length+U.length+M.length+V.length+Y.length:=by
 simp[jl];omega
theorem pB{X U M V Y:List LotV}{k:Nat}(h:k<U.length)(h2:k<V.length):jl X U M V Y k=(X++V.take k)++U[k] :: (U.drop (k+1)++(M++U.take k))++V[k] :: (V.drop (k+1)++Y):=by
 unfold jl;rw[List.drop_eq_getElem_cons h,List.drop_eq_getElem_cons h2];simp only[List.append_assoc,List.cons_append]
theorem CU{X U M V Y:List LotV}{k:Nat}(h:k<U.length)(h2:k<V.length)(hl:U.length=V.length):((jl X U M V Y k).set (X.length+k) V[k]).set (X.length+U.length+M.length+k) U[k]=jl X U M V Y (k+1):=by
 have e:=Hv (X++V.take k) (U.drop (k+1)++(M++U.take k)) (V.drop (k+1)++Y) U[k] V[k];have l1:(X++V.take k).length=X.length+k:=by simp;omega
 have l2:(X++V.take k).length+1+(U.drop (k+1)++(M++U.take k)).length=X.length+U.length+M.length+k:=by simp;omega
 rw[l2,l1]at e;rw[pB h h2,e];unfold jl;rw[List.take_succ_eq_append_getElem h,List.take_succ_eq_append_getElem h2];simp only[List.append_assoc,List.cons_append,List.nil_append]
theorem H9{X U M V Y:List LotV}{k:Nat}(h:k<U.length)(h2:k<V.length)(hl:U.length=V.length):∃(h3:X.length+k<(jl X U M V Y k).length) (h4:X.length+U.length+M.length+k<(jl X U M V Y k).length),(jl X U M V Y k)[X.length+k]=U[k]∧(jl X U M V Y k)[X.length+U.length+M.length+k]=V[k]:=by
 have l:=wM (X:=X) (M:=M) (Y:=Y) hl (Nat.le_of_lt h);refine⟨by omega,by omega,?_,?_⟩
 ·have e:(jl X U M V Y k)[X.length+k]? = some U[k]:=by
   rw[pB h h2,List.append_assoc,List.getElem?_append_right (by simp;omega),show X.length+k-(X++V.take k).length=0 by simp;omega];rfl
  rw[List.getElem?_eq_getElem (by omega)]at e;injection e
 ·have e:(jl X U M V Y k)[X.length+U.length+M.length+k]? = some V[k]:=by
   rw[pB h h2,List.getElem?_append_right (by simp;omega),show X.length+U.length+M.length+k-((X++V.take k)++U[k] :: (U.drop (k+1)++(M++U.take k))).length=0 by simp;omega];rfl
  rw[List.getElem?_eq_getElem (by omega)]at e;injection e
theorem m8(X U M V Y:List LotV)(hl:U.length=V.length)(cf:Value)(g cap:Nat)(w:World)(hr:aP w g cap (X++(U++(M++(V++Y)))))(hn:(X++(U++(M++(V++Y)))).length≤1000000)(a b n N:Nat)(ha:X.length=a)(hb:X.length+U.length+M.length=b)(hN:(X++(U++(M++(V++Y)))).length=N)(hUn:U.length=n) :
  Calls Tryz.prog 374 #[.slice (some ⟨g,0,none⟩) N cap,.int .i64 a,.int .i64 b,.int .i64 n,cf] w fun e w'=>e = .returned (.tuple #[])∧aP w' g cap (X++(V++(M++(U++Y))))∧Only g w w':=by
 have HR0:=qh hr;have HN:=qh hN;have hbn:b+n≤N:=by simp at hN;omega
 have han:a+n≤b:=by omega
 have hNb:N≤1000000:=by omega
 have HA:=qh ha;have HB:=qh (show a+U.length+M.length=b by rw[←ha];exact hb);have HU:=qh hUn;clear hr hN hn ha hb hUn;go_enter Tryz.func374,Tryz.ntmps374;go_wp2_with fail;go_loopw [10] (fun i wr=>∃k:Nat,k≤n∧i = .int .i64 k∧aP wr g cap (jl X U M V Y k)∧Only g w wr) (fun i _=>n-(intOf i).toNat)
 case atStart=>exact⟨0,by omega,rfl,by rw[CJ];exact HR0.out,Only.refl _ _⟩
 case round =>
  clear HR0;obtain⟨k,hk,rfl,hr,ho⟩:=hrel;have HR:=qh hr;have HO:=qh ho;clear hr ho;by_cases hlt:k<n
  ·have hu:k<U.length:=by rw[HU.out];exact hlt
   have hv:k<V.length:=by rw[←hl];exact hu
   obtain⟨h3,h4,e3,e4⟩:=H9 (X:=X) (M:=M) (Y:=Y) hu hv hl;have hst:=CU (X:=X) (M:=M) (Y:=Y) hu hv hl;have hL:=wM (X:=X) (M:=M) (Y:=Y) hl (Nat.le_of_lt hu);have hL2:(jl X U M V Y k).length=N:=by rw[hL,←HN.out];simp;omega
   simp only[HA.out,HB.out]at h3 h4 e3 e4 hst;rw[HA.out]at hL;obtain⟨p,hp⟩:∃p,a+k=p:=⟨_,rfl⟩;obtain⟨q,hq⟩:∃q,b+k=q:=⟨_,rfl⟩;simp only[hp,hq]at h3 h4 e3 e4 hst;have hpi:(a:Int)+(k:Int)=(p:Int):=by omega
   have hqi:(b:Int)+(k:Int)=(q:Int):=by omega
   have hpN:(p:Int)<(N:Int):=by omega
   have hqN:(q:Int)<(N:Int):=by omega
   have hp0:(0:Int)≤(p:Int):=by omega
   have hq0:(0:Int)≤(q:Int):=by omega
   have hkn:(k:Int)<(n:Int):=by omega
   have hne:p≠q:=by omega
   obtain⟨b,o,e1,_,c0,c1,c2,c3,c4,c5,c6⟩:=HR.out.reads.at_ h3;simp only[Option.some.injEq,Addr.mk.injEq,and_true]at e1;obtain⟨rfl,rfl⟩:=e1;obtain⟨b,o,e1,_,d0,d1,d2,d3,d4,d5,d6⟩:=HR.out.reads.at_ h4;simp only[Option.some.injEq,Addr.mk.injEq,and_true]at e1;obtain⟨rfl,rfl⟩:=e1;simp only[Nat.zero_add]at c0 c1 c2 c3 c4 c5 c6 d0 d1 d2 d3 d4 d5 d6;have hfr:=fun m=>HR.out.frozen m
   rw[e3]at c0 c1 c2 c3 c4 c5 c6;rw[e4]at d0 d1 d2 d3 d4 d5 d6;have HS:=qh hst;have HP:=qh (And.intro h3 h4);clear e3 e4 hst hL hL2 h3 h4;generalize U[k]'hu=x at *;generalize V[k]'hv=y at *;clear hu hv;obtain⟨x0,x1,x2,x3,x4,x5,x6⟩:=x;obtain⟨y0,y1,y2,y3,y4,y5,y6⟩:=y;simp only at c0 c1 c2 c3 c4 c5 c6 d0 d1 d2 d3 d4 d5 d6;go_wp2_with fail;go_region
   have HRN:=(HR.out.setl HP.out.1 ⟨y0,y1,y2,y3,y4,y5,y6⟩).setl (k:=q) (by rw[List.length_set];exact HP.out.2) ⟨x0,x1,x2,x3,x4,x5,x6⟩;have HON:=Only.sets (ay ⟨x0,x1,x2,x3,x4,x5,x6⟩) (q*7) _ _ (Only.sets (ay ⟨y0,y1,y2,y3,y4,y5,y6⟩) (p*7) _ _ HO.out);rw[HS.out]at HRN;have HRN':=qh HRN.drew;have HON':=qh HON.drew;clear HR HO HRN HON c0 c1 c2 c3 c4 c5 c6 d0 d1 d2 d3 d4 d5 d6 hfr;go_wp2_with fail;refine⟨⟨k+1,by omega,congrArg (Value.int .i64) (by omega),HRN'.out,HON'.out⟩,?_⟩;have e1:(intOf (.int .i64 ((k:Int)+1))).toNat=k+1:=by show((k:Int)+1).toNat=_;omega
   have e2:(intOf (.int .i64 (k:Int))).toNat=k:=by show((k:Int)).toNat=_;omega
   rw[e1,e2];omega
  ·have hf:k=n:=by omega
   subst hf;have hcmp:¬ ((k:Int)<(k:Int)):=by omega
   go_wp2_with fail;go_end0
   exact⟨rfl,by rw[←CS hl,HU.out];exact HR.out,HO.out⟩
end
end Go.Proofs.YtaegjkllenlfpaaGreatDoor
