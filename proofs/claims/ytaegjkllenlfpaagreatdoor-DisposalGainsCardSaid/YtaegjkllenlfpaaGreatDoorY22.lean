/- The seat's texts, part Y22. -/
import Derived.Test.YtaegjkllenlfpaaGreatDoorY21
set_option maxRecDepth 100000
set_option maxHeartbeats 8000000
namespace Go.Proofs.YtaegjkllenlfpaaGreatDoor
open Tryz
variable {x y:LotV}{c id d s q:Bs}{k:Nat}{A B m X U M V Y:List LotV}{ps:List Fr}{os:List OptV}
section
open Go.RowKit
attribute [local go_sem] size_bs toList_bs
def kq(n:Nat):Bool:=(decide (12<(n:Int)) && decide ((n:Int)<999)) || decide (1002<(n:Int))
def cI(ls:List LotV):Bool:=kq ls.length || ls.any fA
end
section
open Go.RowKit
theorem fQ(h:fA x=false):x.q.length<=13∧x.c.length<=13∧x.u.length<=13∧x.id.length<=40∧x.ins.length<=40:=by
 unfold fA jy at h;simp only[PW,Mi]at h;omega
theorem fD{ls:List LotV}(h:cI ls=false):ls.length<=1002∧∀x ∈ ls,fA x=false:=by
 unfold cI kq at h;simp only[PW,Mi,PT,Oa]at h;exact⟨by omega,h.2⟩
theorem dG{ls:List LotV}(h:cI ls=false):∀x ∈ ls,SmallL x:=fun x hx=>by
 have:=fQ ((fD h).2 x hx);refine⟨?_,?_,?_,?_,?_⟩ <;> omega
theorem cj{ls:List LotV}{ins:Bs}(h:x ∈ ofL ls ins):x ∈ ls∧x.ins=ins:=by
 have:=Og.1 h;exact⟨this.1,by simpa using this.2⟩
theorem uu{ls:List LotV}{ins:Bs}(h:checkAllL ls=0)(hl:0<(ofL ls ins).length):0<totQ ls ins:=by
 refine wR _ ?_ (by rw[Nb];exact hl);intro v hv;obtain⟨x,hx,rfl⟩:=MH.1 hv;exact(bg ((av h).2 x (cj hx).1)).2.2.1
theorem vU{ls:List LotV}{ins:Bs}(h:checkAllL ls=0):0<=totC ls ins:=by
 refine eU _ ?_;intro v hv;obtain⟨x,hx,rfl⟩:=MH.1 hv;exact(bg ((av h).2 x (cj hx).1)).2.2.2.1
def pG(ch:Nat->LotV->LotV):Nat->List LotV->List LotV
 |_,[]=>[]
 |n,x :: r=>ch n x :: pG ch (n+1) r
theorem rS{ch:Nat->LotV->LotV}{ins:Bs}(hch:∀n x,(ch n x).ins=x.ins):∀(l:List LotV) (n:Nat),ofL (gv ch ins n l) ins=pG ch n (ofL l ins)
 |[],_=>rfl
 |x :: r,n=>by
  unfold gv;by_cases h:x.ins=ins
  ·rw[Mq h,eV,Mq (by rw[hch];exact h),eV,Mq h,rS hch r];rfl
  ·rw[Mj h,eV,Mj h,eV,Mj h,rS hch r]
theorem uv{α:Type}{ch:Nat->LotV->LotV}{f:LotV->α}(hf:∀n x,f (ch n x)=f x):∀(l:List LotV) (n:Nat),(pG ch n l).map f=l.map f
 |[],_=>rfl
 |x :: r,n=>by simp[pG,hf,uv hf r]
theorem rU{α:Type}{ch:Nat->LotV->LotV}{ins:Bs}{f:LotV->α}(hf:∀n x,f (ch n x)=f x):∀(l:List LotV) (n:Nat),(gv ch ins n l).map f=l.map f
 |[],_=>rfl
 |x :: r,n=>by
  unfold gv;split
  ·simp[hf,rU hf r]
  ·simp[rU hf r]
theorem rV{ch:Nat->LotV->LotV}{ins:Bs}{x:LotV}:∀(l:List LotV) (n:Nat),x ∈ gv ch ins n l->(x ∈ l∧x.ins≠ins)∨∃k y,y ∈ l∧y.ins=ins∧x=ch k y∧n<=k∧k<n+(ofL l ins).length
 |[],_,h=>by cases h
 |y :: r,n,h=>by
  unfold gv at h;rw[eV];by_cases e:y.ins=ins
  ·rw[Mq e]at h;rw[Mq e,MG];rcases MS.1 h with rfl|h
   ·exact .inr ⟨n,y,by simp,e,rfl,by omega,by omega⟩
   ·rcases rV r (n+1) h with ⟨k,ne⟩ | ⟨k,z,hz,hi,he,h1,h2⟩
    ·exact .inl ⟨Nq _ k,ne⟩
    ·exact .inr ⟨k,z,Nq _ hz,hi,he,by omega,by omega⟩
  ·rw[Mj e]at h;rw[Mj e];rcases MS.1 h with rfl|h
   ·exact .inl ⟨by simp,e⟩
   ·rcases rV r n h with ⟨k,ne⟩ | ⟨k,z,hz,hi,he,h1,h2⟩
    ·exact .inl ⟨Nq _ k,ne⟩
    ·exact .inr ⟨k,z,Nq _ hz,hi,he,h1,h2⟩
def kM(ss:List Bs)(n:Nat)(x:LotV):LotV:={ x with c:=ss.getD n [] }
theorem nD{ls:List LotV}{ins:Bs}(h:(ofL ls ins).length≠0):cH ls ins=gv (kM (eI ls ins)) ins 0 ls:=by
 unfold cH;rw[Mj h];rfl
theorem kb{ls:List LotV}{ins:Bs}(h:(ofL ls ins).length=0):cH ls ins=ls:=by unfold cH;rw[Mq h]
theorem qI(ss:List Bs):∀(l:List LotV) (n:Nat),n+l.length=ss.length->(pG (kM ss) n l).map (·.c)=ss.drop n
 |[],n,h=>by
  rw[Nt (by simp at h;omega)];rfl
 |x :: r,n,h=>by
  have hn:n<ss.length:=by simp at h;omega
  simp only[pG,MQ];rw[qI ss r (n+1) (by simp at h ⊢;omega),MR hn];congr 1
  show ss.getD n []=_;rw[NJ,Mr hn];rfl
section
variable {ls:List LotV} {ins:Bs}
theorem Cu{α:Type}{f:LotV->α}(hf:∀n x,f (kM (eI ls ins) n x)=f x):(cH ls ins).map f=ls.map f:=by
 by_cases h:(ofL ls ins).length=0
 ·rw[kb h]
 ·rw[nD h];exact rU hf ls 0
theorem uw:ofL (cH ls ins) ins=pG (kM (eI ls ins)) 0 (ofL ls ins):=by
 by_cases h:(ofL ls ins).length=0
 ·rw[kb h,My.1 h];rfl
 ·rw[nD h];exact rS (ch:=kM (eI ls ins)) (fun _ _=>rfl) ls 0
theorem Cv:fP (cH ls ins) ins=fP ls ins:=by
 unfold fP;rw[uw];exact uv (ch:=kM (eI ls ins)) (fun _ _=>rfl) _ _
theorem ox(ls:List LotV)(ins:Bs):totQ ls ins=((fP ls ins).map valI).sum:=by
 unfold totQ fP;rw[OH];rfl
theorem zP:totQ (cH ls ins) ins=totQ ls ins:=by rw[ox,ox,Cv]
theorem Fi:(eI ls ins).map valI=bZ (totC ls ins) ((fP ls ins).map valI):=by
 unfold eI;rw[OH];have:(valI ∘ ofI)=id:=by funext z;exact valI_ofI z
 rw[this,List.map_id]
theorem yf:(ofL (cH ls ins) ins).map (·.c)=eI ls ins:=by
 rw[uw,qI _ _ 0 (by rw[rP];omega),List.drop_zero]
theorem zQ(hv:checkAllL ls=0):totC (cH ls ins) ins=totC ls ins:=by
 by_cases h:(ofL ls ins).length=0
 ·rw[kb h]
 ·have e:totC (cH ls ins) ins=((ofL (cH ls ins) ins).map (·.c) |>.map valI).sum:=by unfold totC;rw[OH];rfl
  rw[e,yf,Fi];exact xC (by rw[←ox];exact uu hv (by omega))
theorem vV(h:checkL x=0)(h1:checkI c=0)(h2:0<=valI c):checkL { x with c:=c }=0:=by
 have hk:=bg h;unfold checkL at h ⊢;split at h
 ·cases h
 split at h
 ·cases h
 split at h
 ·cases h
 split at h
 ·cases h
 split at h
 ·cases h
 rename_i a1 a2 a3 a4 a5
 rw[Mj a1,Mj a2,Mj a3,Mj (by simp only[not_or,Rp]at a4 ⊢;exact⟨a4.1,h1,a4.2.2⟩),Mj (by simp only[not_or]at a5 ⊢;exact⟨a5.1,by omega,a5.2.2⟩)]
theorem Ip(hv:checkAllL ls=0)(hl:0<(ofL ls ins).length){a:Bs}(h:a ∈ eI ls ins):∃v:Int,a=ofI v∧0<=v∧v<=totC ls ins:=by
 obtain⟨v,hv',rfl⟩:=MH.1 h;have hT:=vU (ins:=ins) hv;have e:bZ (totC ls ins) ((fP ls ins).map valI)=aY (totC ls ins) ((fP ls ins).map valI):=by unfold bZ;rw[Mj (by omega)]
 rw[e]at hv';have hS:0<((fP ls ins).map valI).sum:=by rw[←ox];exact uu hv hl
 have hnn:=mZ hT (fun x hx=>by
  obtain⟨q,hq,rfl⟩:=MH.1 hx;obtain⟨y,hy,rfl⟩:=MH.1 hq;exact Oj (bg ((av hv).2 y (cj hy).1)).2.2.1) hS
 have hs:=mx (T:=totC ls ins) hS;refine⟨v,rfl,hnn v hv',?_⟩;rw[←hs];clear e hs;generalize aY (totC ls ins) ((fP ls ins).map valI)=l at *;induction l with
 |nil=>cases hv'
 |cons a r ih =>
  rw[Nz];have h0:=hnn a (by simp);have h1:=eU r (fun x hx=>hnn x (by simp[hx]));rcases MS.1 hv' with rfl|hm
  ·omega
  ·have:=ih hm (fun x hx=>hnn x (by simp[hx]));omega
theorem mM(hv:checkAllL ls=0)(h:x ∈ cH ls ins):x ∈ ls∨∃y v,y ∈ ls∧x={ y with c:=ofI v }∧0<=v∧v<=totC ls ins:=by
 by_cases h0:(ofL ls ins).length=0
 ·rw[kb h0]at h;exact .inl h
 ·rw[nD h0]at h;rcases rV ls 0 h with ⟨k,_⟩ | ⟨k,y,hy,hi,rfl,_,h2⟩
  ·exact .inl k
  ·have hk:k<(eI ls ins).length:=by rw[rP];omega
   have hm:(eI ls ins).getD k [] ∈ eI ls ins:=by rw[NJ,Mr hk];exact Ml _
   obtain⟨v,e,h1,h3⟩:=Ip hv (by omega) hm;refine .inr ⟨y,v,hy,?_,h1,h3⟩;unfold kM;rw[e]
theorem yg(hv:checkAllL ls=0):∀x ∈ cH ls ins,checkL x=0:=by
 intro x hx;rcases mM hv hx with h | ⟨y,v,hy,rfl,h1,_⟩
 ·exact(av hv).2 x h
 ·exact vV ((av hv).2 y hy) (mB v) (by rw[valI_ofI];exact h1)
theorem pi:∀(l m:List LotV) (seen:List Bs),(∀x ∈ l,checkL x=0)->(∀x ∈ m,checkL x=0)->l.map (·.id)=m.map (·.id)->goAll seen l=goAll seen m
 |[],[],_,_,_,_=>rfl
 |[],_ :: _,_,_,_,h=>by simp at h
 |_ :: _,[],_,_,_,h=>by simp at h
 |x :: r,y :: s,seen,h1,h2,h=>by
  simp only[MQ,OX]at h;have hx:=h1 x (by simp);have hy:=h2 y (by simp);by_cases hm:x.id ∈ seen
  ·rw[iP.2.1 hx hm,iP.2.1 hy (by rw[←h.1];exact hm)]
  ·rw[iP.2.2 hx hm,iP.2.2 hy (by rw[←h.1];exact hm),h.1];exact pi r s _ (fun z hz=>h1 z (by simp[hz])) (fun z hz=>h2 z (by simp[hz])) h.2
theorem th(hv:checkAllL ls=0):checkAllL (cH ls ins)=0:=by
 have hi:(cH ls ins).map (·.id)=ls.map (·.id):=Cu (fun _ _=>rfl);have h0:=av hv;unfold checkAllL at hv ⊢;rw[nC];split at hv
 ·cases hv
 ·rename_i hn
  rw[Mj hn,pi _ ls [] (yg (by unfold checkAllL;rw[Mj hn];exact hv)) h0.2 hi];exact hv
theorem yh{L:Nat}(hv:checkAllL ls=0)(hs:∀x ∈ ls,x.c.length<=L∧x.q.length<=1000∧x.u.length<=1000∧x.id.length<=1000∧x.ins.length<=1000)(hL:L<=900)(hn:ls.length<=1000):∀x ∈ cH ls ins,SmallL x:=by
 intro x hx;rcases mM hv hx with h | ⟨y,v,hy,rfl,h1,h2⟩
 ·have:=hs x h;refine⟨?_,?_,?_,?_,?_⟩ <;> omega
 ·have:=hs y hy;refine⟨by simp only;omega,by simp only;omega,by simp only;omega,?_,by simp only;omega⟩;show(ofI v).length<=1000;have hc:=tN (fun x=>x.c) L (ofL ls ins) (fun z hz=>(hs z (cj hz).1).1) (by have:(ofL ls ins).length<=ls.length:=M8 _ _;omega);have hm:=eR (z:=v) (l:=ofI (totC ls ins)) (by rw[valI_ofI];omega) (L:=L+7) hc;omega
end
theorem sK:∀(l:List LotV) (seen:List Bs),goAll seen l=0->(l.map (·.id)).Nodup∧∀a ∈ l.map (·.id),a ∉ seen
 |[],_,_=>⟨by simp,by simp⟩
 |x :: r,seen,h=>by
  unfold goAll at h;split at h
  ·rename_i hc;exact absurd h hc
  ·split at h
   ·cases h
   ·rename_i hm
    obtain⟨h1,h2⟩:=sK r _ h;refine⟨?_,?_⟩
    ·rw[MQ,Oe];exact⟨fun hx=>h2 _ hx (by simp),h1⟩
    ·intro a ha;rw[MQ]at ha;rcases MS.1 ha with e|h'
     ·rw[e];exact hm
     ·exact fun hs=>h2 a h' (by simp[hs])
theorem bD{ls:List LotV}(h:checkAllL ls=0):(ls.map (·.id)).Nodup:=by
 unfold checkAllL at h;split at h
 ·cases h
 ·exact(sK _ _ h).1
theorem kN:∀(ls:List LotV) (k:Nat) (hk:k<ls.length),(ls.map (·.id)).Nodup->findL ls (ls[k]'hk).id=some k
 |[],k,hk,_=>by simp at hk
 |x :: r,0,_,_=>by simp[findL]
 |x :: r,k+1,hk,h=>by
  rw[MQ,Oe]at h;have hk':k<r.length:=by simpa using hk
  unfold findL;simp only[Qz];rw[Mj,kN r k hk' h.2]
  ·rfl
  ·intro e;exact h.1 (by rw[e];exact N5 (Ml _))
end
section
open Go.RowKit
attribute [local go_sem] size_bs toList_bs
theorem rW(ls:List LotV)(id:Bs):(findL ls id).isSome=true↔id ∈ ls.map (·.id):=by
 induction ls with
 |nil=>simp[findL]
 |cons x r ih =>
  unfold findL;by_cases h:x.id=id
  ·simp[h]
  ·rw[Mj h];simp only[Option.isSome_map,MQ,MS];rw[ih];constructor
   ·exact fun k => .inr k
   ·rintro(k|k)
    ·exact absurd k.symm h
    ·exact k
end
section
open Go.RowKit
def gH(ps:List Fr)(id:Bs):Option Bs:=(ps.find? (fun p=>p.num == id)).map (·.den)
def lk(ls:List LotV)(id:Bs):Option LotV:=ls.find? (fun x=>decide (x.id=id))
def cV(ps:List Fr)(x:LotV):Option LotV:=match gH ps x.id with
 |none=>some x
 |some d=>if x.q=d then none else some (cR x d)
def kO(ls:List LotV)(p:Fr):LotV:=match lk ls p.num with
 |some x=>if x.q=p.den then x else eF x p.den
 |none=>aP
structure PicksOK (ls:List LotV) (ps:List Fr):Prop where
 nod:(ps.map (·.num)).Nodup
 at_:∀p ∈ ps,∃x ∈ ls,x.id=p.num∧0<valI p.den∧valI p.den<=valI x.q
 den:∀p ∈ ps,checkI p.den=0
theorem mN:∀(ls:List LotV) (id:Bs),lk ls id=(findL ls id).bind (fun i=>ls[i]?)
 |[],_=>rfl
 |x :: r,id=>by
  unfold lk findL;rw[List.find?_cons];by_cases h:x.id=id
  ·simp[h]
  ·have:=mN r id;unfold lk at this
   simp only[h,decide_false,if_false,this]
   cases findL r id <;> simp
theorem nF{ls:List LotV}(h:∃x ∈ ls,x.id=id):∃k,∃hk:k<ls.length,findL ls id=some k∧(ls[k]'hk).id=id:=by
 obtain⟨x,hx,e⟩:=h;have:(findL ls id).isSome=true:=(rW ls id).2 (by rw[←e];exact N5 hx)
 cases h2:findL ls id with
 |none=>rw[h2]at this;cases this
 |some k =>
  obtain⟨a,b⟩:=mC h2;exact⟨k,a,rfl,b a⟩
theorem uy{ls:List LotV}(hk:k<ls.length):ls=ls.take k++(ls[k]'hk) :: ls.drop (k+1):=by
 rw[List.getElem_cons_drop,MP]
theorem lM{ls:List LotV}:ls.eraseIdx k=ls.take k++ls.drop (k+1):=List.eraseIdx_eq_take_drop_succ ..
theorem sL{ls:List LotV}(hk:k<ls.length)(y:LotV):ls.set k y=ls.take k++y :: ls.drop (k+1):=List.set_eq_take_append_cons_drop .. |>.trans (Mq hk)
theorem sM(h:((A++x :: B).map (·.id)).Nodup):((A++B).map (·.id)).Nodup∧∀y ∈ A++B,y.id≠x.id:=by
 have hp:((A++x :: B).map (·.id)).Perm (x.id :: (A++B).map (·.id)):=(List.perm_middle (a:=x) (l₁:=A) (l₂:=B)).map _;have h2:=hp.nodup_iff.1 h;rw[Oe]at h2;exact⟨h2.2,fun y hy e=>h2.1 (by rw[←e];exact N5 hy)⟩
theorem lN(p:Fr)(ps:List Fr)(id:Bs):gH (p :: ps) id=if p.num=id then some p.den else gH ps id:=by
 unfold gH;rw[List.find?_cons];by_cases h:p.num=id
 ·simp[h]
 ·have h2:(p.num == id)=false:=by simpa using h
  rw[h2,Mj h]
theorem pj(h:∀p ∈ ps,p.num≠id):gH ps id=none:=by
 unfold gH;rw[R9.2 (fun p hp=>by simpa using h p hp)];rfl
theorem yj{p:Fr}(h:y.id≠p.num):cV (p :: ps) y=cV ps y:=by
 unfold cV;rw[lN,Mj (fun e=>h e.symm)]
theorem ic{α β:Type}{f g:α->Option β}{l:List α}(h:∀x ∈ l,f x=g x):l.filterMap f=l.filterMap g:=by
 induction l with
 |nil=>rfl
 |cons x r ih=>rw[Ql,Ql,h x (by simp),ih (fun y hy=>h y (by simp[hy]))]
theorem sN{p:Fr}(hm:∀z ∈ m,z.id≠p.num):kO (A++(m++B)) p=kO (A++B) p:=by
 unfold kO lk;have e:m.find? (fun x=>decide (x.id=p.num))=none:=R9.2 (fun z hz=>by simpa using hm z hz);rw[Sj,Sj,Sj,e,Option.none_or]
theorem PicksOK.tail{ls:List LotV}{p:Fr}(h:PicksOK ls (p :: ps))(ls':List LotV)(hl:∀x ∈ ls,x.id≠p.num->x ∈ ls'):PicksOK ls' ps:=by
 have h1:=h.nod;rw[MQ,Oe]at h1;refine⟨h1.2,fun q hq=>?_,fun q hq=>h.den q (by simp[hq])⟩;obtain⟨x,hx,e,e2⟩:=h.at_ q (by simp[hq]);exact⟨x,hl x hx (fun e3=>h1.1 (by rw[←e3,e];exact N5 hq)),e,e2⟩
theorem ie:∀(ps:List Fr) (ls:List LotV),(ls.map (·.id)).Nodup->PicksOK ls ps->aI ls ps=(ls.filterMap (cV ps),ps.map (kO ls))
 |[],ls,_,_=>by
  have:ls.filterMap (cV [])=ls:=by
   have e:cV []=some:=by funext x;rfl
   rw[e,List.filterMap_some]
  rw[this];rfl
 |p :: ps,ls,hn,h=>by
  obtain⟨x0,hx0,e0,e1,e2⟩:=h.at_ p (by simp);obtain⟨k,hk,hf,he⟩:=nF ⟨x0,hx0,e0⟩;have hx:ls[k]? = some (ls[k]'hk):=Mr hk;have h3:=uy hk;have hlk:lk ls p.num=some (ls[k]'hk):=by rw[mN,hf];exact hx
  have hT:kO ls p=if(ls[k]'hk).q=p.den then(ls[k]'hk) else eF (ls[k]'hk) p.den:=by unfold kO;rw[hlk]
  have hR:cV (p :: ps) (ls[k]'hk)=if(ls[k]'hk).q=p.den then none else some (cR (ls[k]'hk) p.den):=by
   unfold cV;rw[lN,Mq he.symm]
  have hn1:=h.nod;rw[MQ,Oe]at hn1;have hps:∀q ∈ ps,(ls[k]'hk).id≠q.num:=fun q hq e=>hn1.1 (by rw[←he,e];exact N5 hq)
  unfold aI;rw[hf];simp only[hx];generalize ls[k]'hk=x at *;generalize hA:ls.take k=A at *;generalize hB:ls.drop (k+1)=B at *;obtain⟨n1,n2⟩:=sM (by rw[←h3];exact hn);have hrest:∀y ∈ A++B,cV (p :: ps) y=cV ps y:=fun y hy=>yj (by rw[←he];exact n2 y hy)
  have hmem:∀y ∈ ls,y.id≠p.num->y ∈ A++B:=by
   intro y hy hne;rw[h3]at hy;rcases MN.1 hy with h1|h1
   ·exact Ph _ h1
   ·rcases MS.1 h1 with rfl|h1
    ·exact absurd he hne
    ·exact Nr _ h1
  have hl:ls.filterMap (cV (p :: ps))=A.filterMap (cV ps)++((if x.q=p.den then [] else [cR x p.den])++B.filterMap (cV ps)):=by
   rw[h3,RL,Ql,hR,ic (fun y hy=>hrest y (Ph _ hy)),ic (l:=B) (fun y hy=>hrest y (Nr _ hy))];congr 1
   split <;> rename_i e <;> split at e <;> simp_all
  have hmap:∀m:List LotV,(∀z ∈ m,z.id=x.id)->ps.map (kO (A++(m++B)))=ps.map (kO ls):=by
   intro m hm;apply OC;intro q hq;have t1:=sN (A:=A) (B:=B) (m:=m) (p:=q) (fun z hz e=>hps q hq ((hm z hz).symm.trans e));have t2:=sN (A:=A) (B:=B) (m:=[x]) (p:=q) (fun z hz e=>by simp at hz;rw[hz]at e;exact hps q hq e);rw[t1,←t2,h3];rfl
  rw[MQ,hT,hl];by_cases hq:x.q=p.den
  ·rw[Mq hq,Mq hq,Mq hq,lM,hA,hB,ie ps (A++B) n1 (h.tail _ hmem),RL];have:=hmap [] (by simp);rw[ML]at this
   rw[this];rfl
  ·rw[Mj hq,Mj hq,Mj hq,sL hk,hA,hB];have hid:(cR x p.den).id=x.id:=rfl
   have n3:((A++cR x p.den :: B).map (·.id)).Nodup:=by
    have e:(A++cR x p.den :: B).map (·.id)=(A++x :: B).map (·.id):=by simp[hid]
    rw[e,←h3];exact hn
   have hmem2:∀y ∈ ls,y.id≠p.num->y ∈ A++cR x p.den :: B:=by
    intro y hy hne;rcases MN.1 (hmem y hy hne) with h1|h1
    ·exact Ph _ h1
    ·exact Nr _ (Nq _ h1)
   rw[ie ps _ n3 (h.tail _ hmem2),RL,Ql]
   have hc:cV ps (cR x p.den)=some (cR x p.den):=by
    unfold cV;rw[hid,pj (fun q hq e=>hps q hq e.symm)]
   have:=hmap [cR x p.den] (by simp[hid]);rw[List.singleton_append]at this
   rw[hc,this];rfl
theorem rX{ls:List LotV}{p:Fr}(hn:(ls.map (·.id)).Nodup)(hx:x ∈ ls)(he:x.id=p.num):kO ls p=if x.q=p.den then x else eF x p.den:=by
 obtain⟨k,hk,rfl⟩:=Pj.1 hx;have:=kN ls k hk hn;unfold kO;rw[mN,←he,this];simp[hk]
theorem pH{ls:List LotV}(hn:(ls.map (·.id)).Nodup)(hx:x ∈ ls)(hy:y ∈ ls)(e:y.id=x.id):y=x:=by
 obtain⟨i,hi,rfl⟩:=Pj.1 hy;obtain⟨j,hj,rfl⟩:=Pj.1 hx;have a1:=kN ls i hi hn;have a2:=kN ls j hj hn;rw[e,a2]at a1;injection a1 with a1
 subst a1;rfl
theorem uz{ls:List LotV}(hv:∀x ∈ ls,checkL x=0)(hx:x ∈ ls)(hd:checkI d=0)(hle:valI d<=valI x.q)(hne:x.q≠d):valI d<valI x.q:=by
 obtain⟨o1,_⟩:=bg (hv x hx);have:valI d≠valI x.q:=fun e=>hne (by rw[←dC.1 o1,←dC.1 hd,e])
 omega
theorem nG{fn:Nat->Int}:∀ {n:Nat},dg fn n=0->∀k,k<n->fn k=0
 |0,_,k,hk=>absurd hk (by omega)
 |n+1,h,k,hk=>by
  unfold dg at h;by_cases g:dg fn n=0
  ·rw[Mj (by simpa using g)]at h;by_cases e:k=n
   ·subst e;exact h
   ·exact nG g k (by omega)
  ·rw[Mq g]at h;exact absurd h g
theorem uA{f:FactV}(h:cr f ps os=0)(hk0:f.kind≠0){sp:KSp}(hs:dK f.kind=some sp):isName f.key=true∧0<=f.stamp ∧ -25567<=f.day∧f.day<=84005∧f.canc=false∧∀k,k<13->eO f ps os sp k=0:=by
 unfold cr at h;rw[hs]at h;split at h
 ·exact absurd h (by decide)
 rename_i g1
 split at h
 ·exact absurd h (by decide)
 rename_i g2
 split at h
 ·split at h
  ·rename_i g
   exact absurd g (by simp[fG,hk0])
  ·exact absurd h (by decide)
 rename_i g4
 split at h
 ·exact absurd h (by decide)
 rename_i g3
 exact⟨by simpa using g1,by omega,by omega,by omega,by simpa using g4,nG h⟩
theorem ii{f:FactV}{sp:KSp}(h:eO f ps os sp k=0)(hb:sp.bits.getD k false=true):gz f ps os sp k=0:=by
 unfold eO at h;rwa[Mq hb]at h
theorem wV(h:eL s=0):isName s=true:=by
 unfold eL at h;by_cases g:isName s=true
 ·exact g
 ·rw[Mj g]at h;exact absurd h (by decide)
theorem nH(n:Bs):ay ⟨n,[]⟩=((valI n:Int):Rat):=by
 have e:valI ([]:Bs)=0:=by decide
 unfold ay GD oP;simp only[e,if_true];exact pZ _
theorem mO{n:Bs}{p:Bool}(h:bU ⟨n,[]⟩ p false=0):checkI n=0∧cN n<=40∧0<=valI n∧(p=true->0<valI n):=by
 unfold bU at h;split at h
 ·exact absurd h (by decide)
 rename_i h1
 split at h
 ·exact absurd h (by decide)
 rename_i h2
 dsimp only at h2;split at h
 ·exact absurd h (by decide)
 rename_i h3
 have c1:cA ⟨n,[]⟩=0:=by simpa using h1
 have c2:ofI (valI n)=n:=by
  unfold cA at c1;rw[nH,wu]at c1;by_cases g:ofI (valI n)=n
  ·exact g
  ·rw[Mj (by simp[g])]at c1;exact absurd c1 (by decide)
 have c3:¬ ay ⟨n,[]⟩<0:=fun g=>h3 (.inl (Bu.2 g))
 rw[nH]at c3
 have c4:0<=valI n:=by
  by_cases g:valI n<0
  ·exact absurd (by exact_mod_cast g) c3
  ·omega
 refine⟨dC.2 c2,by omega,c4,fun hp=>?_⟩;have c5:¬ ay ⟨n,[]⟩=0:=fun g=>h3 (.inr (.inl ⟨hp,yH.2 g⟩))
 rw[nH]at c5;have c6:valI n≠0:=fun g=>c5 (by rw[g];rfl)
 omega
theorem oy{n:Bs}(h:cN n<=40):n.length<=41:=by
 rcases zf n with ⟨t,rfl,e⟩ | ⟨e,_⟩ | ⟨rfl,_⟩
 ·rw[e]at h;simp;omega
 ·omega
 ·simp
theorem qJ{f:FactV}{sp:KSp}{a b:Bool}(h:gz f ps os sp k=0)(_:decide (k<4)=false)(_:decide (9<k)=false)(hk:gz f ps os sp k=match (sp.nums.getD []).lookup k with|some pq=>bU (hZ f k) pq.1 pq.2|none=>0)(hl:(sp.nums.getD []).lookup k=some (a,b)):bU (hZ f k) a b=0:=by
 rw[hk,hl]at h;exact h
structure SaleOK (f:FactV) (ps:List Fr):Prop where
 key:isName f.key=true
 ins:isName f.ins=true
 d0 : -25567<=f.day
 d1:f.day<=84005
 cq:checkI f.qty=0
 q0:0<valI f.qty
 ql:f.qty.length<=41
 ca:checkI f.amt=0
 a0:0<=valI f.amt
 al:f.amt.length<=41
 cf:checkI f.fee=0
 f0:0<=valI f.fee
 fl:f.fee.length<=41
 pl:ps.length<=64
 pk:∀p ∈ ps,checkI p.den=0∧0<valI p.den∧p.den.length<=41
theorem SaleOK.bad{f:FactV}(h:SaleOK f ps):ps.any iy=false:=by
 rw[PT];intro p hp;obtain⟨a,b,_⟩:=h.pk p hp;simp[iy,a,b]
theorem Cw(h:fN ps q=0):ps.length<=64∧∀p ∈ ps,checkI p.den=0∧0<valI p.den∧p.den.length<=41:=by
 unfold fN at h;split at h
 ·exact absurd h (by decide)
 rename_i h1
 split at h
 ·rename_i h2;exact absurd h h2
 rename_i h2
 have h3:dg (dU ps) ps.length=0:=by
  by_cases g:dg (dU ps) ps.length=0
  ·exact g
  ·exact absurd g h2
 refine⟨by omega,fun p hp=>?_⟩;obtain⟨k,hk,rfl⟩:=Ok hp;have h4:=nG h3 k hk;unfold dU at h4;rw[Mr hk]at h4;dsimp only at h4;split at h4
 ·exact absurd h4 (by decide)
 split at h4
 ·exact absurd h4 (by decide)
 obtain⟨a,b,_,d⟩:=mO h4;exact⟨a,d rfl,oy b⟩
theorem Fj{f:FactV}(h:cr f ps os=0)(hk:f.kind=4):SaleOK f ps:=by
 have e:∃sp,dK 4=some sp∧sp.bits=[true,false,false,false,true,true,true,false,false,false,true,false,false]∧sp.nums.getD []=jQ:=⟨_,rfl,rfl,rfl⟩;obtain⟨sp,e1,e2,e3⟩:=e;obtain⟨h1,_,h2,h3,_,h4⟩:=uA h (by omega) (hk ▸ e1);have g0:eL f.ins=0:=ii (h4 0 (by decide)) (by rw[e2];rfl);have g4:gz f ps os sp 4=0:=ii (h4 4 (by decide)) (by rw[e2];rfl);have g5:gz f ps os sp 5=0:=ii (h4 5 (by decide)) (by rw[e2];rfl);have g6:gz f ps os sp 6=0:=ii (h4 6 (by decide)) (by rw[e2];rfl);have g10:fN ps f.qty=0:=ii (h4 10 (by decide)) (by rw[e2];rfl);have k4:=qJ g4 rfl rfl rfl (by rw[e3];rfl:(sp.nums.getD []).lookup 4=some (true,false));have k5:=qJ g5 rfl rfl rfl (by rw[e3];rfl:(sp.nums.getD []).lookup 5=some (false,false));have k6:=qJ g6 rfl rfl rfl (by rw[e3];rfl:(sp.nums.getD []).lookup 6=some (false,false));obtain⟨a1,a2,_,a4⟩:=mO k4;obtain⟨b1,b2,b3,_⟩:=mO k5;obtain⟨c1,c2,c3,_⟩:=mO k6;obtain⟨p1,p2⟩:=Cw g10;exact { key:=h1,ins:=wV g0,d0:=h2,d1:=h3,cq:=a1,q0:=a4 rfl,ql:=oy a2,ca:=b1,a0:=b3,al:=oy b2,cf:=c1,f0:=c3,fl:=oy c2,pl:=p1,pk:=p2 }
end
section
open Go.RowKit
attribute [local go_sem] size_bs toList_bs
def i6(X U M V Y:List LotV)(k:Nat):List LotV:=X++(V.take k++(U.drop k++(M++(U.take k++(V.drop k++Y)))))
theorem Cx(X U M V Y:List LotV):i6 X U M V Y 0=X++(U++(M++(V++Y))):=by simp[i6]
theorem Cy(h:U.length=V.length):i6 X U M V Y U.length=X++(V++(M++(U++Y))):=by
 unfold i6;rw[MK,O9,h,MK,O9];simp
theorem wW(h:U.length=V.length)(hk:k<=U.length):(i6 X U M V Y k).length=X.length+U.length+M.length+V.length+Y.length:=by
 simp[i6];omega
theorem pI(h:k<U.length)(h2:k<V.length):i6 X U M V Y k=(X++V.take k)++U[k] :: (U.drop (k+1)++(M++U.take k))++V[k] :: (V.drop (k+1)++Y):=by
 unfold i6;rw[MR h,MR h2];simp only[Mz,MZ]
theorem Cz(h:k<U.length)(h2:k<V.length)(hl:U.length=V.length):((i6 X U M V Y k).set (X.length+k) V[k]).set (X.length+U.length+M.length+k) U[k]=i6 X U M V Y (k+1):=by
 have e:=Ik (X++V.take k) (U.drop (k+1)++(M++U.take k)) (V.drop (k+1)++Y) U[k] V[k];have l1:(X++V.take k).length=X.length+k:=by simp;omega
 have l2:(X++V.take k).length+1+(U.drop (k+1)++(M++U.take k)).length=X.length+U.length+M.length+k:=by simp;omega
 rw[l2,l1]at e;rw[pI h h2,e];unfold i6;rw[Mo h,Mo h2];simp only[Mz,MZ,ML]
theorem Iq(h:k<U.length)(h2:k<V.length)(hl:U.length=V.length):∃(h3:X.length+k<(i6 X U M V Y k).length) (h4:X.length+U.length+M.length+k<(i6 X U M V Y k).length),(i6 X U M V Y k)[X.length+k]=U[k]∧(i6 X U M V Y k)[X.length+U.length+M.length+k]=V[k]:=by
 have l:=wW (X:=X) (M:=M) (Y:=Y) hl (PE h);refine⟨by omega,by omega,?_,?_⟩
 ·have e:(i6 X U M V Y k)[X.length+k]? = some U[k]:=by
   rw[pI h h2,Mz,NK (by simp;omega),show X.length+k-(X++V.take k).length=0 by simp;omega];rfl
  rw[Mr (by omega)]at e;injection e
 ·have e:(i6 X U M V Y k)[X.length+U.length+M.length+k]? = some V[k]:=by
   rw[pI h h2,NK (by simp;omega),show X.length+U.length+M.length+k-((X++V.take k)++U[k] :: (U.drop (k+1)++(M++U.take k))).length=0 by simp;omega];rfl
  rw[Mr (by omega)]at e;injection e
theorem mP(X U M V Y:List LotV)(hl:U.length=V.length)(cf:Value)(g cap:Nat)(w:World)(hr:aE w g cap (X++(U++(M++(V++Y)))))(hn:(X++(U++(M++(V++Y)))).length<=1000000)(a b n N:Nat)(ha:X.length=a)(hb:X.length+U.length+M.length=b)(hN:(X++(U++(M++(V++Y)))).length=N)(hUn:U.length=n) :
  Calls prog 374 #[.slice (some ⟨g,0,none⟩) N cap,.int .i64 a,.int .i64 b,.int .i64 n,cf] w fun e w'=>e = .returned (.tuple #[])∧aE w' g cap (X++(V++(M++(U++Y))))∧Only g w w':=by
 have HR0:=qh hr;have HN:=qh hN;have hbn:b+n<=N:=by simp at hN;omega
 have han:a+n<=b:=by omega
 have hNb:N<=1000000:=by omega
 have HA:=qh ha;have HB:=qh (show a+U.length+M.length=b by rw[←ha];exact hb);have HU:=qh hUn;clear hr hN hn ha hb hUn;go_enter func374,ntmps374;go_wp2_with fail;go_loopw [10] (fun i wr=>∃k:Nat,k<=n∧i = .int .i64 k∧aE wr g cap (i6 X U M V Y k)∧Only g w wr) (fun i _=>n-(intOf i).toNat)
 case atStart=>exact⟨0,by omega,rfl,by rw[Cx];exact HR0.out,Mh _ _⟩
 case round =>
  clear HR0;obtain⟨k,hk,rfl,hr,ho⟩:=hrel;have HR:=qh hr;have HO:=qh ho;clear hr ho;by_cases hlt:k<n
  ·have hu:k<U.length:=by rw[HU.out];exact hlt
   have hv:k<V.length:=by rw[←hl];exact hu
   obtain⟨h3,h4,e3,e4⟩:=Iq (X:=X) (M:=M) (Y:=Y) hu hv hl;have hst:=Cz (X:=X) (M:=M) (Y:=Y) hu hv hl;have hL:=wW (X:=X) (M:=M) (Y:=Y) hl (PE hu);have hL2:(i6 X U M V Y k).length=N:=by rw[hL,←HN.out];simp;omega
   simp only[HA.out,HB.out]at h3 h4 e3 e4 hst;rw[HA.out]at hL;obtain⟨p,hp⟩:∃p,a+k=p:=⟨_,rfl⟩;obtain⟨q,hq⟩:∃q,b+k=q:=⟨_,rfl⟩;simp only[hp,hq]at h3 h4 e3 e4 hst;have hpi:(a:Int)+(k:Int)=(p:Int):=by omega
   have hqi:(b:Int)+(k:Int)=(q:Int):=by omega
   have hpN:(p:Int)<(N:Int):=by omega
   have hqN:(q:Int)<(N:Int):=by omega
   have hp0:(0:Int)<=(p:Int):=by omega
   have hq0:(0:Int)<=(q:Int):=by omega
   have hkn:(k:Int)<(n:Int):=by omega
   have hne:p≠q:=by omega
   obtain⟨b,o,e1,_,c0,c1,c2,c3,c4,c5,c6⟩:=HR.out.reads.at_ h3;simp only[On,PS,Qx]at e1;obtain⟨rfl,rfl⟩:=e1;obtain⟨b,o,e1,_,d0,d1,d2,d3,d4,d5,d6⟩:=HR.out.reads.at_ h4;simp only[On,PS,Qx]at e1;obtain⟨rfl,rfl⟩:=e1;simp only[MV]at c0 c1 c2 c3 c4 c5 c6 d0 d1 d2 d3 d4 d5 d6;have hfr:=fun m=>HR.out.frozen m
   rw[e3]at c0 c1 c2 c3 c4 c5 c6;rw[e4]at d0 d1 d2 d3 d4 d5 d6;have HS:=qh hst;have HP:=qh (MC h3 h4);clear e3 e4 hst hL hL2 h3 h4;generalize U[k]'hu=x at *;generalize V[k]'hv=y at *;clear hu hv;obtain⟨x0,x1,x2,x3,x4,x5,x6⟩:=x;obtain⟨y0,y1,y2,y3,y4,y5,y6⟩:=y;simp only at c0 c1 c2 c3 c4 c5 c6 d0 d1 d2 d3 d4 d5 d6;go_wp2_with fail;go_region
   have HRN:=(HR.out.setl HP.out.1 ⟨y0,y1,y2,y3,y4,y5,y6⟩).setl (k:=q) (by rw[MM];exact HP.out.2) ⟨x0,x1,x2,x3,x4,x5,x6⟩;have HON:=Only.sets (lotCells ⟨x0,x1,x2,x3,x4,x5,x6⟩) (q*7) _ _ (Only.sets (lotCells ⟨y0,y1,y2,y3,y4,y5,y6⟩) (p*7) _ _ HO.out);rw[HS.out]at HRN;have HRN':=qh HRN.drew;have HON':=qh HON.drew;clear HR HO HRN HON c0 c1 c2 c3 c4 c5 c6 d0 d1 d2 d3 d4 d5 d6 hfr;go_wp2_with fail;refine⟨⟨k+1,by omega,M6 (Value.int .i64) (by omega),HRN'.out,HON'.out⟩,?_⟩;have e1:(intOf (.int .i64 ((k:Int)+1))).toNat=k+1:=by show((k:Int)+1).toNat=_;omega
   have e2:(intOf (.int .i64 (k:Int))).toNat=k:=by show((k:Int)).toNat=_;omega
   rw[e1,e2];omega
  ·have hf:k=n:=by omega
   subst hf;have hcmp:¬ ((k:Int)<(k:Int)):=by omega
   go_wp2_with fail;go_end0
   exact⟨rfl,by rw[←Cy hl,HU.out];exact HR.out,HO.out⟩
end
end Go.Proofs.YtaegjkllenlfpaaGreatDoor
