/- Part. -/
import Derived.Test.YthgpheopnhajaaaGreatDoorQD
set_option maxRecDepth 100000
set_option maxHeartbeats 8000000
namespace Go.Proofs.YthgpheopnhajaaaGreatDoor
section
open Go.RowKit
theorem I0{p:LotV→Bool}{L:List LotV}{k:Nat}{x:LotV}:(bO L k x).filter p=(L.take k).filter p++((if p x=true then [x] else [])++(L.drop k).filter p):=by
 unfold bO;rw[List.filter_append,List.filter_append,List.append_assoc];congr 2
 cases h:p x <;> simp[h]
theorem I4{p:LotV→Bool}:∀(fs L:List LotV),(∀x ∈ fs,p x=false)→(aG L fs).filter p=L.filter p
 |[],L,_=>rfl
 |x :: r,L,h=>by
  have e:aG L (x :: r)=aG (bO L (eW L x.ins L.length) x) r:=rfl;rw[e,I4 r _ (fun y hy=>h y (by simp[hy])),I0,h x (by simp),if_neg (by decide),List.nil_append,←List.filter_append,List.take_append_drop]
theorem I5{ls:List LotV}{ins:Bs}:∀(n:Nat),n≤ls.length→∀j (h:j<ls.length),eW ls ins n≤j→j<n→(ls[j]'h).ins≠ins
 |0,_,j,_,_,hj=>absurd hj (by omega)
 |n+1,hn,j,h,h1,hj=>by
  cases hc:(Op.bytesLess (ls[n]'(by omega)).ins ins || (ls[n]'(by omega)).ins == ins) with
  |true =>
   rw[AF (by omega) hc]at h1;omega
  |false =>
   rw[yd (by omega) hc]at h1;by_cases e:j=n
   ·subst e;rw[Bool.or_eq_false_iff]at hc;simpa using hc.2
   ·exact I5 n (by omega) j h h1 (by omega)
theorem I9{p:LotV→Bool}{ins:Bs}:∀(fs L:List LotV),(∀x ∈ fs,p x=true∧x.ins=ins)→(∀x ∈ L,p x=true→x.ins=ins)→(aG L fs).filter p=L.filter p++fs
 |[],L,_,_=>by simp[aG]
 |x :: r,L,h,hL=>by
  have e:aG L (x :: r)=aG (bO L (eW L x.ins L.length) x) r:=rfl;obtain⟨h1,h2⟩:=h x (by simp)
  have hd:(L.drop (eW L x.ins L.length)).filter p=[]:=by
   rw[List.filter_eq_nil_iff];intro y hy hp;obtain⟨j,hj,rfl⟩:=List.getElem_of_mem hy;rw[List.length_drop]at hj;rw[List.getElem_drop]at hp;have hin:=hL _ (List.getElem_mem (by omega)) hp;have hne:=I5 (ls:=L) (ins:=x.ins) L.length (Nat.le_refl _) (eW L x.ins L.length+j) (by omega) (by omega) (by omega);exact hne (hin.trans h2.symm)
  have ht:(L.take (eW L x.ins L.length)).filter p=L.filter p:=by
   have:=List.take_append_drop (eW L x.ins L.length) L;conv=>rhs;rw[←this,List.filter_append,hd,List.append_nil]
  rw[e,I9 r _ (fun y hy=>h y (by simp[hy])) (fun y hy hp=>by
   rcases rj hy with g|rfl
   ·exact hL y g hp
   ·exact h2),I0,if_pos h1,hd,ht]
  simp
def IY(old:List LotV):Nat→List LotV→Prop
 |_,[]=>True
 |a,x :: r=>∃i,a≤i∧∃h:i<old.length,(old[i]'h).acq=x.acq∧(old[i]'h).opn=x.opn∧IY old (i+1) r
theorem IY.low{old:List LotV}:∀ {fs:List LotV} {a b:Nat},IY old a fs→b≤a→IY old b fs
 |[],_,_,_,_=>trivial
 |_ :: _,_,_,⟨i,h1,h2⟩,hb=>⟨i,Nat.le_trans hb h1,h2⟩
theorem Jc{old:List LotV}{fs:List LotV}{ix:Nat→Nat}(h:∀j (hj:j<fs.length),∃h1:ix j<old.length,(old[ix j]'h1).acq=(fs[j]'hj).acq∧(old[ix j]'h1).opn=(fs[j]'hj).opn)(hm:∀i j,i<j→j<fs.length→ix i<ix j) :
  ∀n j,fs.length-j=n→j≤fs.length→∀a,(∀ _:j<fs.length,a≤ix j)→IY old a (fs.drop j)
 |0,j,hn,hj,a,_=>by
  rw[List.drop_eq_nil_of_le (by omega)];trivial
 |n+1,j,hn,hj,a,ha=>by
  have hlt:j<fs.length:=by omega
  rw[List.drop_eq_getElem_cons hlt];obtain⟨h1,h2,h3⟩:=h j hlt;exact⟨ix j,ha hlt,h1,h2,h3,Jc h hm n (j+1) (by omega) (by omega) (ix j+1) (fun hl=>hm j (j+1) (by omega) hl)⟩
def f8(id:Bs)(ss:List StepR):Int:=(ss.map (fun s=>if s.a=id then valI s.c else 0)).sum
def Zq(id:Bs)(ss:List StepR):Int:=(ss.map (fun s=>if s.a=id then valI s.e else 0)).sum
def IR(id:Bs)(ss:List StepR):Int:=(ss.map (fun s=>if s.b=id then valI s.d else 0)).sum
def IT(id:Bs)(ss:List StepR):Int:=(ss.map (fun s=>if s.b=id then valI s.e else 0)).sum
def IU(id:Bs)(ss:List StepR):Bool:=ss.any (fun s=>decide (s.a=id))
def IV(id:Bs)(ss:List StepR):Bool:=ss.any (fun s=>decide (s.b=id))
theorem Jd(id:Bs)(a b:List StepR):f8 id (a++b)=f8 id a+f8 id b:=by simp[f8]
theorem Je(id:Bs)(a b:List StepR):Zq id (a++b)=Zq id a+Zq id b:=by simp[Zq]
theorem I2(id:Bs)(a b:List StepR):IR id (a++b)=IR id a+IR id b:=by simp[IR]
theorem I3(id:Bs)(a b:List StepR):IT id (a++b)=IT id a+IT id b:=by simp[IT]
def IQ(N key:Bs)(s:ApSt)(x:LotV)(n b:Bs):List StepR :=
 if N=[] then [⟨x.id,[],x.q,[],x.c⟩] else [⟨x.id,fL key s n,x.q,n,b⟩]++(if dw x b=[] then [] else [⟨x.id,[],[],[],dw x b⟩])
theorem IZ(N key other:Bs)(s:ApSt)(x:LotV)(n p b:Bs):(fz N key other s x n p b).ss=s.ss++IQ N key s x n b:=by
 unfold IQ;by_cases hN:N=[]
 ·subst hN;rw[gA _ _ _ _ _ _ _ rfl,if_pos rfl]
 ·rw[dm hN _ _ _ _ _ _ _ rfl,if_neg hN,List.append_assoc]
theorem Jl(N key:Bs)(s:ApSt)(x:LotV)(n b id:Bs):f8 id (IQ N key s x n b)=(if x.id=id then valI x.q else 0)∧Zq id (IQ N key s x n b)=(if x.id=id then valI x.c else 0)∧IU id (IQ N key s x n b)=decide (x.id=id):=by
 have hv:valI (dw x b)=valI x.c-valI b:=by unfold dw;rw[ag]
 unfold IQ;by_cases hN:N=[]
 ·rw[if_pos hN];simp[f8,Zq,IU]
 ·rw[if_neg hN];by_cases hl:dw x b=[]
  ·rw[if_pos hl];rw[hl,fT]at hv;have e:valI b=valI x.c:=by omega
   simp[f8,Zq,IU,e]
  ·rw[if_neg hl];by_cases hi:x.id=id
   ·subst hi;refine⟨by simp[f8,fT],?_,by simp[IU]⟩;simp[Zq];omega
   ·simp[f8,Zq,IU,hi]
theorem Jp(key:Bs):EB key=fZ key 1:=by unfold EB fZ;rw[jm (by omega:1≤1),show dig10 1=[49] from by decide +kernel]
theorem Jf{key:Bs}{s:ApSt}{n:Bs}(h:n=[]):fL key s n=fZ key 1:=by unfold fL;rw[if_pos h,Jp]
theorem I1{key:Bs}{s:ApSt}{n:Bs}(h:n≠[]):fL key s n=fZ key (s.fs.length+1):=by unfold fL;rw[if_neg h]
section
variable {N key other:Bs} {ls:List LotV} {ns ps ks:List Bs}
theorem Jm(h1:ns.length=ls.length)(h2:ps.length=ls.length)(h3:ks.length=ls.length)(id:Bs):∀k,k≤ls.length →
  f8 id (bM N key other ls ns ps ks k).ss=((ls.take k).map (fun x=>if x.id=id then valI x.q else 0)).sum∧Zq id (bM N key other ls ns ps ks k).ss=((ls.take k).map (fun x=>if x.id=id then valI x.c else 0)).sum∧IU id (bM N key other ls ns ps ks k).ss=(ls.take k).any (fun x=>decide (x.id=id))
 |0,_=>by simp[bM,f8,Zq,IU]
 |k+1,hk=>by
  obtain⟨e1,e2,e3⟩:=Jm h1 h2 h3 id k (by omega);obtain⟨f1,f2,f3⟩:=Jl N key (bM N key other ls ns ps ks k) (ls[k]'(by omega)) (ns[k]'(by omega)) (ks[k]'(by omega)) id;rw[ji (by omega) (by omega) (by omega) (by omega),IZ,Jd,Je,e1,e2,f1,f2,List.take_succ_eq_append_getElem (by omega)];refine⟨by rw[List.map_append,List.sum_append];simp,by rw[List.map_append,List.sum_append];simp,?_⟩;unfold IU at *;rw[List.any_append,e3,f3,List.any_append];simp
theorem Jq(h1:ns.length=ls.length)(h2:ps.length=ls.length)(h3:ks.length=ls.length)(hd:(ls.map (·.id)).Nodup){x:LotV}(hx:x ∈ ls) :
  f8 x.id (bM N key other ls ns ps ks ls.length).ss=valI x.q∧Zq x.id (bM N key other ls ns ps ks ls.length).ss=valI x.c∧IU x.id (bM N key other ls ns ps ks ls.length).ss=true:=by
 obtain⟨e1,e2,e3⟩:=Jm (N:=N) (key:=key) (other:=other) h1 h2 h3 x.id ls.length (Nat.le_refl _);rw[List.take_length]at e1 e2 e3
 have key2:∀(f:LotV→Int) (l:List LotV),(l.map (·.id)).Nodup→x ∈ l→(l.map (fun y=>if y.id=x.id then f y else 0)).sum=f x:=by
  intro f l;induction l with
  |nil=>intro _ h;cases h
  |cons y r ih =>
   intro hn h;rw[List.map_cons,List.nodup_cons]at hn;rw[List.map_cons,List.sum_cons];by_cases e:y=x
   ·subst e;rw[if_pos rfl];have:(r.map (fun z=>if z.id=y.id then f z else 0)).sum=0:=zb _ _ (fun z hz=>if_neg (fun e=>hn.1 (by rw[←e];exact List.mem_map_of_mem hz)));omega
   ·have hr:x ∈ r:=by
     rcases List.mem_cons.1 h with g|g
     ·exact absurd g.symm e
     ·exact g
    rw[if_neg (fun e2=>hn.1 (by rw[e2];exact List.mem_map_of_mem hr)),ih hn.2 hr];omega
 refine⟨by rw[e1];exact key2 (fun y=>valI y.q) ls hd hx,by rw[e2];exact key2 (fun y=>valI y.c) ls hd hx,?_⟩;rw[e3,List.any_eq_true];exact⟨x,hx,by simp⟩
theorem I6(key:Bs)(n:Nat):fZ key n≠[]:=by unfold fZ;simp
structure ToOK (key:Bs) (s:ApSt):Prop where
 q:∀m,m≤9998→IR (fZ key (m+1)) s.ss=match s.fs[m]? with|some x=>valI x.q|none=>0
 c:∀m,m≤9998→IT (fZ key (m+1)) s.ss=(match s.fs[m]? with|some x=>valI x.c|none=>0)+(if m=0 then s.ex else 0)
 b:∀t ∈ s.ss,t.b=[]∨t.b=fZ key 1∨∃j,j<s.fs.length∧t.b=fZ key (j+1)
theorem IW{N key:Bs}(hN:N≠[])(s:ApSt)(x:LotV)(n b id:Bs)(hid:id≠[]):IR id (IQ N key s x n b)=(if fL key s n=id then valI n else 0)∧IT id (IQ N key s x n b)=(if fL key s n=id then valI b else 0):=by
 unfold IQ;rw[if_neg hN];split
 ·simp[IR,IT]
 ·simp[IR,IT,Ne.symm hid]
theorem Jn(hN:N≠[])(hl:ls.length≤1000)(h1:ns.length=ls.length)(h2:ps.length=ls.length)(h3:ks.length=ls.length):∀k,k≤ls.length→ToOK key (bM N key other ls ns ps ks k)∧(bM N key other ls ns ps ks k).fs.length≤k
 |0,_=>⟨⟨by simp[bM,IR],by simp[bM,IT],by simp[bM]⟩,by simp[bM]⟩
 |k+1,hk=>by
  obtain⟨⟨q,c,b⟩,hf⟩:=Jn hN hl h1 h2 h3 k (by omega);rw[ji (by omega) (by omega) (by omega) (by omega)];generalize bM N key other ls ns ps ks k=s at *;generalize ls[k]'_=x at *;generalize ns[k]'_=n at *;generalize ks[k]'_=kb at *;generalize ps[k]'_=p at *;have hss:=IZ N key other s x n p kb;have hfs:(fz N key other s x n p kb).fs=io key other s x n kb:=by rw[dm hN _ _ _ _ _ _ _ rfl]
  have hex:(fz N key other s x n p kb).ex=jO s n kb:=by rw[dm hN _ _ _ _ _ _ _ rfl]
  by_cases hn:n=[]
  ·have e1:(fz N key other s x n p kb).fs=s.fs:=by rw[hfs];unfold io js;rw[if_pos hn,List.append_nil]
   have e2:(fz N key other s x n p kb).ex=s.ex+valI kb:=by rw[hex];unfold jO;rw[if_pos hn]
   refine⟨⟨fun m hm=>?_,fun m hm=>?_,?_⟩,by rw[e1];omega⟩
   ·rw[hss,I2,(IW hN s x n kb _ (I6 _ _)).1,q m hm,e1,hn,fT];split <;> simp
   ·rw[hss,I3,(IW hN s x n kb _ (I6 _ _)).2,c m hm,e1,e2,Jf hn];by_cases h0:m=0
    ·subst h0;simp;omega
    ·have hne:¬ fZ key 1=fZ key (m+1):=fun e=>by have:=uV (key:=key) (n:=1) (m:=m+1) (by omega) (by omega) e;omega
     rw[if_neg h0,if_neg h0,if_neg hne];simp
   ·rw[hss,e1];intro t ht;rcases List.mem_append.1 ht with ht|ht
    ·exact b t ht
    ·unfold IQ at ht;rw[if_neg hN,Jf hn]at ht;rcases List.mem_append.1 ht with ht|ht
     ·rw[List.mem_singleton]at ht;subst ht;exact .inr (.inl rfl)
     ·split at ht
      ·cases ht
      ·rw[List.mem_singleton]at ht;subst ht;exact .inl rfl
  ·have e1:(fz N key other s x n p kb).fs=s.fs++[⟨fL key s n,other,x.acq,x.opn,n,kb,n⟩]:=by rw[hfs];unfold io js;rw[if_neg hn]
   have e2:(fz N key other s x n p kb).ex=s.ex:=by rw[hex];unfold jO;rw[if_neg hn]
   refine⟨⟨fun m hm=>?_,fun m hm=>?_,?_⟩,by rw[e1,List.length_append,List.length_singleton];omega⟩
   ·rw[hss,I2,(IW hN s x n kb _ (I6 _ _)).1,q m hm,e1,I1 hn];rcases Nat.lt_trichotomy m s.fs.length with g|g|g
    ·have hne:¬ fZ key (s.fs.length+1)=fZ key (m+1):=fun e=>by have:=uV (key:=key) (n:=s.fs.length+1) (m:=m+1) (by omega) (by omega) e;omega
     rw[List.getElem?_append_left g,List.getElem?_eq_getElem g,if_neg hne];simp
    ·subst g;rw[if_pos rfl,List.getElem?_eq_none (Nat.le_refl _)];simp
    ·have hne:¬ fZ key (s.fs.length+1)=fZ key (m+1):=fun e=>by have:=uV (key:=key) (n:=s.fs.length+1) (m:=m+1) (by omega) (by omega) e;omega
     rw[List.getElem?_eq_none (l:=s.fs) (by omega),List.getElem?_eq_none (l:=s.fs++_) (by simp;omega),if_neg hne];rfl
   ·rw[hss,I3,(IW hN s x n kb _ (I6 _ _)).2,c m hm,e1,e2,I1 hn];rcases Nat.lt_trichotomy m s.fs.length with g|g|g
    ·have hne:¬ fZ key (s.fs.length+1)=fZ key (m+1):=fun e=>by have:=uV (key:=key) (n:=s.fs.length+1) (m:=m+1) (by omega) (by omega) e;omega
     rw[List.getElem?_append_left g,List.getElem?_eq_getElem g,if_neg hne];simp
    ·subst g;rw[if_pos rfl,List.getElem?_eq_none (Nat.le_refl _)];simp;omega
    ·have hne:¬ fZ key (s.fs.length+1)=fZ key (m+1):=fun e=>by have:=uV (key:=key) (n:=s.fs.length+1) (m:=m+1) (by omega) (by omega) e;omega
     rw[List.getElem?_eq_none (l:=s.fs) (by omega),List.getElem?_eq_none (l:=s.fs++_) (by simp;omega),if_neg hne];simp
   ·rw[hss,e1];intro t ht;rcases List.mem_append.1 ht with ht|ht
    ·rcases b t ht with g|g | ⟨j,g1,g2⟩
     ·exact .inl g
     ·exact .inr (.inl g)
     ·exact .inr (.inr ⟨j,by rw[List.length_append];omega,g2⟩)
    ·unfold IQ at ht;rw[if_neg hN,I1 hn]at ht;rcases List.mem_append.1 ht with ht|ht
     ·rw[List.mem_singleton]at ht;subst ht;exact .inr (.inr ⟨s.fs.length,by simp,rfl⟩)
     ·split at ht
      ·cases ht
      ·rw[List.mem_singleton]at ht;subst ht;exact .inl rfl
end
end
section
open Go.RowKit
def IP(ls:List LotV)(x:LotV):Bool:=(cr ls x.id).isSome
theorem Nh{x:LotV}(h:bU x=0):x.id≠[]:=by
 intro e;have hi:eA x.id=false:=by rw[e];decide
 unfold bU at h;rw[hi]at h;simp at h
theorem Jj{N key:Bs}(hN:N=[])(s:ApSt)(x:LotV)(n b:Bs):∀t ∈ IQ N key s x n b,t.b=[]:=by
 unfold IQ;rw[if_pos hN];intro t ht;rw[List.mem_singleton]at ht;subst ht;rfl
theorem Jk{N key:Bs}{s:ApSt}{x:LotV}{n b:Bs}(h1:x.q.length≤1000)(h2:x.c.length≤1000)(h3:n.length≤1000)(h4:b.length≤1000):∀t ∈ IQ N key s x n b,t.c.length≤2000∧t.d.length≤2000∧t.e.length≤2000:=by
 have hl:(dw x b).length≤1002:=nd h2 h4;unfold IQ;intro t ht;split at ht
 ·rw[List.mem_singleton]at ht;subst ht;exact⟨by show x.q.length≤_;omega,by simp,by show x.c.length≤_;omega⟩
 ·rcases List.mem_append.1 ht with ht|ht
  ·rw[List.mem_singleton]at ht;subst ht;exact⟨by show x.q.length≤_;omega,by show n.length≤_;omega,by show b.length≤_;omega⟩
  ·split at ht
   ·cases ht
   ·rw[List.mem_singleton]at ht;subst ht;exact⟨by simp,by simp,by show(dw x b).length≤_;omega⟩
section
variable {N key other:Bs} {ls:List LotV} {ns ps ks:List Bs}
theorem Jg(h1:ns.length=ls.length)(h2:ps.length=ls.length)(h3:ks.length=ls.length)(hx:∀x ∈ ls,x.q.length≤1000∧x.c.length≤1000)(hn:∀b ∈ ns,b.length≤1000)(hk:∀b ∈ ks,b.length≤1000):∀k,k≤ls.length→∀t ∈ (bM N key other ls ns ps ks k).ss,t.c.length≤2000∧t.d.length≤2000∧t.e.length≤2000
 |0,_=>by simp[bM]
 |k+1,hlt=>by
  have ih:=Jg h1 h2 h3 hx hn hk k (by omega);rw[ji (by omega) (by omega) (by omega) (by omega),IZ];intro t ht;rcases List.mem_append.1 ht with ht|ht
  ·exact ih t ht
  ·exact Jk (hx _ (List.getElem_mem _)).1 (hx _ (List.getElem_mem _)).2 (hn _ (List.getElem_mem _)) (hk _ (List.getElem_mem _)) t ht
theorem Jo(hN:N=[])(h1:ns.length=ls.length)(h2:ps.length=ls.length)(h3:ks.length=ls.length):∀k,k≤ls.length→∀t ∈ (bM N key other ls ns ps ks k).ss,t.b=[]
 |0,_=>by simp[bM]
 |k+1,hlt=>by
  have ih:=Jo hN h1 h2 h3 k (by omega);rw[ji (by omega) (by omega) (by omega) (by omega),IZ];intro t ht;rcases List.mem_append.1 ht with ht|ht
  ·exact ih t ht
  ·exact Jj hN _ _ _ _ t ht
end
section
variable {ls:List LotV} {f:FactV} {ps:List Fr} {os:List OptV} {k:Nat} {o:OptV} {N cash:Bs} {fr:Fr} {basis other:Bs} {st:ApSt}
theorem ApOK.freshNot(h:ApOK ls f ps os k o N cash fr basis other st)(hnf:∀x ∈ st.fs,(cr ls x.id).isSome=false):∀x ∈ ay st,IP ls x=false:=by
 intro x hx;obtain⟨j,hj,rfl⟩:=List.getElem_of_mem hx;obtain⟨_,_,i1,h',i2⟩:=h.F.at_ j hj;unfold IP;rw[i1,←i2];exact hnf _ (List.getElem_mem h')
theorem Jh{x:LotV}(h:x ∈ ls):IP ls x=true:=by
 unfold IP
 cases hc:(cr ls x.id).isSome
 ·exact absurd rfl (mY.1 hc x h)
 ·rfl
theorem ApOK.left(h:ApOK ls f ps os k o N cash fr basis other st)(hnf:∀x ∈ st.fs,(cr ls x.id).isSome=false):(aG (bd ls f.ins) (ay st)).filter (IP ls)=bd ls f.ins:=by
 rw[I4 _ _ (h.freshNot hnf),List.filter_eq_self];intro x hx;exact Jh (List.mem_filter.1 hx).1
theorem ApOK.fin(h:ApOK ls f ps os k o N cash fr basis other st):∀x ∈ ay st,x.ins=other:=by
 refine wC st ?_;rw[←h.st_];unfold dx;exact CU _
theorem ApOK.fresh(h:ApOK ls f ps os k o N cash fr basis other st)(hnf:∀x ∈ st.fs,(cr ls x.id).isSome=false):(aG (bd ls f.ins) (ay st)).filter (fun x=>!(IP ls x))=ay st:=by
 rw[I9 (ins:=other) (ay st) (bd ls f.ins) (fun x hx=>⟨by rw[h.freshNot hnf x hx];rfl,h.fin x hx⟩) (fun x hx hp=>by
  rw[Jh (List.mem_filter.1 hx).1]at hp
  cases hp)]
 have e:(bd ls f.ins).filter (fun x=>!(IP ls x))=[]:=by
  rw[List.filter_eq_nil_iff];intro x hx hp;rw[Jh (List.mem_filter.1 hx).1]at hp
  cases hp
 rw[e,List.nil_append]
theorem ApOK.ixs(h:ApOK ls f ps os k o N cash fr basis other st):∃ix,FsOK f.key other (ap ls f.ins) (aI (·.q) N (ap ls f.ins)) (aI (·.c) basis (ap ls f.ins)) (ap ls f.ins).length st.fs ix:=by
 obtain⟨ix,hfs⟩:=tG (N:=N) (key:=f.key) (other:=other) (ls:=ap ls f.ins) (ns:=aI (·.q) N (ap ls f.ins)) (ps:=aI (·.q) cash (ap ls f.ins)) (ks:=aI (·.c) basis (ap ls f.ins)) (ap ls f.ins).length;have hst:=h.st_;unfold dx at hst;rw[hst]at hfs;exact⟨ix,hfs⟩
theorem ApOK.match_(h:ApOK ls f ps os k o N cash fr basis other st):IY (ap ls f.ins) 0 (ay st):=by
 obtain⟨ix,hfs⟩:=h.ixs;have hl:=gB st
 have hm:=Jc (old:=ap ls f.ins) (fs:=ay st) (ix:=ix) (fun j hj=>by
  have hj2:j<st.fs.length:=by omega
  obtain⟨_,g1,g2,g3,_,g5⟩:=hfs.at_ j hj2;refine⟨g1,?_⟩;have e:=py st j hj2;by_cases h0:j=0
  ·rw[if_pos h0,g5]at e;rw[e];exact⟨rfl,rfl⟩
  ·rw[if_neg h0,g5]at e;rw[e];exact⟨rfl,rfl⟩) (fun i j hij hj=>hfs.mono i j hij (by omega)) (ay st).length 0 (by omega) (by omega) 0 (fun _=>Nat.zero_le _)
 rwa[List.drop_zero]at hm
theorem ApOK.used(h:ApOK ls f ps os k o N cash fr basis other st):∀x ∈ ay st,x.u=x.q:=by
 intro x hx;obtain⟨j,hj,rfl⟩:=List.getElem_of_mem hx;obtain⟨ix,hfs⟩:=h.ixs;have hj2:j<st.fs.length:=by have:=gB st;omega
 obtain⟨_,g1,g2,g3,_,g5⟩:=hfs.at_ j hj2;have e:=py st j hj2;by_cases h0:j=0
 ·rw[if_pos h0,g5]at e;rw[e]
 ·rw[if_neg h0,g5]at e;rw[e]
theorem ApOK.slen(h:ApOK ls f ps os k o N cash fr basis other st):(∀t ∈ st.ss,t.c.length≤2000∧t.d.length≤2000∧t.e.length≤2000)∧st.ss.length≤2000:=by
 obtain⟨l1,l2,l3⟩:=h.lens;have hs:=h.st_;unfold dx at hs;have hle:(ap ls f.ins).length≤ls.length:=List.length_filter_le _ _;have h1:=(gw (N:=N) (key:=f.key) (other:=other) (ls:=ap ls f.ins) (ns:=aI (·.q) N (ap ls f.ins)) (ps:=aI (·.q) cash (ap ls f.ins)) (L:=50) (ks:=aI (·.c) basis (ap ls f.ins)) (fun b hb=>(h.dk b hb).1) (ap ls f.ins).length).ls;have h2:=Jg (N:=N) (key:=f.key) (other:=other) l1 l2 l3 (fun x hx=>by have:=h.sm x (f7 hx).1;exact⟨this.2.2.1,this.2.2.2.1⟩) (fun b hb=>by have:=(h.dn b hb).1;omega) (fun b hb=>by have:=(h.dk b hb).1;omega) (ap ls f.ins).length (Nat.le_refl _);rw[hs]at h1 h2;have:=h.ln;exact⟨h2,by omega⟩
theorem ApOK.from_(h:ApOK ls f ps os k o N cash fr basis other st){x:LotV}(hx:x ∈ ap ls f.ins):f8 x.id st.ss=valI x.q∧Zq x.id st.ss=valI x.c∧IU x.id st.ss=true:=by
 obtain⟨l1,l2,l3⟩:=h.lens;have hd:((ap ls f.ins).map (·.id)).Nodup:=List.Nodup.sublist (List.Sublist.map _ List.filter_sublist) (mV h.all);have h1:=Jq (N:=N) (key:=f.key) (other:=other) l1 l2 l3 hd hx;have hs:=h.st_;unfold dx at hs;rw[hs]at h1;exact h1
theorem ApOK.some_(h:ApOK ls f ps os k o N cash fr basis other st)(hN:N≠[]):st.fs≠[]:=by
 intro e;obtain⟨l1,l2,l3⟩:=h.lens;have hs:=h.st_;unfold dx at hs;have h1:=(tK (N:=N) (key:=f.key) (other:=other) hN l1 l2 l3 (ap ls f.ins).length (Nat.le_refl _)).1;rw[hs,e,List.take_of_length_le (by omega),oP h.kN.2.2]at h1;exact h.nz hN h1.symm
theorem ApOK.to_(h:ApOK ls f ps os k o N cash fr basis other st)(hnf:∀x ∈ st.fs,(cr ls x.id).isSome=false):∀x ∈ aG (bd ls f.ins) (ay st),IV x.id st.ss=true→ofI (IR x.id st.ss)=x.q∧ofI (IT x.id st.ss)=x.c:=by
 intro x hx ha;obtain⟨l1,l2,l3⟩:=h.lens;have hs:=h.st_;unfold dx at hs;unfold IV at ha;obtain⟨t,ht,he⟩:=List.any_eq_true.1 ha;have he2:t.b=x.id:=of_decide_eq_true he;have hc:bU x=0:=(di (h.lots hnf).2.2).2 x hx;have hid:=Nh hc;have hck:=fb hc;have hle:(ap ls f.ins).length≤ls.length:=List.length_filter_le _ _;have hln:=h.ln;by_cases hN:N=[]
 ·have h1:=Jo (N:=N) (key:=f.key) (other:=other) hN l1 l2 l3 (ap ls f.ins).length (Nat.le_refl _);rw[hs]at h1;exact absurd (he2.symm.trans (h1 t ht)) hid
 have tk:=(Jn (N:=N) (key:=f.key) (other:=other) hN (by omega) l1 l2 l3 (ap ls f.ins).length (Nat.le_refl _));rw[hs]at tk;obtain⟨tk,hfl⟩:=tk;have hpos:0<st.fs.length:=List.length_pos_iff.2 (h.some_ hN)
 obtain⟨j,hj,hje⟩:∃j,j<st.fs.length∧x.id=fZ f.key (j+1):=by
  rcases tk.b t ht with g|g | ⟨j,hj,g⟩
  ·exact absurd (he2.symm.trans g) hid
  ·exact⟨0,hpos,he2.symm.trans g⟩
  ·exact⟨j,hj,he2.symm.trans g⟩
 rcases jB _ _ hx with g|g
 ·obtain⟨_,_,_,h',i2⟩:=h.F.at_ j (by rw[gB];exact hj);exact absurd (hje.trans i2.symm) (mY.1 (hnf _ (List.getElem_mem h')) x (List.mem_filter.1 g).1)
 ·obtain⟨m,hm,rfl⟩:=List.getElem_of_mem g;obtain⟨_,_,i1,h',_⟩:=h.F.at_ m hm;have e:=py st m h';have eq_:=tk.q m (by omega);have ec:=tk.c m (by omega);rw[←i1,List.getElem?_eq_getElem h']at eq_ ec;rw[eq_,ec];dsimp only;by_cases h0:m=0
  ·rw[if_pos h0]at e;rw[if_pos h0,e];rw[e]at hck;exact⟨eE.1 hck.1,rfl⟩
  ·rw[if_neg h0]at e;rw[if_neg h0,e,Int.add_zero];rw[e]at hck;exact⟨eE.1 hck.1,eE.1 hck.2.1⟩
end
theorem Nk(g:StepR→Bs)(p:StepR→Prop) [DecidablePred p] (ss:List StepR):(ss.map (fun s=>if p s then valI (g s) else 0)).sum=aR (ss.map (fun s=>if p s then g s else [])):=by
 unfold aR;rw[List.map_map];congr 1
 refine List.map_congr_left fun s _=>?_
 show _=valI (if p s then g s else []);split <;> simp[fT]
section
variable {ss:List StepR} {id:Bs}
theorem Ja(hs:∀t ∈ ss,t.c.length≤2000∧t.d.length≤2000∧t.e.length≤2000)(hn:ss.length≤2000)(k:Nat) :
  (ofI (f8 id (ss.take k))).length≤2007∧(ofI (Zq id (ss.take k))).length≤2007∧(ofI (IR id (ss.take k))).length≤2007∧(ofI (IT id (ss.take k))).length≤2007:=by
 have hl:(ss.take k).length≤100000:=by rw[List.length_take];omega
 have hm:∀t ∈ ss.take k,t.c.length≤2000∧t.d.length≤2000∧t.e.length≤2000:=fun t ht=>hs t (List.mem_of_mem_take ht)
 unfold f8 Zq IR IT;rw[Nk (·.c) (·.a=id),Nk (·.e) (·.a=id),Nk (·.d) (·.b=id),Nk (·.e) (·.b=id)];refine⟨?_,?_,?_,?_⟩ <;> refine kP 2000 _ (fun x hx=>?_) (by rw[List.length_map];exact hl)
 all_goals
  obtain⟨t,ht,rfl⟩:=List.mem_map.1 hx;have:=hm t ht;split
  ·omega
  ·simp
theorem I7{k:Nat}(h:k<ss.length):f8 id (ss.take (k+1))=f8 id (ss.take k)+(if(ss[k]'h).a=id then valI (ss[k]'h).c else 0)∧Zq id (ss.take (k+1))=Zq id (ss.take k)+(if(ss[k]'h).a=id then valI (ss[k]'h).e else 0) ∧
  IR id (ss.take (k+1))=IR id (ss.take k)+(if(ss[k]'h).b=id then valI (ss[k]'h).d else 0)∧IT id (ss.take (k+1))=IT id (ss.take k)+(if(ss[k]'h).b=id then valI (ss[k]'h).e else 0) ∧
  IU id (ss.take (k+1))=(IU id (ss.take k) || decide ((ss[k]'h).a=id))∧IV id (ss.take (k+1))=(IV id (ss.take k) || decide ((ss[k]'h).b=id)):=by
 rw[List.take_succ_eq_append_getElem h,Jd,Je,I2,I3];refine⟨by simp[f8],by simp[Zq],by simp[IR],by simp[IT],?_,?_⟩
 ·unfold IU;rw[List.any_append];simp
 ·unfold IV;rw[List.any_append];simp
end
end
section
open Go.RowKit Go.Shelf
attribute [local go_sem] size_bs toList_bs append_bs append_lit Oper.semAt_some
structure LotsP (ls old oths L:List LotV) (ss:List StepR):Prop where
 m:IY old 0 (L.filter (fun x=>!(IP ls x)))
 u:∀x ∈ L,IP ls x=false→x.u=x.q
 l:L.filter (IP ls)=oths
 f:∀x ∈ old,f8 x.id ss=valI x.q∧Zq x.id ss=valI x.c
 t:∀x ∈ L,IV x.id ss=true→ofI (IR x.id ss)=x.q∧ofI (IT x.id ss)=x.c
 sl:∀s ∈ ss,s.c.length≤2000∧s.d.length≤2000∧s.e.length≤2000
 sn:ss.length≤2000
 ln:ls.length≤1000
 nL:L.length≤1000
 no:old.length≤1000
 nt:oths.length≤1000
 so:∀x ∈ old,bv x∧ofI (valI x.q)=x.q∧ofI (valI x.c)=x.c
 sL:∀x ∈ L,bv x
theorem ApOK.lotsP{ls:List LotV}{f:FactV}{ps:List Fr}{os:List OptV}{k:Nat}{o:OptV}{N cash:Bs}{fr:Fr}{basis other:Bs}{st:ApSt}(h:ApOK ls f ps os k o N cash fr basis other st)(hnf:∀x ∈ st.fs,(cr ls x.id).isSome=false) :
  LotsP ls (ap ls f.ins) (bd ls f.ins) (aG (bd ls f.ins) (ay st)) st.ss:=by
 obtain⟨h1,h2,h3⟩:=h.lots hnf;have hln:=h.ln;have hlo:(ap ls f.ins).length≤ls.length:=List.length_filter_le _ _;have hlt:(bd ls f.ins).length≤ls.length:=List.length_filter_le _ _
 exact {
  m:=by rw[h.fresh hnf];exact h.match_
  u:=fun x hx hw=>h.used x (by rw[←h.fresh hnf];exact List.mem_filter.2 ⟨hx,by rw[hw];rfl⟩)
  l:=h.left hnf
  f:=fun x hx=>⟨(h.from_ hx).1,(h.from_ hx).2.1⟩
  t:=h.to_ hnf
  sl:=h.slen.1,sn:=h.slen.2,ln:=hln,nL:=h2,no:=by omega,nt:=by omega
  so:=fun x hx=>by
   have hc:=fb ((di h.all).2 x (f7 hx).1);exact⟨h.sm x (f7 hx).1,eE.1 hc.1,eE.1 hc.2.1⟩
  sL:=h1 }
def Nj(i:Bs)(x:LotV):Bool:=decide (x.ins≠i)
def Ji(w:World)(key:Bs)(A:Option Addr)(ss:List StepR):Prop:=Reads w 6 A ss.length (ss.flatMap (dI key))
theorem Ji.ext{w w':World}{key:Bs}{A:Option Addr}{ss:List StepR}(h:Ji w key A ss)(he:Ext w w'):Ji w' key A ss:=Reads.ext h he
theorem Jb(key:Bs)(s:StepR):(dI key s).length=6:=rfl
theorem Ji.at_{w:World}{key:Bs}{A:Option Addr}{ss:List StepR}(h:Ji w key A ss){k:Nat}(hk:k<ss.length) :
  ∃b o,A=some ⟨b,o,none⟩∧b<w.heap.size∧w.cell? ⟨b,o+k*6,none⟩=some (.string (bs key))∧w.cell? ⟨b,o+k*6+1,none⟩=some (.string (bs (ss[k]'hk).a))∧w.cell? ⟨b,o+k*6+2,none⟩=some (.string (bs (ss[k]'hk).b))∧w.cell? ⟨b,o+k*6+3,none⟩=some (.string (bs (ss[k]'hk).c)) ∧
    w.cell? ⟨b,o+k*6+4,none⟩=some (.string (bs (ss[k]'hk).d))∧w.cell? ⟨b,o+k*6+5,none⟩=some (.string (bs (ss[k]'hk).e)):=by
 obtain⟨b,o,rfl,hb⟩:=Reads.at_ h (by omega)
 have key:∀j,j<6→w.cell? ⟨b,o+k*6+j,none⟩=(dI key (ss[k]'hk))[j]? := by
  intro j hj;have h1:(ss.flatMap (dI key))[k*6+j]? = (dI key (ss[k]'hk))[j]? := lJ (dI key) 6 (Jb key) ss k j hk hj;have hl:j<(dI key (ss[k]'hk)).length:=by rw[Jb];exact hj
  rw[List.getElem?_eq_getElem hl]at h1 ⊢;have h2:=Reads.cell h h1;rw[←Nat.add_assoc]at h2;exact h2
 exact⟨b,o,rfl,hb,key 0 (by decide),key 1 (by decide),key 2 (by decide),key 3 (by decide),key 4 (by decide),key 5 (by decide)⟩
theorem IX{w w':World}{g:Nat}{a0 a1 a2 a3 a4 a5:Value}{t:TypeId}(h:Blk w g t #[a0,a1,a2,a3,a4,a5])(hx:Ext w w') :
  w'.cell? ⟨g,0,none⟩=some a0∧w'.cell? ⟨g,1,none⟩=some a1∧w'.cell? ⟨g,2,none⟩=some a2∧w'.cell? ⟨g,3,none⟩=some a3∧w'.cell? ⟨g,4,none⟩=some a4∧w'.cell? ⟨g,5,none⟩=some a5:=by
 have k:=h.ext hx;exact⟨k.cell 0,k.cell 1,k.cell 2,k.cell 3,k.cell 4,k.cell 5⟩
structure BdL (w:World) (g1 g2:Nat) (fc rc:Array Value) (AL:Option Addr) (L:List LotV) (key:Bs) (AS:Option Addr) (ss:List StepR) (W:World):Prop where
 x:Ext w W
 f:Blk W g1 30 fc
 r:Blk W g2 37 rc
 l:bp W AL L
 s:Ji W key AS ss
theorem BdL.on{w W W':World}{g1 g2:Nat}{fc rc:Array Value}{AL AS:Option Addr}{L:List LotV}{key:Bs}{ss:List StepR}(h:BdL w g1 g2 fc rc AL L key AS ss W)(hx:Ext W W'):BdL w g1 g2 fc rc AL L key AS ss W':=⟨h.x.trans hx,h.f.ext hx,h.r.ext hx,h.l.ext hx,h.s.ext hx⟩
abbrev I8(key:Bs)(t:StepR):Array Value:=#[.string (bs key),.string (bs t.a),.string (bs t.b),.string (bs t.c),.string (bs t.d),.string (bs t.e)]
theorem Ng(haw:nB)(w:World)(ls:List LotV)(A:Option Addr)(c:Nat)(f:FactV)(ps:List Fr)(os:List OptV)(pa oa:Option Addr)(pc oq:Nat)(ch:Int)(hI:LawIn w ls A f ps os pa oa pc)(hE:Env w) :
  Calls Tryz.prog 7 #[.slice A ls.length c,aB f (ac pa ps.length pc) (ac oa os.length oq),.int .i64 ch] w fun e w'=>e = .returned (.bool true)∧Ext w w':=by
 have HE:=qh hE;have HAW:=qh haw;have HI:=qh hI;have HF:=qh (Blk.new w 30 (af f (ac pa ps.length pc) (ac oa os.length oq)));have HX:Hid (Ext w (w.alloc (.cells (af f (ac pa ps.length pc) (ac oa os.length oq)) 30))):=qh (Ext.new _ _);have GR:=qh (fun W (hx:Ext w W)=>qu ls A c f ps os pa oa pc oq W (hI.la.ext hx) (hI.rp.ext hx) (hI.ro.ext hx) hI.np hI.no hI.nl);have DN:=qh (fun(hg:bZ ls=false) (hn:GreatNo f ps os) W (hx:Ext w W)=>yC W ls A c f ps os pa oa pc oq ch (hI.ext hx) hg hn (hE.ext hx));have hs1:(Tryz.prog.info? 30).map (·.size)=some (af f (ac pa ps.length pc) (ac oa os.length oq)).toList.length:=by kernel_rfl
 clear haw hI hE;go_enter Tryz.func7,Tryz.ntmps7;have hrg:=aA HF.out;go_wp2_with (first|refine aO (by kernel_rfl) 30 _ rfl w.heap.size 0 rfl _ _ hrg Tryz.underlying30 rfl hs1 ?_|fail);refine(GR.out _ HX.out).mono ?_;rintro e v1⟨⟨b,rfl,hb⟩,hx1⟩;replace HX:=HX.qt hx1;replace HF:=qh (HF.out.ext hx1);clear hx1 hrg GR
 cases b;rotate_left
 ·clear hb DN;go_wp2_with fail;refine(HAW.out _ (HE.out.ext HX.out)).mono ?_;rintro e v3⟨rfl,hx1⟩;replace HX:=HX.qt hx1;clear hx1;go_wp2_with fail;go_ret;exact⟨rfl,HX.out⟩
 obtain⟨hg,hn⟩:=hb rfl;have DN2:=qh (DN.out hg hn);clear hb DN hg hn;have hrg:=aA HF.out;go_wp2_with (first|refine aO (by kernel_rfl) 30 _ rfl w.heap.size 0 rfl _ _ hrg Tryz.underlying30 rfl hs1 ?_|fail);refine(DN2.out _ HX.out).mono ?_;rintro e v2 hd;clear hrg DN2;rcases hd with ⟨⟨A',n',c',rfl⟩,hx1⟩ | ⟨k,o,N,cash,fr,basis,other,st,AL,cl,AG,cg,AS,cs',gE,gT',hch,hok,hnf,rfl,hL,hGs,hSs,hEb,hTb,hx1⟩
 ·replace HX:=HX.qt hx1;replace HX:=qh ((HX.out.alloc (.cells #[.slice A' n' c',.slice none 0 0,.slice none 0 0,.slice none 0 0] 37)).alloc (.cells (oc eO) 50));clear hx1;go_wp2_with fail;refine(HAW.out _ (HE.out.ext HX.out)).mono ?_;rintro e v6⟨rfl,hx1⟩;replace HX:=HX.qt hx1;clear hx1;go_wp2_with fail;go_ret;exact⟨rfl,HX.out⟩
 have HR:=qh ((Blk.new v2 37 #[.slice AL (aG (bd ls f.ins) (ay st)).length cl,.slice AG st.gs.length cg,.slice AS st.ss.length cs',.slice (some ⟨gE,0,none⟩) 1 1]).alloc (.cells (oc o) 50));have hxn:=(Ext.new v2 (.cells #[.slice AL (aG (bd ls f.ins) (ay st)).length cl,.slice AG st.gs.length cg,.slice AS st.ss.length cs',.slice (some ⟨gE,0,none⟩) 1 1] 37)).alloc (.cells (oc o) 50);have hxx:=hx1.trans hxn;replace HX:=HX.qt hxx;replace HF:=qh (HF.out.ext hxx);have HL:=qh (hL.1.ext hxn);have HCL:=qh hL.2;have HS:=qh ((show Ji v2 f.key AS st.ss from hSs).ext hxn);clear hx1 hxn hxx hL hGs hSs hEb hTb;have HK:Hid (BdL w w.heap.size v2.heap.size (af f (ac pa ps.length pc) (ac oa os.length oq)) #[.slice AL (aG (bd ls f.ins) (ay st)).length cl,.slice AG st.gs.length cg,.slice AS st.ss.length cs',.slice (some ⟨gE,0,none⟩) 1 1] AL (aG (bd ls f.ins) (ay st)) f.key AS st.ss _):=qh ⟨HX.out,HF.out,HR.out,HL.out,HS.out⟩;clear HX HF HR HL HS;have HP:=qh (hok.lotsP hnf);have CA:=qh (fun W (hr:bp W AL (aG (bd ls f.ins) (ay st))) (he:Env W)=>d5 (aG (bd ls f.ins) (ay st)) AL cl W he hr HP.out.sL (by have:=HP.out.nL;omega));rw[(hok.lots hnf).2.2]at CA
 have CO:Hid (∀W,Ext w W→Calls Tryz.prog 26 #[.slice A ls.length c,.string (bs f.ins)] W fun e w'=>(∃A1 c1,e = .returned (.slice A1 (ap ls f.ins).length c1)∧bp w' A1 (ap ls f.ins))∧Ext W w'):=qh (fun W hr=>(gH ls A c f.ins W (HI.out.la.ext hr) (by have:=HP.out.ln;omega)).mono (by
  rintro e w'⟨A1,c1,rfl,ho,_,hx⟩;exact⟨⟨A1,c1,rfl,Reads.own ho⟩,hx⟩))
 have FI:Hid (∀id W,Ext w W→Calls Tryz.prog 32 #[.slice A ls.length c,.string (bs id)] W fun e w'=>e = .returned (.tuple #[.int .i64 (nh ls id),.bool (cr ls id).isSome])∧Ext W w'):=qh (fun id W hr=>uM ls A c id W (HI.out.la.ext hr) (by have:=HP.out.ln;omega))
 have SM:Hid (∀W B C b d,bp W B (bd ls f.ins)→bp W C (bd ls f.ins)→Calls Tryz.prog 33 #[.slice B (bd ls f.ins).length b,.slice C (bd ls f.ins).length d] W fun e w'=>e = .returned (.bool true)∧Ext W w'):=qh (fun W B C b d h1 h2=>(Cj _ _ B C b d W h1 h2 (by have:=HP.out.nt;omega) (by have:=HP.out.nt;omega)).mono (by
  rintro e w'⟨rfl,h⟩;exact⟨by rw[decide_eq_true rfl],h⟩))
 obtain⟨i0,hI0,hz0,hz1,hz2⟩:=info_parts fF;have HI0:=qh hI0;clear hI0;have HOTH:Hid (bd ls f.ins=ls.filter (Nj f.ins)):=qh rfl;clear hok hnf hch;generalize aG (bd ls f.ins) (ay st)=L at *;generalize ap ls f.ins=old at *;generalize bd ls f.ins=oths at *;generalize st.ss=ss at *;generalize st.gs.length=nG at *;obtain⟨-,-,-,-,-,x5,-⟩:=ae HK.out.f (Ext.refl _);obtain⟨r0,r1,r2,r3⟩:=bh HK.out.r (Ext.refl _);go_wp2_with fail;refine(CA.out _ HK.out.l (HE.out.ext HK.out.x)).mono ?_;rintro e w5⟨rfl,hx1⟩;clear x5 r0 r1 r2 r3;replace HK:=qh (HK.out.on hx1);clear hx1 CA;obtain⟨-,-,-,-,-,x5,-⟩:=ae HK.out.f (Ext.refl _);obtain⟨r0,r1,r2,r3⟩:=bh HK.out.r (Ext.refl _);go_wp2_with fail;refine(CO.out _ HK.out.x).mono ?_;rintro e w6⟨⟨A1,c1,rfl,ho⟩,hx1⟩;clear x5 r0 r1 r2 r3;replace HK:=qh (HK.out.on hx1);have HO:=qh ho;clear hx1 ho CO;obtain⟨-,-,-,-,-,x5,-⟩:=ae HK.out.f (Ext.refl _);obtain⟨r0,r1,r2,r3⟩:=bh HK.out.r (Ext.refl _);go_wp2_with fail;clear x5 r0 r1 r2 r3;go_loopw [59,11,12,14,15,16] (fun i a v _ _ _ wr=>∃k n:Nat,k≤L.length∧i = .int .i64 k∧a = .int .i64 n∧n≤old.length∧IY old n ((L.drop k).filter (fun x=>!(IP ls x)))∧mh wr w6.heap.size v ((L.take k).filter (IP ls))∧Ext w6 wr) (fun i _ _ _ _ _ _=>L.length-(intOf i).toNat)
 case atStart=>exact⟨0,0,by omega,rfl,rfl,by omega,HP.out.m,World.ownsRow_nil _ _ _ _,Ext.refl _⟩
 case round =>
  obtain⟨k,n,hk,rfl,rfl,hn,hm,hown,hx⟩:=hrel;have hown2:=hown;unfold mh at hown2;obtain⟨Av,cv,rfl⟩:=aC hown2;clear hown2;have hnL:=HP.out.nL;replace HK:=qh (HK.out.on hx);replace HO:=qh (HO.out.ext hx);have HW:=qh hx;have HV:=qh hown;clear hx hown;by_cases hlt:k<L.length
  ·obtain⟨b,oo,rfl,hb,c0,c1,c2,c3,c4,c5,c6⟩:=HK.out.l.at_ hlt;have⟨hki,hk0⟩:(k:Int)<(L.length:Int)∧(0:Int)≤(k:Int):=by omega
   have hd:L.drop k=(L[k]'hlt) :: L.drop (k+1):=List.drop_eq_getElem_cons hlt;have htk:L.take (k+1)=L.take k++[L[k]'hlt]:=List.take_succ_eq_append_getElem hlt;have hu:=HP.out.u _ (List.getElem_mem hlt)
   have hql:((L.take k).filter (IP ls)).length≤1000:=by
    have h1:=List.length_filter_le (IP ls) (L.take k);rw[List.length_take]at h1;have:=HP.out.nL;omega
   rw[hd]at hm;generalize (L[k]'hlt)=x at *;have HB:=qh (Blk.new wr 71 (lc x));have hxa:=Ext.new wr (.cells (lc x) 71);replace HK:=qh (HK.out.on hxa);replace HO:=qh (HO.out.ext hxa);replace HW:=HW.qt hxa;replace HV:Hid (mh (wr.alloc (.cells (lc x) 71)) w6.heap.size (.slice Av ((L.take k).filter (IP ls)).length cv) ((L.take k).filter (IP ls))):=qh (aP HV.out hxa);clear hxa
   have FK:Hid (∀W,Ext w W→Calls Tryz.prog 32 #[.slice A ls.length c,.string (bs x.id)] W fun e w'=>(∃z,e = .returned (.tuple #[.int .i64 z,.bool (IP ls x)]))∧Ext W w'):=qh (fun W hx=>(FI.out x.id W hx).mono (by
    rintro e w'⟨rfl,h⟩;exact⟨⟨_,rfl⟩,h⟩))
   go_upto_region 14 with fail;clear c0 c1 c2 c3 c4 c5 c6;generalize wr.alloc (.cells (lc x) 71)=W at *;generalize wr.heap.size=G at *
   cases hw:IP ls x
   ·rw[hw]at FK;have hf1:(x :: L.drop (k+1)).filter (fun y=>!(IP ls y))=x :: (L.drop (k+1)).filter (fun y=>!(IP ls y)):=by rw[List.filter_cons_of_pos (by rw[hw];rfl)]
    have hf2:(L.take (k+1)).filter (IP ls)=(L.take k).filter (IP ls):=by rw[htk,List.filter_append,List.filter_cons_of_neg (by rw[hw];decide)];simp
    rw[hf1]at hm;obtain⟨i,hni,hi,hacq,hopn,hrest⟩:=hm;have HM:=qh hrest;have HF2:=qh hf2;have HUQ:=qh (hu hw);have HQ:=qh (And.intro hacq hopn);clear hf1 hf2 hd htk hu hw hrest hacq hopn;generalize (L.take k).filter (IP ls)=q0 at *;obtain⟨p0,p1,p2,p3,p4,p5,p6⟩:=bK HB.out (Ext.refl _);go_wp2_with fail;refine(FK.out _ HK.out.x).mono ?_;rintro e w7⟨⟨z,rfl⟩,hx1⟩;clear p0 p1 p2 p3 p4 p5 p6;replace HK:=qh (HK.out.on hx1);replace HO:=qh (HO.out.ext hx1);replace HW:=HW.qt hx1;replace HV:Hid (mh w7 w6.heap.size (.slice Av q0.length cv) q0):=qh (aP HV.out hx1);replace HB:=qh (HB.out.ext hx1);clear hx1 FK;go_wp2_with fail;go_loopw [11] (fun a wr2=>∃n2:Nat,a = .int .i64 n2∧n2≤i∧Ext w7 wr2) (fun a _=>i-(intOf a).toNat)
    case atStart=>exact⟨n,rfl,hni,Ext.refl _⟩
    case round =>
     obtain⟨n2,rfl,hn2,hx2⟩:=hrel;have hlt2:n2<old.length:=by omega
     obtain⟨b1,o1,rfl,hb1,d0,d1,d2,d3,d4,d5,d6⟩:=(HO.out.ext hx2).at_ hlt2;obtain⟨p0,p1,p2,p3,p4,p5,p6⟩:=bK HB.out hx2;rw[HUQ.out]at p6;have HX2:=qh hx2;have⟨hki2,hk02⟩:(n2:Int)<(old.length:Int)∧(0:Int)≤(n2:Int):=by omega
     have hge:decide ((old.length:Int)≤(n2:Int))=false:=decide_eq_false (by omega);have hno:=HP.out.no
     have hne:¬ ((old[n2]'hlt2).acq=x.acq∧(old[n2]'hlt2).opn=x.opn)→n2+1≤i:=fun h=>by
      by_cases e:n2=i
      ·subst e;exact absurd HQ.out h
      ·omega
     have HNE:=qh hne;clear hne hx2;generalize (old[n2]'hlt2)=y at *;by_cases e1:y.acq=x.acq
     ·by_cases e2:y.opn=x.opn
      ·rw[e1]at d2;rw[e2]at d3;clear HNE e1 e2;go_wp2_with fail;go_quiet (fail);go_wp2_with fail;go_roundw
       case rel=>exact⟨k+1,n2+1,by omega,by go_num,by go_num,by omega,HM.out.low (by omega),by rw[HF2.out];exact aP HV.out (HX2.out.drewN _),HW.out.trans (HX2.out.drewN _)⟩
       case measure=>simp[intOf];omega
      ·rw[e1]at d2;have q2:(y.opn != x.opn)=true:=by rw[bne_iff_ne];exact e2
       have hle:=HNE.out (fun h=>e2 h.2);clear HNE e1 e2;go_wp2_with fail;go_quiet (fail);go_wp2_with fail;go_roundw
       case rel=>exact⟨n2+1,by go_num,hle,HX2.out.drewN _⟩
       case measure=>simp[intOf];omega
     ·have q1':(y.acq != x.acq)=true:=by rw[bne_iff_ne];exact e1
      have hle:=HNE.out (fun h=>e1 h.1);clear HNE e1;go_wp2_with fail;go_quiet (fail);go_wp2_with fail;go_roundw
      case rel=>exact⟨n2+1,by go_num,hle,HX2.out.drewN _⟩
      case measure=>simp[intOf];omega
   ·rw[hw]at FK;have hf1:(x :: L.drop (k+1)).filter (fun y=>!(IP ls y))=(L.drop (k+1)).filter (fun y=>!(IP ls y)):=by rw[List.filter_cons_of_neg (by rw[hw];decide)]
    have hf2:(L.take (k+1)).filter (IP ls)=(L.take k).filter (IP ls)++[x]:=by rw[htk,List.filter_append,List.filter_cons_of_pos hw];rfl
    rw[hf1]at hm;have HM:=qh hm;have HF2:=qh hf2;clear hm hf1 hf2 hd htk hu hw;generalize (L.take k).filter (IP ls)=q0 at *;obtain⟨p0,p1,p2,p3,p4,p5,p6⟩:=bK HB.out (Ext.refl _);go_wp2_with fail;refine(FK.out _ HK.out.x).mono ?_;rintro e w7⟨⟨z,rfl⟩,hx1⟩;clear p0 p1 p2 p3 p4 p5 p6;replace HK:=qh (HK.out.on hx1);replace HO:=qh (HO.out.ext hx1);replace HW:=HW.qt hx1;have hxb:=Ext.new w7 (.cells (lc x) 71);have HV2:Hid (mh (w7.alloc (.cells (lc x) 71)) w6.heap.size (.slice Av q0.length cv) q0):=qh (aP (aP HV.out hx1) hxb);replace HB:=qh (HB.out.ext hx1);clear hx1 HV FK;have HWb:=HW.qt hxb;have hsz:=HWb.out.size;obtain⟨p0,p1,p2,p3,p4,p5,p6⟩:=bK HB.out (Ext.refl _);go_wp2_with (at_builtin;refine wpList_append_lies _ rfl (.tmp 71) (.tmp 73) 22 rfl w6.heap.size 71 i0 _ 7 96 Tryz.underlying22 HI0.out hz0 hz1 hz2 rfl (by decide) (.slice Av q0.length cv) q0.length (lots q0) rfl HV2.out ⟨w7.heap.size,0,none⟩ 1 1 (aU x) (by simp[Act.eval]) rfl (World.news_of_block (heap_alloc_new w7 _)) (j9 _) (by decide) (by simp only[maxLen];omega) (by omega) hsz _ rfl ?_;intro g' cap w' hown' hgrow hat hlt';(have HW3:=qh (Ext.grown HWb.out hgrow (cW HV2.out))))
    have HV3:Hid (mh w' w6.heap.size (.slice (some ⟨g',0,none⟩) (q0.length+1) cap) (q0++[x])):=qh (by
     unfold mh;rw[List.length_append,jb];have e1:lots [x]=aU x:=by simp[lots]
     rw[e1];exact hown')
    go_roundw
    case rel=>exact⟨k+1,n,by omega,by go_num,rfl,hn,HM.out,by rw[HF2.out];exact HV3.out,HW3.out⟩
    case measure=>simp[intOf];omega
  ·have hkk:k=L.length:=by omega
   subst hkk;rw[List.take_length,HP.out.l]at HV ⊢;have HLF:Hid (bp wr Av oths):=qh (Reads.own HV.out);clear HV HW hm hn hk hlt;go_wp2_with fail;generalize wr=w8 at *;go_loopw [117,17,19] (fun i v _ wr=>∃k:Nat,k≤ls.length∧i = .int .i64 k∧mh wr w8.heap.size v ((ls.take k).filter (Nj f.ins))∧Ext w8 wr) (fun i _ _ _=>ls.length-(intOf i).toNat)
   case atStart=>exact⟨0,by omega,rfl,World.ownsRow_nil _ _ _ _,Ext.refl _⟩
   case round =>
    obtain⟨k,hk,rfl,hown,hx⟩:=hrel;have hown2:=hown;unfold mh at hown2;obtain⟨Aw,cw,rfl⟩:=aC hown2;clear hown2;have hnl:=HP.out.ln;replace HK:=qh (HK.out.on hx);replace HO:=qh (HO.out.ext hx);replace HLF:=qh (HLF.out.ext hx);have HW:=qh hx;have HV:=qh hown;clear hx hown;by_cases hlt:k<ls.length
    ·obtain⟨b,oo,rfl,hb,c0,c1,c2,c3,c4,c5,c6⟩:=(HI.out.la.ext HK.out.x).at_ hlt;have⟨hki,hk0⟩:(k:Int)<(ls.length:Int)∧(0:Int)≤(k:Int):=by omega
     have htk:ls.take (k+1)=ls.take k++[ls[k]'hlt]:=List.take_succ_eq_append_getElem hlt
     have hql:((ls.take k).filter (Nj f.ins)).length≤1000:=by
      have h1:=List.length_filter_le (Nj f.ins) (ls.take k);rw[List.length_take]at h1;have:=HP.out.ln;omega
     generalize (ls[k]'hlt)=x at *;have HB:=qh (Blk.new wr 71 (lc x));have hxa:=Ext.new wr (.cells (lc x) 71);replace HK:=qh (HK.out.on hxa);replace HO:=qh (HO.out.ext hxa);replace HLF:=qh (HLF.out.ext hxa);replace HW:=HW.qt hxa;replace HV:Hid (mh (wr.alloc (.cells (lc x) 71)) w8.heap.size (.slice Aw ((ls.take k).filter (Nj f.ins)).length cw) ((ls.take k).filter (Nj f.ins))):=qh (aP HV.out hxa);clear hxa;go_upto_region 27 with fail;clear c0 c1 c2 c3 c4 c5 c6;generalize wr.alloc (.cells (lc x) 71)=W at *;generalize wr.heap.size=G at *;obtain⟨p0,p1,p2,p3,p4,p5,p6⟩:=bK HB.out (Ext.refl _);obtain⟨-,-,-,-,-,x5,-⟩:=ae HK.out.f (Ext.refl _);by_cases hin:x.ins=f.ins
     ·have hf2:(ls.take (k+1)).filter (Nj f.ins)=(ls.take k).filter (Nj f.ins):=by rw[htk,List.filter_append,List.filter_cons_of_neg (by simp[Nj,hin])];simp
      have HF2:=qh hf2;rw[hin]at p1;clear hf2 htk;go_wp2_with fail;go_roundw
      case rel=>exact⟨k+1,by omega,by go_num,by rw[HF2.out];exact HV.out,HW.out⟩
      case measure=>simp[intOf];omega
     ·have hf2:(ls.take (k+1)).filter (Nj f.ins)=(ls.take k).filter (Nj f.ins)++[x]:=by rw[htk,List.filter_append,List.filter_cons_of_pos (by simp[Nj,hin])];rfl
      have HF2:=qh hf2;have hin2:=aQ hin;clear hf2 htk hin;generalize (ls.take k).filter (Nj f.ins)=q0 at *;have hxb:=Ext.new W (.cells (lc x) 71);have HV2:Hid (mh (W.alloc (.cells (lc x) 71)) w8.heap.size (.slice Aw q0.length cw) q0):=qh (aP HV.out hxb);have HWb:=HW.qt hxb;have hsz:=HWb.out.size;go_wp2_with (at_builtin;refine wpList_append_lies _ rfl (.tmp 126) (.tmp 128) 22 rfl w8.heap.size 71 i0 _ 7 96 Tryz.underlying22 HI0.out hz0 hz1 hz2 rfl (by decide) (.slice Aw q0.length cw) q0.length (lots q0) rfl HV2.out ⟨W.heap.size,0,none⟩ 1 1 (aU x) (by simp[Act.eval]) rfl (World.news_of_block (heap_alloc_new W _)) (j9 _) (by decide) (by simp only[maxLen];omega) (by omega) hsz _ rfl ?_;intro g' cap w' hown' hgrow hat hlt';(have HW3:=qh (Ext.grown HWb.out hgrow (cW HV2.out))))
      have HV3:Hid (mh w' w8.heap.size (.slice (some ⟨g',0,none⟩) (q0.length+1) cap) (q0++[x])):=qh (by
       unfold mh;rw[List.length_append,jb];have e1:lots [x]=aU x:=by simp[lots]
       rw[e1];exact hown')
      go_roundw
      case rel=>exact⟨k+1,by omega,by go_num,by rw[HF2.out];exact HV3.out,HW3.out⟩
      case measure=>simp[intOf];omega
    ·have hkk:k=ls.length:=by omega
     subst hkk;rw[List.take_length,←HOTH.out]at HV ⊢;have HRF:Hid (bp wr Aw oths):=qh (Reads.own HV.out);clear HV HW hk hlt;go_wp2_with fail;refine(SM.out _ _ _ _ _ HLF.out HRF.out).mono ?_;rintro e w9⟨rfl,hx1⟩;replace HK:=qh (HK.out.on hx1);replace HO:=qh (HO.out.ext hx1);clear hx1 HLF HRF SM FI;go_wp2_with fail;go_loopw [137,21,22,23,25] (fun i _ _ _ _ wr=>∃k:Nat,k≤old.length∧i = .int .i64 k∧Ext w9 wr) (fun i _ _ _ _ _=>old.length-(intOf i).toNat)
     case atStart=>exact⟨0,by omega,rfl,Ext.refl _⟩
     case round =>
      obtain⟨k,hk,rfl,hx⟩:=hrel;replace HK:=qh (HK.out.on hx);replace HO:=qh (HO.out.ext hx);have HW:=qh hx;clear hx;by_cases hlt:k<old.length
      ·obtain⟨b,oo,rfl,hb,c0,c1,c2,c3,c4,c5,c6⟩:=HO.out.at_ hlt;have⟨hki,hk0⟩:(k:Int)<(old.length:Int)∧(0:Int)≤(k:Int):=by omega
       have hno:=HP.out.no;have HSO:=qh (HP.out.so _ (List.getElem_mem hlt));have HFR:=qh (HP.out.f _ (List.getElem_mem hlt));generalize (old[k]'hlt)=x at *;have HB:=qh (Blk.new wr 71 (lc x));have hxa:=Ext.new wr (.cells (lc x) 71);replace HK:=qh (HK.out.on hxa);replace HO:=qh (HO.out.ext hxa);replace HW:=HW.qt hxa;clear hxa;go_upto_region 35 with fail;clear c0 c1 c2 c3 c4 c5 c6;generalize wr.alloc (.cells (lc x) 71)=W at *;generalize wr.heap.size=G at *;obtain⟨p0,p1,p2,p3,p4,p5,p6⟩:=bK HB.out (Ext.refl _);obtain⟨-,-,-,-,-,x5,-⟩:=ae HK.out.f (Ext.refl _);obtain⟨r0,r1,r2,r3⟩:=bh HK.out.r (Ext.refl _);go_quiet (fail);go_wp2_with fail;have hxq:Ext W (W.drewN nq):=(Ext.refl W).drewN nq;clear p0 p1 p2 p3 p4 p5 p6;clear x5 r0 r1 r2 r3;replace HK:=qh (HK.out.on hxq);replace HO:=qh (HO.out.ext hxq);replace HW:=HW.qt hxq;replace HB:=qh (HB.out.ext hxq);clear hxq;generalize W.drewN nq=WQ at *;go_loopw [148,22,23,25] (fun i q cc _ wr=>∃j:Nat,j≤ss.length∧i = .int .i64 j∧q = .string (bs (ofI (valI x.q-f8 x.id (ss.take j))))∧cc = .string (bs (ofI (valI x.c-Zq x.id (ss.take j))))∧Ext WQ wr) (fun i _ _ _ _=>ss.length-(intOf i).toNat)
       case atStart=>exact⟨0,by omega,rfl,by rw[List.take_zero,show f8 x.id []=0 from rfl,Int.sub_zero,HSO.out.2.1],by rw[List.take_zero,show Zq x.id []=0 from rfl,Int.sub_zero,HSO.out.2.2],Ext.refl _⟩
       case round =>
        obtain⟨j,hj,rfl,rfl,rfl,hx⟩:=hrel;replace HK:=qh (HK.out.on hx);replace HO:=qh (HO.out.ext hx);replace HW:=HW.qt hx;replace HB:=qh (HB.out.ext hx);have HJ:=qh hx;clear hx;by_cases hlt5:j<ss.length
        ·obtain⟨b2,o2,rfl,hb2,d0,d1,d2,d3,d4,d5⟩:=HK.out.s.at_ hlt5;have⟨hki2,hk02⟩:(j:Int)<(ss.length:Int)∧(0:Int)≤(j:Int):=by omega
         have hsn:=HP.out.sn;obtain⟨n1,n2,_,_,_,_⟩:=I7 (id:=x.id) hlt5;obtain⟨l1,l2,_,_⟩:=Ja (id:=x.id) HP.out.sl HP.out.sn j;have hsl:=HP.out.sl _ (List.getElem_mem hlt5);have hxs:=HSO.out.1;generalize (ss[j]'hlt5)=t at *
         have lq:(ofI (valI x.q-f8 x.id (ss.take j))).length≤2009:=by
          have h1:=nd (x:=x.q) (y:=ofI (f8 x.id (ss.take j))) (L:=2007) (by have:=hxs.2.2.1;omega) l1;rw[ag]at h1;exact h1
         have lc':(ofI (valI x.c-Zq x.id (ss.take j))).length≤2009:=by
          have h1:=nd (x:=x.c) (y:=ofI (Zq x.id (ss.take j))) (L:=2007) (by have:=hxs.2.2.2.1;omega) l2;rw[ag]at h1;exact h1
         have a1:=gX (ofI (valI x.q-f8 x.id (ss.take j))) t.c (by omega) (by omega);have a2:=gX (ofI (valI x.c-Zq x.id (ss.take j))) t.e (by omega) (by omega);rw[ag]at a1 a2;have hq1:t.a=x.id→valI x.q-f8 x.id (ss.take (j+1))=valI x.q-f8 x.id (ss.take j)-valI t.c:=fun e=>by rw[n1,if_pos e];omega
         have hc1:t.a=x.id→valI x.c-Zq x.id (ss.take (j+1))=valI x.c-Zq x.id (ss.take j)-valI t.e:=fun e=>by rw[n2,if_pos e];omega
         have hq2:t.a≠x.id→valI x.q-f8 x.id (ss.take (j+1))=valI x.q-f8 x.id (ss.take j):=fun e=>by rw[n1,if_neg e];omega
         have hc2:t.a≠x.id→valI x.c-Zq x.id (ss.take (j+1))=valI x.c-Zq x.id (ss.take j):=fun e=>by rw[n2,if_neg e];omega
         have A1:=qh a1;have A2:=qh a2;have Q1:=qh hq1;have C1:=qh hc1;have Q2:=qh hq2;have C2:=qh hc2;clear n1 n2 l1 l2 hsl hxs lq lc' a1 a2 hq1 hc1 hq2 hc2;generalize valI x.q-f8 x.id (ss.take j)=yq at *;generalize valI x.c-Zq x.id (ss.take j)=yc at *;have HT:=qh (Blk.new wr 76 (I8 f.key t));have hxa:=Ext.new wr (.cells (I8 f.key t) 76);replace HK:=qh (HK.out.on hxa);replace HJ:=HJ.qt hxa;replace HB:=qh (HB.out.ext hxa);clear hxa;go_upto_region 39 with fail;clear d0 d1 d2 d3 d4 d5;generalize wr.alloc (.cells (I8 f.key t) 76)=W at *;generalize wr.heap.size=G2 at *;obtain⟨s0,s1,s2,s3,s4,s5⟩:=IX HT.out (Ext.refl _);obtain⟨p0,p1,p2,p3,p4,p5,p6⟩:=bK HB.out (Ext.refl _);by_cases hid:t.a=x.id
         ·rw[hid]at s1;have HZQ:=qh (Q1.out hid);have HZC:=qh (C1.out hid);clear Q1 Q2 C1 C2 hid;go_upto_region 40 with fail;clear p0 p1 p2 p3 p4 p5 p6 s0 s1 s2;have HD:Hid (Ext W W.drew):=qh (Ext.refl W).drew
          go_region_held3 (fun w'=>w'.cell? ⟨G2,3,none⟩=some (.string (bs t.c))∧w'.cell? ⟨G2,5,none⟩=some (.string (bs t.e)))
           (go_keep)
           (first
            |(go_at_call 27;((with_reducible refine(A1.out _ (HE.out.ext (HK.out.x.trans HD.out))).mono ?_);rintro e w5⟨rfl,hx⟩);(replace HD:=HD.qt hx);(obtain⟨_,_,_,s3,s4,s5⟩:=IX HT.out HD.out);clear hx)
            |(go_at_call 27;((with_reducible refine(A2.out _ (HE.out.ext (HK.out.x.trans HD.out))).mono ?_);rintro e w5⟨rfl,hx⟩);(replace HD:=HD.qt hx);(obtain⟨_,_,_,s3,s4,s5⟩:=IX HT.out HD.out);clear hx)
            |fail)
          all_goals
           go_wp2_with fail;exact⟨⟨j+1,by omega,by go_num,by rw[HZQ.out],by rw[HZC.out],HJ.out.trans HD.out⟩,by simp[intOf];omega⟩
         ·have hid2:=aQ hid;have HZQ:=qh (Q2.out hid);have HZC:=qh (C2.out hid);clear Q1 Q2 C1 C2 hid A1 A2;go_wp2_with fail;go_roundw
          case rel=>exact⟨j+1,by omega,by go_num,by rw[HZQ.out],by rw[HZC.out],HJ.out⟩
          case measure=>simp[intOf];omega
        ·have hjj:j=ss.length:=by omega
         subst hjj;rw[List.take_length,HFR.out.1,HFR.out.2,Int.sub_self,Int.sub_self,dr.2 rfl];go_wp2_with fail;go_roundw
         case rel=>exact⟨k+1,by omega,by go_num,HW.out⟩
         case measure=>simp[intOf];omega
      ·have hkk:k=old.length:=by omega
       subst hkk;clear hk hlt HO;obtain⟨m24,hm24⟩:∃m:Nat,min (L.length:Int) 24=(m:Int):=⟨min L.length 24,by omega⟩;have hc1:(m24:Int)≤(cl:Int):=by have:=HCL.out;omega
       have hc2:m24≤cl:=by omega
       have HM24:Hid (m24≤L.length∧m24≤24):=qh (by omega);obtain⟨-,-,-,-,-,x5,-⟩:=ae HK.out.f (Ext.refl _);obtain⟨r0,r1,r2,r3⟩:=bh HK.out.r (Ext.refl _);go_wp2_with fail;clear x5 r0 r1 r2 r3;generalize wr=wB at *;clear hm24 hc1 hc2;go_loopw [181,27,28,29,30,32] (fun i _ _ _ _ _ wr=>∃k:Nat,k≤m24∧i = .int .i64 k∧Ext wB wr) (fun i _ _ _ _ _ _=>m24-(intOf i).toNat)
       case atStart=>exact⟨0,by omega,rfl,Ext.refl _⟩
       case round =>
        obtain⟨k,hk,rfl,hx⟩:=hrel;replace HK:=qh (HK.out.on hx);have HW:=qh hx;clear hx;by_cases hlt:k<m24
        ·have hltL:k<L.length:=by have:=HM24.out.1;omega
         obtain⟨b,oo,rfl,hb,c0,c1,c2,c3,c4,c5,c6⟩:=HK.out.l.at_ hltL;have⟨hki,hk0⟩:(k:Int)<(m24:Int)∧(0:Int)≤(k:Int):=by omega
         have HTO:=qh (HP.out.t _ (List.getElem_mem hltL));generalize (L[k]'hltL)=x at *;have HB:=qh (Blk.new wr 71 (lc x));have hxa:=Ext.new wr (.cells (lc x) 71);replace HK:=qh (HK.out.on hxa);replace HW:=HW.qt hxa;clear hxa;go_upto_region 48 with fail;clear c0 c1 c2 c3 c4 c5 c6;generalize wr.alloc (.cells (lc x) 71)=WQ at *;generalize wr.heap.size=G at *;obtain⟨-,-,-,-,-,x5,-⟩:=ae HK.out.f (Ext.refl _);obtain⟨r0,r1,r2,r3⟩:=bh HK.out.r (Ext.refl _);go_wp2_with fail;clear x5 r0 r1 r2 r3;go_loopw [188,28,29,30,32] (fun i q cc mk _ wr=>∃j:Nat,j≤ss.length∧i = .int .i64 j∧q = .string (bs (ofI (IR x.id (ss.take j))))∧cc = .string (bs (ofI (IT x.id (ss.take j))))∧mk = .bool (IV x.id (ss.take j))∧Ext WQ wr) (fun i _ _ _ _ _=>ss.length-(intOf i).toNat)
         case atStart=>exact⟨0,by omega,rfl,by rw[List.take_zero,show IR x.id []=0 from rfl,dr.2 rfl];rfl,by rw[List.take_zero,show IT x.id []=0 from rfl,dr.2 rfl];rfl,rfl,Ext.refl _⟩
         case round =>
          obtain⟨j,hj,rfl,rfl,rfl,rfl,hx⟩:=hrel;replace HK:=qh (HK.out.on hx);replace HW:=HW.qt hx;replace HB:=qh (HB.out.ext hx);have HJ:=qh hx;clear hx;by_cases hlt5:j<ss.length
          ·obtain⟨b2,o2,rfl,hb2,d0,d1,d2,d3,d4,d5⟩:=HK.out.s.at_ hlt5;have⟨hki2,hk02⟩:(j:Int)<(ss.length:Int)∧(0:Int)≤(j:Int):=by omega
           have hsn:=HP.out.sn;obtain⟨_,_,n1,n2,_,n3⟩:=I7 (id:=x.id) hlt5;obtain⟨_,_,l1,l2⟩:=Ja (id:=x.id) HP.out.sl HP.out.sn j;have hsl:=HP.out.sl _ (List.getElem_mem hlt5);generalize (ss[j]'hlt5)=t at *;have a1:=fS (ofI (IR x.id (ss.take j))) t.d (by omega) (by omega);have a2:=fS (ofI (IT x.id (ss.take j))) t.e (by omega) (by omega);rw[ag]at a1 a2;have A1:=qh a1;have A2:=qh a2;have Q1:Hid (t.b=x.id→IR x.id (ss.take (j+1))=IR x.id (ss.take j)+valI t.d∧IT x.id (ss.take (j+1))=IT x.id (ss.take j)+valI t.e∧IV x.id (ss.take (j+1))=true):=qh (fun e=>⟨by rw[n1,if_pos e],by rw[n2,if_pos e],by rw[n3];simp[e]⟩);have Q2:Hid (t.b≠x.id→IR x.id (ss.take (j+1))=IR x.id (ss.take j)∧IT x.id (ss.take (j+1))=IT x.id (ss.take j)∧IV x.id (ss.take (j+1))=IV x.id (ss.take j)):=qh (fun e=>⟨by rw[n1,if_neg e,Int.add_zero],by rw[n2,if_neg e,Int.add_zero],by rw[n3];simp[e]⟩);clear n1 n2 n3 l1 l2 hsl a1 a2;generalize IR x.id (ss.take j)=yq at *;generalize IT x.id (ss.take j)=yc at *;generalize IV x.id (ss.take j)=ya at *;have HT:=qh (Blk.new wr 76 (I8 f.key t));have hxa:=Ext.new wr (.cells (I8 f.key t) 76);replace HK:=qh (HK.out.on hxa);replace HJ:=HJ.qt hxa;replace HB:=qh (HB.out.ext hxa);clear hxa;go_upto_region 53 with fail;clear d0 d1 d2 d3 d4 d5;generalize wr.alloc (.cells (I8 f.key t) 76)=W at *;generalize wr.heap.size=G2 at *;obtain⟨s0,s1,s2,s3,s4,s5⟩:=IX HT.out (Ext.refl _);obtain⟨p0,p1,p2,p3,p4,p5,p6⟩:=bK HB.out (Ext.refl _);by_cases hid:t.b=x.id
           ·rw[hid]at s2;obtain⟨zq1,zc1,za1⟩:=Q1.out hid;have HZ:=qh (And.intro zq1 (And.intro zc1 za1));clear Q1 Q2 hid zq1 zc1 za1;go_upto_region 54 with fail;clear p0 p1 p2 p3 p4 p5 p6 s0 s1 s2;have HD:Hid (Ext W W.drew):=qh (Ext.refl W).drew
            go_region_held3 (fun w'=>w'.cell? ⟨G2,4,none⟩=some (.string (bs t.d))∧w'.cell? ⟨G2,5,none⟩=some (.string (bs t.e)))
             (go_keep)
             (first
              |(go_at_call 21;((with_reducible refine(A1.out _ (HE.out.ext (HK.out.x.trans HD.out))).mono ?_);rintro e w5⟨rfl,hx⟩);(replace HD:=HD.qt hx);(obtain⟨_,_,_,s3,s4,s5⟩:=IX HT.out HD.out);clear hx)
              |(go_at_call 21;((with_reducible refine(A2.out _ (HE.out.ext (HK.out.x.trans HD.out))).mono ?_);rintro e w5⟨rfl,hx⟩);(replace HD:=HD.qt hx);(obtain⟨_,_,_,s3,s4,s5⟩:=IX HT.out HD.out);clear hx)
              |fail)
            all_goals
             go_wp2_with fail;exact⟨⟨j+1,by omega,by go_num,by rw[HZ.out.1],by rw[HZ.out.2.1],by rw[HZ.out.2.2],HJ.out.trans HD.out⟩,by simp[intOf];omega⟩
           ·have hid2:=aQ hid;have HZ:=qh (Q2.out hid);clear Q1 Q2 hid A1 A2;go_wp2_with fail;go_roundw
            case rel=>exact⟨j+1,by omega,by go_num,by rw[HZ.out.1],by rw[HZ.out.2.1],by rw[HZ.out.2.2],HJ.out⟩
            case measure=>simp[intOf];omega
          ·have hjj:j=ss.length:=by omega
           subst hjj;rw[List.take_length];obtain⟨p0,p1,p2,p3,p4,p5,p6⟩:=bK HB.out (Ext.refl _)
           cases hta:IV x.id ss
           ·go_wp2_with fail;go_roundw
            case rel=>exact⟨k+1,by omega,by go_num,HW.out⟩
            case measure=>simp[intOf];omega
           ·rw[(HTO.out hta).1,(HTO.out hta).2];go_wp2_with fail;go_roundw
            case rel=>exact⟨k+1,by omega,by go_num,HW.out⟩
            case measure=>simp[intOf];omega
        ·have hkk:k=m24:=by omega
         subst hkk;clear hk hlt;go_wp2_with fail;refine(HAW.out _ (HE.out.ext HK.out.x)).mono ?_;rintro e wz⟨rfl,hx1⟩;have HZ:=qh (HK.out.x.trans hx1);clear hx1;go_wp2_with fail;go_ret;exact⟨rfl,HZ.out⟩
end
section
open Go.RowKit Go.Shelf
theorem lawLots(ls:List LotV)(A:Option Addr)(c:Nat)(f:FactV)(ps:List Fr)(os:List OptV)(pa oa:Option Addr)(pc oq:Nat)(n:Int)(W:World)(hR:bp W A ls)(_:ls.length≤c)(hn:ls.length≤4611686018427387904)(hF:FactIn W f ps os pa oa pc oq)(hE:Env W) :
  Calls Tryz.prog 7 #[.slice A ls.length c,aB f (ac pa ps.length pc) (ac oa os.length oq),.int .i64 n] W fun e w'=>e = .returned (.bool true)∧Ext W w' :=
 Ng qx W ls A c f ps os pa oa pc oq n ⟨hR,hF.rp,hF.cp,hF.ro,hF.wf,hn,hF.np,hF.no⟩ hE
end
end Go.Proofs.YthgpheopnhajaaaGreatDoor
