/- The seat's texts, part QK. -/
import Derived.Test.YtaegjkllenlfpaaGreatDoorQ26
import Derived.Test.YtaegjkllenlfpaaGreatDoorQ32
import Derived.Test.YtaegjkllenlfpaaGreatDoorQ33
import Derived.Test.YtaegjkllenlfpaaGreatDoorQX
set_option maxRecDepth 100000
set_option maxHeartbeats 8000000
namespace Go.Proofs.YtaegjkllenlfpaaGreatDoor
variable {T v:Int}{k b o i:Nat}
section
open Go.RowKit
theorem uX:∀(l:List Int),(∀x ∈ l,0<=x)->∀y ∈ l,y<=l.sum
 |[],_,y,hy=>by cases hy
 |a :: r,h,y,hy=>by
  have h1:0<=r.sum:=dY r fun x hx=>h x (List.mem_cons_of_mem _ hx)
  have ha:=h a (List.mem_cons_self ..);rw[List.sum_cons];rcases List.mem_cons.1 hy with e|e
  ·rw[e];omega
  ·have:=uX r (fun x hx=>h x (List.mem_cons_of_mem _ hx)) y e;omega
theorem tA{ws:List Int}(hT:0<=T)(hw:∀x ∈ ws,0<=x)(hS:0<ws.sum):∀v ∈ be T ws,0<=v∧v<=T:=by
 intro v hv;have h0:=l7 hT hw hS v hv;obtain⟨k,hk,rfl⟩:=List.mem_iff_getElem.1 hv;have hk':k<ws.length:=by rw[ie]at hk;exact hk
 have h:=(tN (T:=T) hS k hk' hk).2;have hle:=uX ws hw _ (List.getElem_mem hk');have h1:T*ws[k]'hk'<=T*ws.sum:=Int.mul_le_mul_of_nonneg_left hle hT;refine⟨h0,Int.not_lt.1 fun hlt=>?_⟩;have h2:(T+1)*ws.sum<=(be T ws)[k]'hk*ws.sum:=Int.mul_le_mul_of_nonneg_right (by omega) (by omega);rw[Int.add_mul,Int.one_mul]at h2;omega
theorem uY{ws:List Int}(hw:∀x ∈ ws,0<=x)(hS:0<ws.sum):∀v ∈ bU T ws,v.natAbs<=T.natAbs:=by
 intro v hv;unfold bU at hv;split at hv
 ·obtain⟨u,hu,rfl⟩:=List.mem_map.1 hv;have:=tA (T := -T) (by omega) hw hS u hu;omega
 ·have:=tA (T:=T) (by omega) hw hS v hv;omega
section
variable {key ins:Bs} {day:Int} {xs:List LotV} {pr:List Bs}
theorem tB(h:pr.length=xs.length):bQ (·.q) (cA key ins day xs pr)=(xs.map (fun x=>valI x.q)).sum∧bQ (·.c) (cA key ins day xs pr)=(xs.map (fun x=>valI x.c)).sum∧bQ (·.p) (cA key ins day xs pr)=(pr.map valI).sum:=by
 unfold bQ cA;simp only[List.map_map];have e1:(xs.zip pr).map Prod.fst=xs:=List.map_fst_zip (by omega);have e2:(xs.zip pr).map Prod.snd=pr:=List.map_snd_zip (by omega);refine⟨?_,?_,?_⟩
 ·conv=>rhs;rw[←e1,List.map_map]
  rfl
 ·conv=>rhs;rw[←e1,List.map_map]
  rfl
 ·conv=>rhs;rw[←e2,List.map_map]
  rfl
theorem m6(h:pr.length=xs.length):(cA key ins day xs pr).length=xs.length:=by
 unfold cA;rw[List.length_map,List.length_zip];omega
theorem pi(h:pr.length=xs.length)(hk:k<xs.length):∃hk':k<(cA key ins day xs pr).length,∃hp:k<pr.length,(cA key ins day xs pr)[k]'hk'=lL key ins day (xs[k]'hk) (pr[k]'hp):=by
 refine⟨by rw[m6 h];exact hk,by omega,?_⟩;simp[cA]
end
structure Fine (L:Nat) (x:LotV):Prop where
 id:x.id.length<=40
 ins:x.ins.length<=40
 q:x.q.length<=L
 c:x.c.length<=L
 u:x.u.length<=L
theorem Fine.small{L:Nat}{x:LotV}(h:Fine L x)(hL:L<=1000):SmallL x:=⟨by have:=h.id;omega,by have:=h.ins;omega,by have:=h.q;omega,by have:=h.c;omega,by have:=h.u;omega⟩
theorem yp{a:Bs}{L:Nat}(hc:checkI a=0)(h0:0<=valI a)(hv:valI a<=v)(hL:(ofI v).length<=L):a.length<=L+1:=by
 rw[←di.1 hc];refine eL (l:=ofI v) ?_ hL;rw[valI_ofI];omega
theorem Dt{L:Nat}{x y:LotV}(hx:Fine L x)(cx:checkL x=0)(cy:checkL y=0)(e1:y.id=x.id)(e2:y.ins=x.ins)(hq:valI y.q<=valI x.q)(hc:valI y.c<=valI x.c):Fine (L+1) y:=by
 obtain⟨y1,y2,y3,y4,y5⟩:=bh cy;obtain⟨x1,x2,x3,x4,x5⟩:=bh cx;have hql:y.q.length<=L+1:=yp y1 (by omega) hq (by rw[di.1 x1];exact hx.q);refine⟨by rw[e1];exact hx.id,by rw[e2];exact hx.ins,hql,yp y2 y4 hc (by rw[di.1 x2];exact hx.c),?_⟩;rcases y5 with e|e
 ·rw[e];simp
 ·rw[e];exact hql
section
variable {ls:List LotV} {f:FactV} {ps:List Fr} {os:List OptV}
theorem SelIn.fine(h:SelIn ls f ps os)(n:Nat):∀x ∈ aC ls f.ins n,Fine 21 x:=by
 have hg:=cI h.great
 have hf:∀x ∈ ls,Fine 21 x:=fun x hx=>by
  obtain⟨a,b,c,d,e⟩:=fI (hg.2 x hx);exact⟨d,e,by omega,by omega,by omega⟩
 unfold aC;split
 ·intro x hx;rcases nX h.all hx with hx | ⟨y,v,hy,rfl,v0,v1⟩
  ·exact hf x hx
  ·have hy:=hf y hy;refine⟨hy.id,hy.ins,hy.q,?_,hy.u⟩;have e:totC ls f.ins=aW ((ofL ls f.ins).map (·.c)):=by unfold totC aW;rw[List.map_map];rfl
   have hl:=gM 13 ((ofL ls f.ins).map (·.c)) (by
    intro b hb;obtain⟨z,hz,rfl⟩:=List.mem_map.1 hb;exact(fI (hg.2 z (bH hz).1)).2.1) (by
    rw[List.length_map];have h1:(ofL ls f.ins).length<=ls.length:=List.length_filter_le _ _;have:=(ap h.all).1;omega)
   rw[←e]at hl;exact eL (l:=ofI (totC ls f.ins)) (by rw[valI_ofI];omega) hl
 ·exact hf
theorem SelIn.cuts(h:SelIn ls f ps os)(n:Nat)(hq:valI f.qty<=totQ ls f.ins):∀x ∈ aC ls f.ins n,∀d:Bs,∀p ∈ bJ ls f n ps,p.num=x.id->p.den=d->x.q≠d->checkL (cV x d)=0∧checkL (cH x d)=0:=by
 intro x hx d p hp e1 e2 hne;have l:=h.ls n;have hv:=(ap l.all).2;have hk:=(h.pick n hq).1.ok;obtain⟨y,hy,e3,e4,e5⟩:=hk.at_ p hp;have:=nY (bj l.all) hx hy (e3.trans e1);subst this
 rw[←e2];exact sL (hv y hx) (hk.den p hp) e4 (sN hv hx (hk.den p hp) e5 (by rw[e2];exact hne))
theorem SelIn.takFine(h:SelIn ls f ps os)(n:Nat)(hq:valI f.qty<=totQ ls f.ins):∀x ∈ av ls f n ps,Fine 22 x:=by
 have l:=h.ls n;have hv:=(ap l.all).2;have hp:=(h.pick n hq).1;intro y hy;obtain⟨k,hk,rfl⟩:=List.getElem_of_mem hy
 have hk2:k<(bJ ls f n ps).length:=by
  have:=fK l.all hp;unfold av at hk;omega
 obtain⟨hk',x,hx,_,e1,e2⟩:=qg l.all hp hk2;have hxf:=h.fine n x hx;have e3:(av ls f n ps)[k]'hk=if x.q=((bJ ls f n ps)[k]'hk2).den then x else cV x ((bJ ls f n ps)[k]'hk2).den:=e2;rw[e3];split
 ·exact⟨hxf.id,hxf.ins,by have:=hxf.q;omega,by have:=hxf.c;omega,by have:=hxf.u;omega⟩
 ·rename_i hne
  obtain⟨ca,cb⟩:=h.cuts n hq x hx _ _ (List.getElem_mem hk2) e1.symm rfl hne;obtain⟨s1,s2⟩:=pZ x ((bJ ls f n ps)[k]'hk2).den;obtain⟨_,_,b3,b4,_⟩:=bh cb;exact Dt hxf (hv x hx) ca rfl rfl (by omega) (by omega)
theorem SelIn.takIns(h:SelIn ls f ps os)(n:Nat)(hq:valI f.qty<=totQ ls f.ins):∀x ∈ av ls f n ps,x.ins=f.ins:=by
 have l:=h.ls n;have hp:=(h.pick n hq).1;intro y hy;obtain⟨k,hk,rfl⟩:=List.getElem_of_mem hy
 have hk2:k<(bJ ls f n ps).length:=by
  have:=fK l.all hp;unfold av at hk;omega
 obtain⟨hk',_,_,e⟩:=uT l.all hp hk2;exact e
theorem SelIn.takTot(h:SelIn ls f ps os)(n:Nat)(hq:valI f.qty<=totQ ls f.ins):totQ (av ls f n ps) f.ins=((av ls f n ps).map (fun x=>valI x.q)).sum∧totC (av ls f n ps) f.ins=((av ls f n ps).map (fun x=>valI x.c)).sum:=by
 have e:ofL (av ls f n ps) f.ins=av ls f n ps:=by
  unfold ofL;rw[List.filter_eq_self];intro x hx;simpa using h.takIns n hq x hx
 unfold totQ totC;rw[e];exact⟨rfl,rfl⟩
theorem SelIn.takQ(h:SelIn ls f ps os)(n:Nat)(hq:valI f.qty<=totQ ls f.ins):((av ls f n ps).map (fun x=>valI x.q)).sum=valI f.qty:=by
 have l:=h.ls n;obtain⟨hp,hs⟩:=h.pick n hq;have e:=th l.all hp;rw[←hs];unfold iT;have e2:(av ls f n ps).map (fun x=>valI x.q)=((av ls f n ps).map (·.q)).map valI:=by rw[List.map_map];rfl
 rw[e2];unfold av;rw[e,List.map_map];rfl
theorem SelIn.wt(h:SelIn ls f ps os)(n:Nat)(hq:valI f.qty<=totQ ls f.ins):WtOK ((av ls f n ps).map (·.q)):=oo (h.ls n).all (h.pick n hq).1 (h.pos n hq)
theorem SelIn.prtSum(h:SelIn ls f ps os)(n:Nat)(hq:valI f.qty<=totQ ls f.ins):((dh (fy f) (av ls f n ps)).map valI).sum=valI f.amt-valI f.fee:=by
 have w:=h.wt n hq;have hs:0<(((av ls f n ps).map (·.q)).map valI).sum:=w.sum;unfold dh;rw[List.map_map,show(valI ∘ ofI)=id from funext fun z=>valI_ofI z,List.map_id,lm hs,fy,valI_ofI]
theorem SelIn.prtLen(h:SelIn ls f ps os)(n:Nat)(hq:valI f.qty<=totQ ls f.ins):∀b ∈ dh (fy f) (av ls f n ps),b.length<=44∧checkI b=0:=by
 have w:=h.wt n hq
 have hw:∀x ∈ ((av ls f n ps).map (·.q)).map valI,0<=x:=by
  intro x hx;obtain⟨y,hy,rfl⟩:=List.mem_map.1 hx;exact w.nn y hy
 have hs:0<(((av ls f n ps).map (·.q)).map valI).sum:=w.sum;intro b hb;unfold dh at hb;obtain⟨v,hv,rfl⟩:=List.mem_map.1 hb;have h1:=uY hw hs v hv;exact⟨eL (l:=fy f) h1 h.net.1,eM _⟩
theorem SelIn.sums(h:SelIn ls f ps os)(n:Nat)(hq:valI f.qty<=totQ ls f.ins):bQ (·.q) (aP ls f n ps)=valI f.qty∧bQ (·.p) (aP ls f n ps)=valI f.amt-valI f.fee∧bQ (·.c) (aP ls f n ps)=totC (av ls f n ps) f.ins:=by
 obtain⟨a,b,c⟩:=tB (key:=f.key) (ins:=f.ins) (day:=f.day) (eC (fy f) (av ls f n ps));exact⟨a.trans (h.takQ n hq),c.trans (h.prtSum n hq),b.trans (h.takTot n hq).2.symm⟩
theorem SelIn.kept(h:SelIn ls f ps os)(n:Nat)(hq:valI f.qty<=totQ ls f.ins):totQ (bP ls f n ps) f.ins+valI f.qty=totQ ls f.ins∧totC (bP ls f n ps) f.ins+totC (av ls f n ps) f.ins=totC ls f.ins:=by
 have l:=h.ls n;obtain⟨a,b⟩:=CL f.ins (bj l.all) (h.pick n hq).1.ok;have e1:totQ (bP ls f n ps) f.ins+totQ (av ls f n ps) f.ins=totQ (aC ls f.ins n) f.ins:=a;have e2:totC (bP ls f n ps) f.ins+totC (av ls f n ps) f.ins=totC (aC ls f.ins n) f.ins:=b;rw[(h.takTot n hq).1,h.takQ n hq,l.q]at e1;rw[l.c]at e2;exact⟨e1,e2⟩
theorem SelIn.others(h:SelIn ls f ps os)(n:Nat)(hq:valI f.qty<=totQ ls f.ins):aX (bP ls f n ps) f.ins=aX ls f.ins:=by
 have l:=h.ls n;obtain⟨hp,_⟩:=h.pick n hq;have e:=vZ (bj l.all) hp.ok hp.own;have e1:aX (bP ls f n ps) f.ins=aX (aC ls f.ins n) f.ins:=e;rw[e1];unfold aC;split
 ·unfold aX;by_cases h0:(ofL ls f.ins).length=0
  ·rw[iB h0]
  ·rw[km h0]
   have key:∀(l:List LotV) (k:Nat),(eZ (iA (cG ls f.ins)) f.ins k l).filter (fun x=>decide (x.ins≠f.ins))=l.filter (fun x=>decide (x.ins≠f.ins)):=by
    intro l;induction l with
    |nil=>intro k;rfl
    |cons x r ih =>
     intro k;unfold eZ;split
     ·rename_i hx
      have e1:(iA (cG ls f.ins) k x).ins=f.ins:=hx;rw[List.filter_cons_of_neg (by simp[e1]),List.filter_cons_of_neg (by simp[hx])];exact ih _
     ·rename_i hx
      rw[List.filter_cons_of_pos (by simp[hx]),List.filter_cons_of_pos (by simp[hx]),ih]
   exact key ls 0
 ·rfl
theorem SelIn.gnsLen(h:SelIn ls f ps os)(n:Nat)(hq:valI f.qty<=totQ ls f.ins):(aP ls f n ps).length<=1000∧∀g ∈ aP ls f n ps,g.q.length<=44∧g.p.length<=44∧g.c.length<=44:=by
 have l:=h.ls n;obtain⟨hp,_⟩:=h.pick n hq;have hlen:=m6 (key:=f.key) (ins:=f.ins) (day:=f.day) (eC (fy f) (av ls f n ps));have ht:(av ls f n ps).length=(bJ ls f n ps).length:=fK l.all hp;have h1:=hp.len;have h2:(ofL (aC ls f.ins n) f.ins).length<=(aC ls f.ins n).length:=List.length_filter_le _ _;have h3:=(ap l.all).1;refine⟨by unfold aP;rw[hlen];omega,fun g hg=>?_⟩;obtain⟨k,hk,rfl⟩:=List.getElem_of_mem hg;have hk2:k<(av ls f n ps).length:=by unfold aP at hk;rw[hlen]at hk;exact hk
 obtain⟨_,hpk,e⟩:=pi (key:=f.key) (ins:=f.ins) (day:=f.day) (eC (fy f) (av ls f n ps)) hk2;have e2:(aP ls f n ps)[k]'hk=lL f.key f.ins f.day ((av ls f n ps)[k]'hk2) ((dh (fy f) (av ls f n ps))[k]'hpk):=e;have hf:=h.takFine n hq _ (List.getElem_mem hk2);have hb:=h.prtLen n hq _ (List.getElem_mem hpk);rw[e2];exact⟨by have:=hf.q;show((av ls f n ps)[k]'hk2).q.length<=44;omega,hb.1,by have:=hf.c;show((av ls f n ps)[k]'hk2).c.length<=44;omega⟩
end
theorem tC{ls:List LotV}{ins:Bs}{ps:List Fr}(hall:checkAllL ls=0)(h:PickIn ls ins ps)(h0:totQ (ax ls ps).1 ins=0):(ax ls ps).1=aX ls ins∧∀x ∈ ofL ls ins,∃p ∈ ps,p.num=x.id∧x.q=p.den:=by
 have hnd:=bj hall;have e0:ofL (ax ls ps).1 ins=[]:=List.length_eq_zero_iff.1 ((qO (xL hall h.ok).1).1 h0);have hr:(ax ls ps).1=ls.filterMap (aY ps):=by rw[eA ps ls hnd h.ok]
 have hn:∀x ∈ ofL ls ins,aY ps x=none:=by
  intro x hx;obtain⟨h1,h2⟩:=bH hx
  cases hq:aY ps x with
  |none=>rfl
  |some y =>
   have hy:y ∈ (ax ls ps).1:=by rw[hr];exact List.mem_filterMap.2 ⟨x,h1,hq⟩
   have hyi:y.ins=x.ins:=by
    unfold aY at hq;split at hq
    ·injection hq with hq;rw[hq]
    ·split at hq
     ·cases hq
     ·injection hq with hq;rw[←hq];rfl
   have:y ∈ ofL (ax ls ps).1 ins:=List.mem_filter.2 ⟨hy,by simpa using hyi.trans h2⟩;rw[e0]at this
   cases this
 refine⟨?_,fun x hx=>?_⟩
 ·rw[hr];unfold aX;rw[←List.filterMap_eq_filter];refine eY (fun x hx=>?_);by_cases hi:x.ins=ins
  ·rw[hn x (List.mem_filter.2 ⟨hx,by simpa using hi⟩)];simp[Option.guard,hi]
  ·have h1:bW ps x.id=none:=gu (fun p hp e2=>hi (h.own p hp x hx e2.symm));unfold aY;rw[h1];simp[Option.guard,hi]
 ·have h1:=hn x hx;unfold aY at h1;split at h1
  ·cases h1
  ·rename_i d hd
   split at h1
   ·rename_i hq
    obtain⟨p,hp,e1,e2⟩:=xK hd;exact⟨p,hp,e1,hq.trans e2.symm⟩
   ·cases h1
section
variable {ls:List LotV} {f:FactV} {ps:List Fr} {os:List OptV}
theorem SelIn.whole(h:SelIn ls f ps os)(n:Nat)(hq:valI f.qty=totQ ls f.ins):totQ (bP ls f n ps) f.ins=0:=by
 have:=(h.kept n (by omega)).1;omega
theorem SelIn.bare(h:SelIn ls f ps os)(n:Nat)(hq:valI f.qty=totQ ls f.ins):bP ls f n ps=aX ls f.ins:=by
 have l:=h.ls n;have e:=(tC l.all (h.pick n (by omega)).1 (h.whole n hq)).1;have e1:bP ls f n ps=aX (aC ls f.ins n) f.ins:=e;rw[←h.others n (by omega),e1];unfold aX;rw[List.filter_filter];congr 1
 funext x
 simp
theorem SelIn.gainOf(h:SelIn ls f ps os)(n:Nat)(hq:valI f.qty=totQ ls f.ins):∀x ∈ ofL (aC ls f.ins n) f.ins,∃g ∈ aP ls f n ps,g.lot=x.id∧g.q=x.q∧g.c=x.c:=by
 have l:=h.ls n;have hp:=(h.pick n (by omega)).1;intro x hx;obtain⟨p,hpm,e1,e2⟩:=(tC l.all hp (h.whole n hq)).2 x hx;obtain⟨k,hk,rfl⟩:=List.getElem_of_mem hpm;obtain⟨hk',y,hy,_,e3,e4⟩:=qg l.all hp hk;have:=nY (bj l.all) (bH hx).1 hy (e3.trans e1);subst this
 rw[if_pos e2]at e4;obtain⟨hk2,hpk,e5⟩:=pi (key:=f.key) (ins:=f.ins) (day:=f.day) (eC (fy f) (av ls f n ps)) hk'
 have e6:(aP ls f n ps)[k]'hk2=lL f.key f.ins f.day y ((dh (fy f) (av ls f n ps))[k]'hpk):=by
  rw[←e4];exact e5
 exact⟨(aP ls f n ps)[k]'hk2,List.getElem_mem hk2,by rw[e6];rfl,by rw[e6];rfl,by rw[e6];rfl⟩
end
theorem BJ(z:Int):(ofI z).isEmpty=decide (z=0):=by
 rw[Bool.eq_iff_iff];simp[List.isEmpty_iff,cP]
end
section
open Go.RowKit Go.Shelf
attribute [local go_sem] size_bs toList_bs
theorem cJ{P:Program}{ops:Array Oper}{rest:List Oper}{op:Oper}{a:Act}{w:World}{Q:Exit->Act->World->Prop}(hw:Region.wanted op (yielded ops a.tmps)=true)(ty:TypeId)(x:Operand)(ho:op.op = .load ty x)
  (b o:Nat) (hx:a.eval x = .pointer (some ⟨b,o,none⟩)) (cs:List Value) (d:TypeDesc) (hc:w.rangeAt b o cs)
  (hu:P.underlying ty=some d) (hd:d.isRow=true) (hi:(P.info? ty).map (·.size)=some cs.length) (v:Value) (hv:Value.agg cs.toArray=v)
  (h:wpList P ops Q rest (a.put op.dst v) w):wpList P ops Q (op :: rest) a w:=by
 subst hv;exact bX hw ty x ho b o hx cs d hc hu hd hi h
theorem Fl{W:World}{ls:List LotV}(h:aG W (some ⟨b,o,none⟩) ls)(hi:i<ls.length):W.cell? ⟨b,o+i*7,none⟩=some (.string (bs (ls[i]'hi).id)):=by
 obtain⟨b',o',e,_,c0,_⟩:=h.at_ hi;injection e with e
 injection e with e1 e2
 subst e1 e2;exact c0
end
end Go.Proofs.YtaegjkllenlfpaaGreatDoor
