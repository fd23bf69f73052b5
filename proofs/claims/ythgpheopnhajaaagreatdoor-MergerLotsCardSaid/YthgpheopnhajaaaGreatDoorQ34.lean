/- Part. -/
import Derived.Test.YthgpheopnhajaaaGreatDoorP33
set_option maxRecDepth 100000
set_option maxHeartbeats 8000000
namespace Go.Proofs.YthgpheopnhajaaaGreatDoor
section
open Go.RowKit Go.Shelf
theorem yo(q:Rat):0≤q-((bB q:Int):Rat)∧q-((bB q:Int):Rat)<1:=by
 have hm:=Aa q;have hd:(0:Int)<q.den:=by have:=q.den_pos;omega
 have hdR:(0:Rat)<((q.den:Int):Rat):=Rat.intCast_pos.2 hd
 have h1:(0:Rat)≤((q.num % (q.den:Int):Int):Rat):=by
  rw[←Rat.intCast_zero,Rat.intCast_le_intCast];exact Int.emod_nonneg _ (by omega)
 have h2:((q.num % (q.den:Int):Int):Rat)<((q.den:Int):Rat):=by
  rw[Rat.intCast_lt_intCast];exact Int.emod_lt_of_pos _ hd
 generalize ((q.num % (q.den:Int):Int):Rat)=re at *;generalize q-((bB q:Int):Rat)=x at *;generalize ((q.den:Int):Rat)=d at *;subst hm;refine⟨Rat.le_of_mul_le_mul_right (c:=d) (by grind) hdR,Rat.lt_of_mul_lt_mul_right (c:=d) (by grind) (by grind)⟩
theorem uq{o:OptV}{q:Bs}(h:dS o=0)(hq:aq q=0)(hn:¬ valI q<0) :
  ((valI (bt o q).1:Int):Rat)+aj (bt o q).2.1=((valI q:Int):Rat)*aj o.r∧0≤aj (bt o q).2.1∧aj (bt o q).2.1<1:=by
 obtain⟨g,e1,_,_,eb⟩:=kz h;obtain⟨c1,_,_,p1,k1⟩:=jx e1;unfold bt;by_cases hne:o.other=[]
 ·rw[if_pos hne];unfold bP at eb;rw[if_pos hne]at eb
  have hr:o.r=⟨[],[]⟩:=by
   cases hh:o.r with
   |mk n d =>
    rw[hh]at eb
    cases n <;> cases d <;> simp_all
  rw[hr,mn];refine⟨by simp[show valI []=0 by decide,Rat.add_zero],Rat.le_refl,by decide⟩
 ·rw[if_neg hne]
  have hz:aj o.r≠0:=by
   intro hz;rw[hz,ma]at k1;unfold bP at eb;rw[if_neg hne,←k1]at eb;exact absurd eb (by decide)
  have:¬ aj o.r≤0:=fun hle=>hz (Rat.le_antisymm hle p1)
  have e:dF q o.r=0:=by
   unfold dF;rw[if_neg (by omega),if_neg];rintro(a|a)
   ·exact hn a
   ·exact this a
  unfold cw;rw[if_pos e];unfold ky fW;rw[ag,fE];obtain⟨f1,f2⟩:=yo (dl q o.r);refine⟨?_,f1,f2⟩;show _=dl q o.r;generalize dl q o.r=x at *;generalize ((bB x:Int):Rat)=y at *;grind
end
section
open Go.RowKit Go.Shelf
theorem ru{x:Rat}(h:0≤x):0≤cj x:=by
 have k:=(ui x).1
 have h2:((-1:Int):Rat)<((cj x:Int):Rat):=by
  generalize ((cj x:Int):Rat)=y at *;have:((-1:Int):Rat) = -1:=rfl;rw[this];grind
 rw[Rat.intCast_lt_intCast]at h2;omega
theorem ur{o:OptV}{q:Bs}(h:dS o=0)(hq:aq q=0)(hn:¬ valI q<0):cD o.p q≤valI (da o q).2.1:=by
 obtain⟨_,f1,_⟩:=uq h hq hn;obtain⟨g,e1,e2,e3,eb⟩:=kz h;obtain⟨_,_,_,p1,_⟩:=jx e3;rw[th h hq hn];show cD o.p q≤valI (fy o q (bt o q).2.1);rw[xS,ag];have:=ru (Rat.mul_nonneg f1 p1);omega
end
section
open Go.RowKit Go.Shelf
theorem AM{c k v:Int}(hc:0≤c)(hk:0≤k)(hv:0≤v):0≤eB c k v∧eB c k v≤k∧0≤c+eB c k v-k∧c+eB c k v-k≤c:=by
 unfold eB;split <;> split <;> omega
end
section
open Go.RowKit
section
variable {N key other:Bs} {ls:List LotV} {ns ps ks:List Bs}
structure FsOK (key other:Bs) (ls:List LotV) (ns ks:List Bs) (k:Nat) (fs:List LotV) (ix:Nat→Nat):Prop where
 at_:∀j (h:j<fs.length),ix j<k∧∃(h1:ix j<ls.length) (h2:ix j<ns.length) (h3:ix j<ks.length),ns[ix j]'h2≠[]∧fs[j]'h=⟨fZ key (j+1),other,(ls[ix j]'h1).acq,(ls[ix j]'h1).opn,ns[ix j]'h2,ks[ix j]'h3,ns[ix j]'h2⟩
 mono:∀i j,i<j→j<fs.length→ix i<ix j
theorem FsOK.next{k:Nat}{fs:List LotV}{ix:Nat→Nat}(h:FsOK key other ls ns ks k fs ix):FsOK key other ls ns ks (k+1) fs ix :=
 ⟨fun j hj=>⟨by have:=(h.at_ j hj).1;omega,(h.at_ j hj).2⟩,h.mono⟩
theorem FsOK.more{k:Nat}{fs:List LotV}{ix:Nat→Nat}(h:FsOK key other ls ns ks k fs ix)(h1:k<ls.length)(h2:k<ns.length)(h3:k<ks.length)(hn:ns[k]'h2≠[]) :
  FsOK key other ls ns ks (k+1) (fs++[⟨fZ key (fs.length+1),other,(ls[k]'h1).acq,(ls[k]'h1).opn,ns[k]'h2,ks[k]'h3,ns[k]'h2⟩]) (fun j=>if j<fs.length then ix j else k):=by
 refine⟨fun j hj=>?_,fun i j hij hj=>?_⟩
 ·rw[List.length_append,List.length_singleton]at hj;by_cases hl:j<fs.length
  ·obtain⟨g0,g1,g2,g3,g4,g5⟩:=h.at_ j hl;simp only[if_pos hl];exact⟨by omega,g1,g2,g3,g4,by rw[List.getElem_append_left hl];exact g5⟩
  ·have e:j=fs.length:=by omega
   subst e;simp only[if_neg hl];exact⟨by omega,h1,h2,h3,hn,by rw[List.getElem_append_right (by omega)];simp⟩
 ·rw[List.length_append,List.length_singleton]at hj;by_cases hl:j<fs.length
  ·rw[if_pos hl,if_pos (by omega)];exact h.mono i j hij hl
  ·rw[if_neg hl,if_pos (by omega)];exact(h.at_ i (by omega)).1
theorem tG:∀k,∃ix,FsOK key other ls ns ks k (bM N key other ls ns ps ks k).fs ix
 |0=>⟨fun j=>j,fun j hj=>absurd hj (by simp[bM]),fun i j _ hj=>absurd hj (by simp[bM])⟩
 |k+1=>by
  obtain⟨ix,h⟩:=tG k;rw[bM];split
  ·rename_i x n p b e1 e2 e3 e4
   obtain⟨g1,rfl⟩:=List.getElem?_eq_some_iff.1 e1;obtain⟨g2,rfl⟩:=List.getElem?_eq_some_iff.1 e2;obtain⟨g4,rfl⟩:=List.getElem?_eq_some_iff.1 e4;by_cases hN:N=[]
   ·subst hN;rw[gA _ _ _ _ _ _ _ rfl];exact⟨ix,h.next⟩
   ·rw[dm hN _ _ _ _ _ _ _ rfl];by_cases hn:ns[k]'g2=[]
    ·refine⟨ix,?_⟩;have e:io key other (bM N key other ls ns ps ks k) (ls[k]'g1) (ns[k]'g2) (ks[k]'g4)=(bM N key other ls ns ps ks k).fs:=by unfold io js;rw[if_pos hn,List.append_nil]
     dsimp only;rw[e];exact h.next
    ·have e:io key other (bM N key other ls ns ps ks k) (ls[k]'g1) (ns[k]'g2) (ks[k]'g4)=(bM N key other ls ns ps ks k).fs++[⟨fZ key ((bM N key other ls ns ps ks k).fs.length+1),other,(ls[k]'g1).acq,(ls[k]'g1).opn,ns[k]'g2,ks[k]'g4,ns[k]'g2⟩]:=by unfold io js fL;rw[if_neg hn,if_neg hn]
     dsimp only;rw[e];exact⟨_,h.more g1 g2 g4 hn⟩
  ·exact⟨ix,h.next⟩
theorem qr(hN:N=[]):∀k,(bM N key other ls ns ps ks k).fs=[]∧(bM N key other ls ns ps ks k).ex=0
 |0=>⟨rfl,rfl⟩
 |k+1=>by
  have h:=qr hN k;rw[bM];split
  ·subst hN;rw[gA _ _ _ _ _ _ _ rfl];exact h
  ·exact h
theorem yp(hk:∀b ∈ ks,0≤valI b):∀k,0≤(bM N key other ls ns ps ks k).ex
 |0=>Int.le_refl _
 |k+1=>by
  have h:=yp hk k;rw[bM];split
  ·rename_i x n p b e1 e2 e3 e4
   have hb:=hk _ (List.mem_of_getElem? e4);by_cases hN:N=[]
   ·subst hN;rw[gA _ _ _ _ _ _ _ rfl];exact h
   ·rw[dm hN _ _ _ _ _ _ _ rfl];show 0≤jO _ _ _;unfold jO;split <;> omega
  ·exact h
end
theorem pA:∀ {key:Bs} (t:Bs),key.all ke=true→bF (key++47 :: t)=(key,t)
 |[],t,_=>by simp[bF]
 |c :: r,t,h=>by
  rw[List.all_cons,Bool.and_eq_true]at h;have hc:c≠47:=by rintro rfl;exact absurd h.1 (by decide)
  rw[List.cons_append,bF,if_neg hc,pA t h.2]
theorem jm{n:Nat}(h:1≤n):Lib.itoa (n:Int)=dig10 n:=by
 unfold Lib.itoa;rw[if_neg (by omega),Int.toNat_natCast,fN n h]
theorem AN{key:Bs}(hk:ax key=true){n:Nat}(h1:1≤n)(h2:n≤9999):eA (fZ key n)=true:=by
 have ha:key.all ke=true:=by
  unfold ax at hk;rw[Bool.and_eq_true]at hk;exact hk.2
 unfold eA fZ;rw[pA _ ha,Bool.and_eq_true];exact⟨hk,mF.2 ⟨n,h1,h2,jm h1⟩⟩
theorem uV{key:Bs}{n m:Nat}(hn:1≤n)(hm:1≤m)(h:fZ key n=fZ key m):n=m:=by
 unfold fZ at h;have h2:=List.append_cancel_left h;injection h2 with _ h3
 rw[jm hn,jm hm]at h3;rw[←dY n,←dY m,h3]
theorem CR{key:Bs}{n:Nat}(h1:1≤n)(h2:n≤9999):(fZ key n).length≤key.length+5:=by
 unfold fZ;rw[jm h1,List.length_append,List.length_cons];have:=eY (g:=n) (L:=4) (by omega);omega
theorem jB:∀(fs L:List LotV) {x:LotV},x ∈ aG L fs→x ∈ L∨x ∈ fs
 |[],L,x,h => .inl h
 |f :: r,L,x,h=>by
  rcases jB r _ (show x ∈ aG (bO L (eW L f.ins L.length) f) r from h) with h|h
  ·rcases rj h with h|rfl
   ·exact .inl h
   ·exact .inr (by simp)
  ·exact .inr (by simp[h])
theorem mX:∀(fs L:List LotV),(aG L fs).length=L.length+fs.length
 |[],L=>rfl
 |f :: r,L=>by
  have h:=mX r (bO L (eW L f.ins L.length) f);rw[kQ (ny _ _ _)]at h;rw[List.length_cons];exact h.trans (by omega)
theorem mY{ls:List LotV}{id:Bs}:(cr ls id).isSome=false↔∀x ∈ ls,x.id≠id:=by
 rw[←Bool.not_eq_true,lO,List.mem_map];exact⟨fun h x hx e=>h ⟨x,hx,e⟩,fun h ⟨x,hx,e⟩=>h x hx e⟩
structure FrOK (L fs:List LotV):Prop where
 all:aw L=0
 sm:∀x ∈ L,bv x
 len:L.length+fs.length≤1000
 fsm:∀x ∈ fs,bv x
 chk:∀x ∈ fs,bU x=0
 new:∀x ∈ fs,∀y ∈ L,y.id≠x.id
 dis:∀i j (hi:i<fs.length) (hj:j<fs.length),(fs[i]'hi).id=(fs[j]'hj).id→i=j
theorem FrOK.at_{L fs:List LotV}(h:FrOK L fs):∀k,k≤fs.length→aw (aG L (fs.take k))=0∧∀(hk:k<fs.length),OpOK (aG L (fs.take k)) (fs[k]'hk):=by
 have key:∀k,k≤fs.length→aw (aG L (fs.take k))=0→∀(hk:k<fs.length),OpOK (aG L (fs.take k)) (fs[k]'hk):=by
  intro k _ hc hk;refine⟨fun y hy=>?_,?_,hc,h.fsm _ (List.getElem_mem hk),h.chk _ (List.getElem_mem hk),mY.2 fun y hy=>?_⟩
  ·rcases jB _ _ hy with g|g
   ·exact h.sm y g
   ·exact h.fsm y (List.mem_of_mem_take g)
  ·rw[mX,List.length_take];have:=h.len;omega
  ·rcases jB _ _ hy with g|g
   ·exact h.new _ (List.getElem_mem hk) y g
   ·obtain⟨i,hi,rfl⟩:=List.getElem_of_mem g;rw[List.length_take]at hi;rw[List.getElem_take];intro e;have:=h.dis i k (by omega) hk e;omega
 intro k;induction k with
 |zero=>intro hk;exact⟨by rw[List.take_zero];exact h.all,key 0 hk (by rw[List.take_zero];exact h.all)⟩
 |succ k ih =>
  intro hk;obtain⟨h1,h2⟩:=ih (by omega);have h3:=h2 (by omega)
  have hc:aw (aG L (fs.take (k+1)))=0:=by
   rw[pz L (by omega:k<fs.length)];exact up (ny _ _ _) h3.all h3.cx h3.nf h3.ln
  exact⟨hc,key (k+1) hk hc⟩
theorem FrOK.done{L fs:List LotV}(h:FrOK L fs):aw (aG L fs)=0:=by
 have:=(h.at_ fs.length (Nat.le_refl _)).1;rwa[List.take_length]at this
end
section
open Go.RowKit
attribute [local go_sem] size_bs toList_bs
theorem aO{P:Program}{ops:Array Oper}{rest:List Oper}{op:Oper}{a:Act}{w:World}{Q:Exit→Act→World→Prop}(hw:Region.wanted op (yielded ops a.tmps)=true)(ty:TypeId)(x:Operand)(ho:op.op = .load ty x)
  (b o:Nat) (hx:a.eval x = .pointer (some ⟨b,o,none⟩)) (cs:List Value) (d:TypeDesc) (hc:w.rangeAt b o cs)
  (hu:P.underlying ty=some d) (hd:d.isRow=true) (hi:(P.info? ty).map (·.size)=some cs.length)
  (h:wpList P ops Q rest (a.put op.dst (.agg cs.toArray)) w):wpList P ops Q (op :: rest) a w :=
 wpList_step fun _ hK=>by
  rw[if_pos hw];exact wp_load_mid ty x ho b o hx cs d hc hu hd hi (hK _ _ h)
def EK(ls:List LotV)(f:FactV)(ps:List Fr)(os:List OptV)(w:World)(e:Ending)(w':World):Prop:=(∃b,e = .returned (.bool b)∧(b=false→bZ ls=false∧GreatNo f ps os))∧Ext w w'
theorem qu(ls:List LotV)(A:Option Addr)(c:Nat)(f:FactV)(ps:List Fr)(os:List OptV)(pa oa:Option Addr)(pc oq:Nat)(w:World)(hA:bp w A ls)(hP:iM w pa ps)(hO:k9 w oa os)(hn:ps.length≤4611686018427387904)(hm:os.length≤4611686018427387904)(hl:ls.length≤4611686018427387904) :
  Calls Tryz.prog 12 #[.slice A ls.length c,aB f (ac pa ps.length pc) (ac oa os.length oq)] w (EK ls f ps os w):=by
 have HB:=qh (Blk.new w 30 (af f (ac pa ps.length pc) (ac oa os.length oq)));have HX:Hid (Ext w (w.alloc (.cells (af f (ac pa ps.length pc) (ac oa os.length oq)) 30))):=qh (Ext.new _ _);have RG:=qh (zA ls A c _ (hA.ext HX.out) (by omega));have FG:=qh (fun W (hx:Ext w W)=>CQ f ps os pa oa pc oq W (hP.ext hx) (hO.ext hx) hn hm);have hs1:(Tryz.prog.info? 30).map (·.size)=some (af f (ac pa ps.length pc) (ac oa os.length oq)).toList.length:=by kernel_rfl
 have HGA:=qh (fun h:bZ ls=false=>h);generalize hga:bZ ls=ga at *;have HG0:=qh hga;clear hga HGA;clear hA hP hO;go_enter Tryz.func12,Tryz.ntmps12;go_wp2_with fail;refine RG.out.mono ?_;rintro e v1⟨rfl,hx1⟩;replace HX:=HX.qt hx1;replace HB:=qh (HB.out.ext hx1);clear hx1 RG;have hrg:=aA HB.out
 cases ga
 ·go_wp2_with (first|refine aO (by kernel_rfl) 30 _ rfl w.heap.size 0 rfl _ _ hrg Tryz.underlying30 rfl hs1 ?_|fail);refine(FG.out _ HX.out).mono ?_;rintro e v2⟨⟨b,rfl,hb⟩,hx1⟩;replace HX:=HX.qt hx1;have hb2:=qh (fun h=>And.intro HG0.out (hb h));clear hx1 hb hrg
  cases b
  ·go_wp2_with fail;go_ret;exact⟨⟨false,rfl,fun _=>hb2.out (by trivial)⟩,HX.out⟩
  ·go_wp2_with fail;go_ret;exact⟨⟨true,rfl,fun h=>by cases h⟩,HX.out⟩
 ·clear hrg;go_wp2_with fail;go_ret;exact⟨⟨true,rfl,fun h=>by cases h⟩,HX.out⟩
end
section
open Go.RowKit
theorem mA{fn:Nat→Int}:∀ {n:Nat},ej fn n=0→∀k,k<n→fn k=0
 |0,_,k,hk=>absurd hk (by omega)
 |n+1,h,k,hk=>by
  unfold ej at h;split at h
  ·rename_i g;exact absurd h g
  ·rename_i g
   have g:ej fn n=0:=Decidable.not_not.1 g;by_cases e:k=n
   ·subst e;exact h
   ·exact mA g k (by omega)
theorem oO{f:Fr}(h:ce f false=0):bR f=0:=by
 have t:=DK f false;rw[h]at t
 have e1:aK f=0:=by
  by_cases a:aK f=0
  ·exact a
  ·exact absurd (t.c a) (by decide)
 have e2:¬ (40<be f.num∨40<be f.den):=fun a=>absurd (t.d e1 a) (by decide)
 have e3:¬ bN (aj f) 0<0:=fun a=>absurd (t.s e1 (by omega) (by omega) (.inl a)) (by decide)
 exact(zF f).k e1 (by omega) (by omega) e3
theorem CS{ins:Bs}{o:OptV}(h:iP ins o=0):dS o=0∧o.other≠ins:=by
 have t:=Bx ins o;rw[h]at t
 have g:o.other=[]∨ax o.other=true:=by
  by_cases a:o.other=[]
  ·exact .inl a
  ·cases b:ax o.other
   ·exact absurd (t.n a b) (by decide)
   ·exact .inr rfl
 have g2:o.other≠ins:=fun a=>absurd (t.q g a) (by decide)
 have l:=t.l g g2
 have e1:ce o.r false=0:=by
  by_cases a:ce o.r false=0
  ·exact a
  ·exact(l.1 a).symm
 have e2:ce o.p false=0:=by
  by_cases a:ce o.p false=0
  ·exact a
  ·exact(l.2.1 e1 a).symm
 have e3:ce o.v false=0:=by
  by_cases a:ce o.v false=0
  ·exact a
  ·exact(l.2.2.1 e1 e2 a).symm
 have e4:bP o=false:=by
  cases b:bP o
  ·rfl
  ·exact absurd ((l.2.2.2 e1 e2 e3).1 b) (by decide)
 exact⟨(mQ o).k g (oO e1) (oO e2) (oO e3) e4,g2⟩
theorem uW{f:FactV}{ps:List Fr}{os:List OptV}(h:cP f ps os=0)(hk:f.kind=10):ax f.key=true ∧ -25567≤f.day∧f.day≤84005∧iR f.ins os=0:=by
 have e:∃sp,eV 10=some sp∧sp.bits.getD 11 false=true:=⟨_,rfl,rfl⟩;obtain⟨sp,e1,e2⟩:=e;unfold cP at h;rw[hk,e1]at h;split at h
 ·exact absurd h (by decide)
 rename_i g1
 split at h
 ·exact absurd h (by decide)
 split at h
 ·split at h
  ·rename_i g
   exact absurd g (by simp[bj])
  ·exact absurd h (by decide)
 split at h
 ·exact absurd h (by decide)
 rename_i g2
 have g3:=mA h 11 (by decide);unfold fY at g3;rw[if_pos e2]at g3;exact⟨by simpa using g1,by omega,by omega,g3⟩
theorem uX{ins:Bs}{os:List OptV}(h:iR ins os=0){k:Nat}(hk:k<os.length):dS (os[k]'hk)=0∧(os[k]'hk).other≠ins:=by
 unfold iR at h;rw[if_neg (by omega)]at h;split at h
 ·exact absurd h (by decide)
 have g:=mA h k hk;unfold iQ at g;rw[List.getElem?_eq_getElem hk]at g;exact CS g
theorem kH{wt:LotV→Bs}{t:Bs}{ls:List LotV}(h0:0≤valI t)(hW:t≠[]→WtOK (ls.map wt)){L:Nat}(ht:t.length≤L)(hs:∀x ∈ ls,(wt x).length≤L):∀b ∈ aI wt t ls,b.length≤L+L+2∧aq b=0∧0≤valI b:=by
 intro b hb;unfold aI at hb;split at hb
 ·rw[List.mem_replicate]at hb;rw[hb.2];exact⟨by simp,by decide,by decide⟩
 ·rename_i hne
  unfold fK dh at hb;rw[if_neg (by omega)]at hb;obtain⟨v,hv,rfl⟩:=List.mem_map.1 hb;have hw:=hW hne;refine⟨?_,dR v,?_⟩
  ·rw[List.map_map]at hv
   have:=qR (L:=L) (t:=t) (ls:=ls.map wt) ht (by
    intro x hx;obtain⟨y,hy,rfl⟩:=List.mem_map.1 hx;exact hs y hy) h0 hw v (by rw[List.map_map];exact hv)
   exact this
  ·rw[ag];refine rJ h0 ?_ hw.sum v hv;intro x hx;obtain⟨y,hy,rfl⟩:=List.mem_map.1 hx;exact hw.nn y hy
theorem lC(ls:List LotV)(ins:Bs):(ap ls ins).length+(bd ls ins).length=ls.length:=by
 unfold ap bd;induction ls with
 |nil=>rfl
 |cons x r ih =>
  rw[List.filter_cons,List.filter_cons,List.length_cons,←ih];by_cases e:x.ins=ins
  ·simp[e];omega
  ·simp[e];omega
theorem uY{ls:List LotV}{ins:Bs}(h:aw ls=0):aw (bd ls ins)=0:=by
 have h1:=di h;have h3:=mV h;have hl:=lC ls ins;unfold aw;rw[if_neg (by omega)];refine my _ _ (fun y hy=>h1.2 y (List.mem_filter.1 hy).1) ?_ (fun _ _=>List.not_mem_nil);exact List.Nodup.sublist (List.Sublist.map _ List.filter_sublist) h3
theorem us{x:LotV}(h:bU x=0):dg x.acq=true∧dg x.opn=true∧¬ x.opn<x.acq:=by
 unfold bU at h;split at h
 ·exact absurd h (by decide)
 split at h
 ·exact absurd h (by decide)
 rename_i g
 split at h
 ·exact absurd h (by decide)
 rename_i g2
 refine⟨?_,?_,g2⟩
 ·cases e:dg x.acq
  ·exact absurd (by rw[e];rfl) g
  ·rfl
 ·cases e:dg x.opn
  ·exact absurd (by rw[e];simp) g
  ·rfl
theorem ut{id ins q c:Bs}{acq opn:Int}(h1:eA id=true)(h2:ax ins=true)(d1:dg acq=true)(d2:dg opn=true)(d3:¬ opn<acq)(q0:aq q=0)(c0:aq c=0)(qp:0<valI q)(cn:0≤valI c):bU ⟨id,ins,acq,opn,q,c,q⟩=0:=by
 unfold bU;dsimp only;rw[h1,h2,d1,d2,if_neg (by decide),if_neg (by decide),if_neg d3,if_neg (by rintro(h|h|h) <;> contradiction),if_neg (by rintro(h|h | ⟨_,h⟩) <;> first|omega|exact h rfl)]
theorem pB{n:Bs}(h1:aq n=0)(h2:0≤valI n)(h3:n≠[]):0<valI n:=by
 rcases Int.lt_or_eq_of_le h2 with h|h
 ·exact h
 ·exfalso
  apply h3;have e:=eE.1 h1;rw[←h]at e;rw[←e];exact dr.2 rfl
section
variable {N key other:Bs} {ls:List LotV} {ns ps ks:List Bs}
theorem uZ{M:Int}(hM:0≤M)(hk:∀b ∈ ks,valI b≤M):∀k:Nat,(bM N key other ls ns ps ks k).ex≤k*M
 |0=>by simp[bM]
 |k+1=>by
  have h:=uZ hM hk k;have e:((k+1:Nat):Int)*M=k*M+M:=by rw[Int.natCast_add,Int.add_mul];simp
  rw[bM,e];split
  ·rename_i x n p b e1 e2 e3 e4
   have hb:=hk _ (List.mem_of_getElem? e4);by_cases hN:N=[]
   ·subst hN;rw[gA _ _ _ _ _ _ _ rfl];dsimp only;omega
   ·rw[dm hN _ _ _ _ _ _ _ rfl];show jO _ _ _≤_;unfold jO;split <;> omega
  ·omega
end
structure TermsNum (o:OptV) (q N cash:Bs) (fr:Fr):Prop where
 eq:da o q=(N,cash,fr,0)
 n0:aq N=0
 nn:0≤valI N
 nl:N.length≤50
 c0:aq cash=0
 cn:0≤valI cash
 cl:cash.length≤300
 nm:N≠[]→ax o.other=true
theorem yr{q:Rat}(h:0≤q):0≤bB q:=by
 unfold bB;exact Int.ediv_nonneg (Rat.num_nonneg.2 h) (by omega)
theorem pC{p:Fr}{q:Bs}(hp:0≤aj p)(hq:0≤valI q):0≤cD p q:=ru (Rat.mul_nonneg hp (Rat.intCast_nonneg.2 hq))
theorem yt{o:OptV}{q:Bs}(ho:dS o=0)(hs:eP 24 o)(hq:aq q=0)(hn:0≤valI q)(hl:q.length≤24):∃N cash fr,TermsNum o q N cash fr:=by
 have ht:=th ho hq (by omega);have hv:=ur ho hq (by omega);obtain⟨g,e1,e2,e3,e4⟩:=kz ho;obtain⟨s0,s1,s2,s3,s4,s5,s6⟩:=hs;obtain⟨_,_,_,r0,_⟩:=jx e1;obtain⟨_,_,_,p0,_⟩:=jx e2;have hvn:=pC p0 hn
 have hR:(bt o q).2.1.num.length≤98∧(bt o q).2.1.den.length≤98:=by
  unfold bt;split
  ·exact⟨by simp,by simp⟩
  ·have:=tf (L:=24) (by decide) hl s1 s2;exact⟨by omega,by omega⟩
 have hN:aq (bt o q).1=0∧0≤valI (bt o q).1∧(bt o q).1.length≤50∧((bt o q).1≠[]→ax o.other=true):=by
  unfold bt;split
  ·exact⟨by decide,by decide,by simp,fun h=>absurd rfl h⟩
  ·rename_i ho2
   have hnm:ax o.other=true:=by
    rcases g with g|g
    ·exact absurd g ho2
    ·exact g
   unfold cw;split
   ·have pp:0≤dl q o.r:=Rat.mul_nonneg (Rat.intCast_nonneg.2 hn) r0;have qp:QB (24+24) (dl q o.r):=(lH (by decide) (aF hl)).mul (fm s1 s2 (by decide));have:=uS qp;refine⟨dR _,?_,?_,fun _=>hnm⟩
    ·show 0≤valI (ofI _);rw[ag];exact yr pp
    ·show(ofI _).length≤_;omega
   ·exact⟨(by decide:aq []=0),(by decide:0≤valI []),by simp,fun h=>absurd rfl h⟩
 have k1:(ofI (cD o.p q)).length≤24+24+2:=ie (kx (by decide) s3 s4 hl);have qm:=(fm hR.1 hR.2 (by decide)).mul (fm s5 s6 (by decide));have m1:=qm.num_len;have m2:=qm.den_len;have qw:=kx (L:=98+24+1) (by omega) m1 m2 (q:=[49]) (by simp);have k2:(ofI (cD (bz (aj (bt o q).2.1*aj o.v)) [49])).length≤(98+24+1)+(98+24+1)+2:=ie qw;have k3:=j8 (x:=ofI (cD o.p q)) (y:=ofI (cD (bz (aj (bt o q).2.1*aj o.v)) [49])) (L:=248) (by omega) (by omega);rw[ag,ag]at k3;rw[ht]at hv;refine⟨_,_,_,ht,hN.1,hN.2.1,hN.2.2.1,dR _,by dsimp only at hv;omega,?_,hN.2.2.2⟩;show(ofI _).length≤_;omega
theorem tH{ls:List LotV}{ins:Bs}(hG:bZ ls=false):(ofI (aJ ls ins)).length≤20:=by
 have h:=d7 hG;unfold aJ;refine oy (·.q) 13 _ (fun x hx=>(fc (h.2 x (f7 hx).1)).1) ?_;have:=List.length_filter_le (fun x:LotV=>decide (x.ins=ins)) ls;unfold ap;omega
theorem tI{ls:List LotV}{ins:Bs}(hG:bZ ls=false):(ofI (au ls ins)).length≤20:=by
 have h:=d7 hG;unfold au;refine oy (·.c) 13 _ (fun x hx=>(fc (h.2 x (f7 hx).1)).2.1) ?_;have:=List.length_filter_le (fun x:LotV=>decide (x.ins=ins)) ls;unfold ap;omega
theorem EL{ls:List LotV}{ins:Bs}(hs:∀x ∈ ls,bv x)(h:aw ls=0)(hl:0<(ap ls ins).length)(hc:0<au ls ins):WtOK ((ap ls ins).map (·.c)):=by
 obtain⟨h1,h2⟩:=di h
 have hm:∀x ∈ (ap ls ins).map (·.c),∃y ∈ ls,y.c=x:=by
  intro x hx;obtain⟨y,hy,rfl⟩:=List.mem_map.1 hx;exact⟨y,(List.mem_filter.1 hy).1,rfl⟩
 have hle:(ap ls ins).length≤ls.length:=List.length_filter_le _ _;refine⟨by rw[List.length_map];exact hl,by rw[List.length_map];omega,?_,?_,?_,?_⟩
 ·intro x hx;obtain⟨y,hy,rfl⟩:=hm x hx;have:=(hs y hy).2.2.2.1;omega
 ·intro x hx;obtain⟨y,hy,rfl⟩:=hm x hx;exact(fb (h2 y hy)).2.1
 ·intro x hx;obtain⟨y,hy,rfl⟩:=hm x hx;exact(fb (h2 y hy)).2.2.2.1
 ·unfold aR;rw[List.map_map];exact hc
theorem rx{o:OptV}{cs N cash:Bs}(c0:0≤valI cs)(cl:cs.length≤20)(k0:0≤valI cash)(v0:0≤cD o.v N):aq (aM o cs N cash)=0∧0≤valI (aM o cs N cash)∧valI (aM o cs N cash)≤valI cs∧(aM o cs N cash).length≤21:=by
 unfold aM;split
 ·exact⟨by decide,by decide,by rw[show valI []=0 from by decide];exact c0,by simp⟩
 ·have h:=AM c0 k0 (v:=valI (ofI (cD o.v N))) (by rw[ag];exact v0);refine⟨dR _,by rw[ag];exact h.2.2.1,by rw[ag];exact h.2.2.2,?_⟩;exact kO (l:=cs) (by omega) cl
structure FreshOK (key other:Bs) (olds:List LotV) (ns ks:List Bs) (st:ApSt):Prop where
 le:st.fs.length≤olds.length
 cl:∀x ∈ st.fs,x.c.length≤50
 at_:∀j (h:j<(ay st).length),bv ((ay st)[j]'h)∧bU ((ay st)[j]'h)=0∧((ay st)[j]'h).id=fZ key (j+1)∧∃h':j<st.fs.length,(st.fs[j]'h').id=fZ key (j+1)
theorem tJ{N key other:Bs}{olds:List LotV}{ns ps ks:List Bs}(hk:ax key=true)(hkl:key.length≤24)(ho:N≠[]→ax other=true)(hol:other.length≤24)(hn:olds.length≤1000)
  (hold:∀x ∈ olds,bU x=0) (hns:∀b ∈ ns,b.length≤102∧aq b=0∧0≤valI b) (hks:∀b ∈ ks,b.length≤50∧aq b=0∧0≤valI b) :
  FreshOK key other olds ns ks (bM N key other olds ns ps ks olds.length):=by
 have hl:=gw (N:=N) (key:=key) (other:=other) (ls:=olds) (ns:=ns) (ps:=ps) (L:=50) (ks:=ks) (fun b hb=>(hks b hb).1) olds.length;have x0:=yp (N:=N) (key:=key) (other:=other) (ls:=olds) (ns:=ns) (ps:=ps) (ks:=ks) (fun b hb=>(hks b hb).2.2) olds.length;have x1:=uZ (N:=N) (key:=key) (other:=other) (ls:=olds) (ns:=ns) (ps:=ps) (ks:=ks) (M:=((10 ^ 50:Nat):Int)) (by omega) (fun b hb=>by have:=aF (hks b hb).1;omega) olds.length;obtain⟨ix,hfs⟩:=tG (N:=N) (key:=key) (other:=other) (ls:=olds) (ns:=ns) (ps:=ps) (ks:=ks) olds.length;by_cases hN:N=[]
 ·have h0:=(qr (N:=N) (key:=key) (other:=other) (ls:=olds) (ns:=ns) (ps:=ps) (ks:=ks) hN olds.length).1;refine⟨hl.lf,(by rw[h0];intro x hx;cases hx),fun j h=>?_⟩;rw[gB,h0]at h;exact absurd h (by simp)
 have ho:=ho hN;generalize bM N key other olds ns ps ks olds.length=st at *;have x2:st.ex≤1000*((10 ^ 50:Nat):Int):=Int.le_trans x1 (Int.mul_le_mul_of_nonneg_right (by omega) (by omega));refine⟨hl.lf,fun x hx=>?_,fun j h=>?_⟩
 ·obtain⟨j,hj,rfl⟩:=List.getElem_of_mem hx;obtain⟨g0,g1,g2,g3,g4,g5⟩:=hfs.at_ j hj;rw[g5];exact(hks _ (List.getElem_mem g3)).1
 ·have hj:j<st.fs.length:=by rwa[gB]at h
  obtain⟨g0,g1,g2,g3,g4,g5⟩:=hfs.at_ j hj;have hg:=py st j hj;rw[g5]at hg;dsimp only at hg;have old:=hold _ (List.getElem_mem g1);have nn:=hns _ (List.getElem_mem g2);have kk:=hks _ (List.getElem_mem g3);have hj2:j+1≤1000:=by have:=hl.lf;omega
  obtain⟨d1,d2,d3⟩:=us old;have hid:=AN hk (n:=j+1) (by omega) (by omega);have hil:=CR (key:=key) (n:=j+1) (by omega) (by omega);have np:=pB nn.2.1 nn.2.2 g4
  have key2:∀c:Bs,c.length≤1000→aq c=0→0≤valI c→bv ⟨fZ key (j+1),other,(olds[ix j]'g1).acq,(olds[ix j]'g1).opn,ns[ix j]'g2,c,ns[ix j]'g2⟩∧bU ⟨fZ key (j+1),other,(olds[ix j]'g1).acq,(olds[ix j]'g1).opn,ns[ix j]'g2,c,ns[ix j]'g2⟩=0:=by
   intro c c1 c2 c3;exact⟨⟨by show(fZ _ _).length≤_;omega,by show other.length≤_;omega,by show(ns[ix j]'g2).length≤_;omega,c1,by show(ns[ix j]'g2).length≤_;omega⟩,ut hid ho d1 d2 d3 nn.2.1 c2 np c3⟩
  by_cases h0:j=0
  ·rw[if_pos h0]at hg;rw[hg]
   have hle:(ofI (valI (ks[ix j]'g3)+st.ex)).length≤55:=bu (L:=54) (by
    have h1:=aF kk.1;have e:(10:Nat) ^ 54=10 ^ 50*10 ^ 4:=by rw[←Nat.pow_add]
    rw[e];generalize (10:Nat) ^ 50=P at *;omega)
   have h3:=key2 (ofI (valI (ks[ix j]'g3)+st.ex)) (by omega) (dR _) (by rw[ag];omega);exact⟨h3.1,h3.2,rfl,hj,by rw[g5]⟩
  ·rw[if_neg h0]at hg;rw[hg];have h3:=key2 (ks[ix j]'g3) (by omega) kk.2.1 kk.2.2;exact⟨h3.1,h3.2,rfl,hj,by rw[g5]⟩
theorem wA{w:World}{ls:List LotV}{A:Option Addr}{c:Nat}{f:FactV}{ps:List Fr}{os:List OptV}{pa oa:Option Addr}{pc oq ch:Nat}
  (hG:bZ ls=false) (hN:GreatNo f ps os) (hA:bp w A ls) (hF:FactAt w f ps os pa oa pc) (hall:aw ls=0) (hfe:cP f ps os=0) (hkd:f.kind=10) (hch:ch<os.length) (hold:ap ls f.ins≠[]) :
  ∃N cash fr,TermsNum (os[ch]'hch) (ofI (aJ ls f.ins)) N cash fr∧ApIn w ls A c f ps os pa oa pc oq ch (os[ch]'hch) N cash (ofI (au ls f.ins)) fr:=by
 obtain⟨k1,k2,k3,k4⟩:=uW hfe hkd;obtain⟨oe,one⟩:=uX k4 hch;have hos:=hN.os _ (List.getElem_mem hch);have hsm:=jt hG;have hck:=di hall;have hq:=nS (ins:=f.ins) hall;have hc:=nR (ins:=f.ins) hall;have hl0:0<(ap ls f.ins).length:=List.length_pos_iff.2 hold;have hle:(ap ls f.ins).length≤ls.length:=List.length_filter_le _ _;have hql:=tH (ls:=ls) (ins:=f.ins) hG;have hcl:=tI (ls:=ls) (ins:=f.ins) hG;have hat:∃h:ch<os.length,os[ch]'h=os[ch]'hch:=⟨hch,rfl⟩;generalize os[ch]'hch=o at *;obtain⟨N,cash,fr,T⟩:=yt oe hos (dR _) (by rw[ag];exact hq) (by omega);obtain⟨_,e1,e2,e3,e4⟩:=kz oe;have hos2:=hos;obtain⟨s0,s1,s2,s3,s4,s5,s6⟩:=hos;have v0:0≤cD o.v N:=pC (jx e3).2.2.2.1 T.nn;have vl:(ofI (cD o.v N)).length≤50+50+2:=ie (kx (L:=50) (by decide) (by omega) (by omega) T.nl);obtain⟨b0,b1,b2,b3⟩:=rx (o:=o) (cs:=ofI (au ls f.ins)) (N:=N) (cash:=cash) (by rw[ag];exact hc) hcl T.cn v0;rw[ag]at b2;have hmem:∀x ∈ ap ls f.ins,x ∈ ls:=fun x hx=>(f7 hx).1
 have hg:=d7 hG;have hqs:∀x ∈ ap ls f.ins,x.q.length≤50:=fun x hx=>by have:=(fc (hg.2 x (hmem x hx))).1;omega
 have hcs:∀x ∈ ap ls f.ins,x.c.length≤24:=fun x hx=>by have:=(fc (hg.2 x (hmem x hx))).2.1;omega
 have wq:WtOK ((ap ls f.ins).map (·.q)):=Bk f.ins hsm hall hl0;have wc:aM o (ofI (au ls f.ins)) N cash≠[]→WtOK ((ap ls f.ins).map (·.c)):=fun h=>EL hsm hall hl0 (by have:=pB b0 b1 h;omega)
 have dn:=kH (wt:=(·.q)) (ls:=ap ls f.ins) T.nn (fun _=>wq) (L:=50) T.nl hqs;have dk:=kH (wt:=(·.c)) (ls:=ap ls f.ins) b1 wc (L:=24) (by omega) hcs
 have F:=tJ (N:=N) (key:=f.key) (other:=aN o f.ins N) (olds:=ap ls f.ins) (ns:=aI (·.q) N (ap ls f.ins)) (ps:=aI (·.q) cash (ap ls f.ins)) (ks:=aI (·.c) (aM o (ofI (au ls f.ins)) N cash) (ap ls f.ins)) k1 hN.key
  (fun h=>by unfold aN;rw[if_neg h];exact T.nm h) (by unfold aN;split;exact hN.ins;exact s0) (by omega) (fun x hx=>hck.2 x (hmem x hx)) (fun b hb=>by have:=dn b hb;exact⟨by omega,this.2⟩) (fun b hb=>by have:=dk b hb;exact⟨by omega,this.2⟩)
 refine⟨N,cash,fr,T,?_⟩
 exact {
  la:=hA,lsm:=hsm,ln:=hck.1,all:=hall,fa:=hF,fe:=hfe,kd:=hkd,at_:=hat,old:=hold,cst:=rfl,tv:=T.eq
  osm:=⟨by omega,by omega,by omega,by omega,by omega,by omega,by omega⟩
  lq:=by omega,lc:=by omega,lN:=by have:=T.nl;omega,lcash:=by have:=T.cl;omega,lval:=by omega,cc:=T.c0,cn:=T.cn
  kS:=fun b hb=>by have:=(dk b hb).1;omega
  kN:=⟨by have:=T.nl;omega,T.n0,fun _=>wq⟩
  kC:=⟨by have:=T.cl;omega,T.c0,fun _=>wq⟩
  kB:=⟨by omega,b0,wc⟩
  fsm:=fun x hx=>by have:=F.cl x hx;omega
  opn:=fun hnf k hk=>by
   have hlen:(ay (dx N f.key (aN o f.ins N) (ap ls f.ins) cash (aM o (ofI (au ls f.ins)) N cash))).length=(dx N f.key (aN o f.ins N) (ap ls f.ins) cash (aM o (ofI (au ls f.ins)) N cash)).fs.length:=gB _;refine((FrOK.mk (uY hall) (fun x hx=>hsm x (List.mem_filter.1 hx).1) ?_ ?_ ?_ ?_ ?_:FrOK (bd ls f.ins) (ay (dx N f.key (aN o f.ins N) (ap ls f.ins) cash (aM o (ofI (au ls f.ins)) N cash)))).at_ k (Nat.le_of_lt hk)).2 hk
   ·have h1:=lC ls f.ins;have h2:=F.le;rw[hlen];unfold dx;omega
   ·intro x hx;obtain⟨j,hj,rfl⟩:=List.getElem_of_mem hx;exact(F.at_ j hj).1
   ·intro x hx;obtain⟨j,hj,rfl⟩:=List.getElem_of_mem hx;exact(F.at_ j hj).2.1
   ·intro x hx y hy;obtain⟨j,hj,rfl⟩:=List.getElem_of_mem hx;obtain⟨_,_,i1,h',i2⟩:=F.at_ j hj;have h3:=mY.1 (hnf _ (List.getElem_mem h')) y (List.mem_filter.1 hy).1;intro e;apply h3;rw[e];exact i1.trans i2.symm
   ·intro i j hi hj e;have h1:=(F.at_ i hi).2.2.1;have h2:=(F.at_ j hj).2.2.1;have:=uV (key:=f.key) (n:=i+1) (m:=j+1) (by omega) (by omega) (h1.symm.trans (e.trans h2));omega }
end
section
open Go.RowKit
def gP(gs:List GainR):Int:=(gs.map (fun g=>valI g.p)).sum
def gL(gs:List GainR):Int:=(gs.map (fun g=>valI g.l)).sum
def fQ(fs:List LotV):Int:=(fs.map (fun x=>valI x.q)).sum
def fC(fs:List LotV):Int:=(fs.map (fun x=>valI x.c)).sum
theorem jC{l:List Bs}{k:Nat}(h:k<l.length):aR (l.take (k+1))=aR (l.take k)+valI (l[k]'h):=by
 rw[List.take_succ_eq_append_getElem h,qQ]
theorem rA(N:Bs)(x:LotV)(p l:Bs):gP (bE N x p l)=valI p∧gL (bE N x p l)=valI l:=by
 unfold bE;split
 ·rename_i h
  obtain⟨rfl,rfl⟩:=h;exact⟨rfl,rfl⟩
 ·exact⟨by simp[gP],by simp[gL]⟩
theorem yu(a b:List GainR):gP (a++b)=gP a+gP b:=by simp[gP]
theorem yv(a b:List GainR):gL (a++b)=gL a+gL b:=by simp[gL]
theorem EM(a b:List LotV):fQ (a++b)=fQ a+fQ b:=by simp[fQ]
theorem EN(a b:List LotV):fC (a++b)=fC a+fC b:=by simp[fC]
theorem rB(N key other:Bs)(s:ApSt)(x:LotV)(n p b:Bs):(fz N key other s x n p b).gs=s.gs++bE N x p (dw x b):=by
 by_cases hN:N=[]
 ·subst hN;rw[gA _ _ _ _ _ _ _ rfl]
 ·rw[dm hN _ _ _ _ _ _ _ rfl]
section
variable {N key other:Bs} {ls:List LotV} {ns ps ks:List Bs}
theorem yw(h1:ns.length=ls.length)(h2:ps.length=ls.length)(h3:ks.length=ls.length):∀k,k≤ls.length →
  gP (bM N key other ls ns ps ks k).gs=aR (ps.take k)∧gL (bM N key other ls ns ps ks k).gs=aR ((ls.map (·.c)).take k)-aR (ks.take k)
 |0,_=>by simp[bM,gP,gL,aR]
 |k+1,hk=>by
  obtain⟨e1,e2⟩:=yw h1 h2 h3 k (by omega);rw[ji (by omega) (by omega) (by omega) (by omega),rB,yu,yv,(rA _ _ _ _).1,(rA _ _ _ _).2,e1,e2];rw[jC (l:=ps) (by omega),jC (l:=ks) (by omega),jC (l:=ls.map (·.c)) (by rw[List.length_map];omega),List.getElem_map];refine⟨rfl,?_⟩;unfold dw;rw[ag];omega
theorem tK(hN:N≠[])(h1:ns.length=ls.length)(h2:ps.length=ls.length)(h3:ks.length=ls.length):∀k,k≤ls.length →
  fQ (bM N key other ls ns ps ks k).fs=aR (ns.take k)∧fC (bM N key other ls ns ps ks k).fs+(bM N key other ls ns ps ks k).ex=aR (ks.take k)
 |0,_=>by simp[bM,fQ,fC,aR]
 |k+1,hk=>by
  obtain⟨e1,e2⟩:=tK hN h1 h2 h3 k (by omega);rw[ji (by omega) (by omega) (by omega) (by omega),dm hN _ _ _ _ _ _ _ rfl];dsimp only;rw[jC (l:=ns) (by omega),jC (l:=ks) (by omega),←e1,←e2];unfold io jO js;by_cases hn:ns[k]'(by omega)=[]
  ·rw[if_pos hn,if_pos hn,hn,fT,List.append_nil];exact⟨by omega,by omega⟩
  ·rw[if_neg hn,if_neg hn,EM,EN];exact⟨by simp[fQ],by simp[fC];omega⟩
end
theorem oP{wt:LotV→Bs}{t:Bs}{ls:List LotV}(hW:t≠[]→WtOK (ls.map wt)):aR (aI wt t ls)=valI t:=by
 unfold aI;split
 ·rename_i h
  subst h;unfold aR;rw[List.map_replicate,fT];exact(show ∀n,(List.replicate n (0:Int)).sum=0 from fun n=>by induction n with|zero=>rfl|succ n ih=>rw[List.replicate_succ,List.sum_cons,ih];rfl) _
 ·rename_i h
  unfold fK aR;rw[List.map_map];have e:(valI ∘ ofI)=id:=by funext v;exact ag v
  rw[e,List.map_id];exact vF (hW h).sum
theorem wC(s:ApSt){other:Bs}(h:∀x ∈ s.fs,x.ins=other):∀x ∈ ay s,x.ins=other:=by
 obtain⟨gs,ss,fs,ex⟩:=s
 cases fs with
 |nil=>intro x hx;cases hx
 |cons y r =>
  intro x hx;rcases List.mem_cons.1 hx with rfl|hx
  ·exact h y (by simp)
  ·exact h x (List.mem_cons_of_mem _ hx)
theorem CU{N key other:Bs}{ls:List LotV}{ns ps ks:List Bs}(k:Nat):∀x ∈ (bM N key other ls ns ps ks k).fs,x.ins=other:=by
 obtain⟨ix,h⟩:=tG (N:=N) (key:=key) (other:=other) (ls:=ls) (ns:=ns) (ps:=ps) (ks:=ks) k;intro x hx;obtain⟨j,hj,rfl⟩:=List.getElem_of_mem hx;obtain⟨_,_,_,_,_,e⟩:=h.at_ j hj;rw[e]
end
end Go.Proofs.YthgpheopnhajaaaGreatDoor
