/- The seat's texts, part U0. -/
import Derived.WalkKit
import Derived.WalkSpells
import Derived.WalkLawsBesides
import Derived.Lib.Hide
import Derived.Lib.Strings
import Derived.Deep.DeepCutAuto
import Derived.Deep.CutBlock
import Derived.Deep.QuietTactic
import Derived.BigQuiet
import Derived.RegionTactic
import Derived.Deep.DeepFit
import Derived.Deep.LoopGhost
import Derived.Outline
import Derived.Lib.ParseIntB
import Derived.Deep.Draws
import Derived.Deep.AppendLies
import Derived.WalkSmall
import Derived.Lib.ConvBytes
import Derived.Laws.BytesArg
set_option maxRecDepth 100000
set_option maxHeartbeats 8000000
namespace Go.Proofs.YthgpheopnhajaaaGreatDoor
section
open Go.RowKit
abbrev Bs:=List UInt8
def bs (l:Bs):ByteArray:=⟨l.toArray⟩
def L (s:ByteArray):Bs:=s.data.toList
theorem bs_L (s:ByteArray):bs (L s)=s:=Lib.mk_data s
theorem L_bs (l:Bs):L (bs l)=l:=by simp [L,bs]
theorem data_bs (l:Bs):(bs l).data.toList=l:=by simp [bs]
theorem size_bs (l:Bs):(bs l).size=l.length:=by rw [Lib.size_eq,data_bs]
theorem toList_bs (l:Bs):(bs l).toList=l:=by rw [Lib.toList_data,data_bs]
theorem extract_bs (l:Bs) (a b:Nat):(bs l).extract a b=bs ((l.drop a).take (b-a)):=by rw [Lib.extract_eq,data_bs];rfl
theorem get_bs (l:Bs) (i:Nat) (h:i<(bs l).size):(bs l)[i]=l[i]'(by rw [size_bs] at h;exact h):=by
 simp [bs];rfl
theorem append_bs (a b:Bs):bs a++bs b=bs (a++b):=by
 apply ByteArray.ext;simp [bs]
theorem lit_append (a:Array UInt8) (l:Bs):(⟨a⟩:ByteArray)++bs l=bs (a.toList++l):=by
 apply ByteArray.ext;simp [bs]
theorem append_lit (a:Array UInt8) (l:Bs):bs l++(⟨a⟩:ByteArray)=bs (l++a.toList):=by
 apply ByteArray.ext;simp [bs]
theorem byte_ne {c d:UInt8} (h:c≠d):((c.toNat:Int) == (d.toNat:Int))=false:=by
 rw [beq_eq_false_iff_ne];intro e;exact h (UInt8.toNat_inj.1 (by omega))
end
section
open Go.RowKit
def isD (c:UInt8):Bool:=decide (48≤c.toNat) && decide (c.toNat≤57)
def isMin (l:Bs):Bool:=match l with | []=>false | c :: _=>c == 45
def strip (l:Bs):Bs:=if isMin l then l.tail else l
def noZeros:Bs→Bs | []=>[] | c :: r=>if c == 48 then noZeros r else c :: r
def magT (t:Bs):Bs:=if t.all isD then noZeros t else []
def negT (b:Bool) (t:Bs):Bool:=b && !(magT t).isEmpty
def mag (l:Bs):Bs:=magT (strip l)
def neg (l:Bs):Bool:=negT (isMin l) (strip l)
def canon (l:Bs):Bs:=if neg l then 45 :: mag l else mag l
def checkI (l:Bs):Int:=if canon l=l then 0 else 1
def printI (l:Bs):Bs:=if canon l=[] then [48] else canon l
theorem noZeros_le (l:Bs):(noZeros l).length≤l.length:=by
 induction l with
 |nil=>simp [noZeros]
 |cons c r ih=>unfold noZeros;split <;> simp <;> omega
theorem strip_le (l:Bs):(strip l).length≤l.length:=by unfold strip;split <;> simp
theorem mag_le (l:Bs):(mag l).length≤l.length:=by
 unfold mag magT;split
 ·exact Nat.le_trans (noZeros_le _) (strip_le _)
 ·simp
def strLen:Value→Nat | .string s=>s.size | _=>0
theorem isD_bad {c:UInt8} (h:c.toNat<48∨57<c.toNat):isD c=false:=by
 unfold isD;rcases h with h | h
 ·rw [Bool.and_eq_false_iff];left;simp;omega
 ·rw [Bool.and_eq_false_iff];right;simp;omega
theorem isD_good {c:UInt8} (h:48≤c.toNat) (h':c.toNat≤57):isD c=true:=by simp [isD,h,h']
theorem all_bad (t:Bs) (k:Nat) (hk:k<t.length) (h:(t[k]'hk).toNat<48∨57<(t[k]'hk).toNat):t.all isD=false:=by
 rw [List.all_eq_false];exact ⟨_,List.getElem_mem hk,by simp [isD_bad h]⟩
theorem magT_bad (t:Bs) (k:Nat) (hk:k<t.length) (h:(t[k]'hk).toNat<48∨57<(t[k]'hk).toNat):magT t=[]:=by
 unfold magT;rw [all_bad t k hk h];rfl
theorem negT_bad (b:Bool) (t:Bs) (k:Nat) (hk:k<t.length) (h:(t[k]'hk).toNat<48∨57<(t[k]'hk).toNat):negT b t=false:=by
 unfold negT;rw [magT_bad t k hk h];simp
theorem take_all_succ (t:Bs) (k:Nat) (hk:k<t.length) (h:(t.take k).all isD=true) (h1:¬ ((t[k]'hk).toNat:Int)<48) (h2:¬ 57<((t[k]'hk).toNat:Int)):(t.take (k+1)).all isD=true:=by
 rw [List.take_succ_eq_append_getElem hk,List.all_append,h]
 simp only [List.all_cons,List.all_nil,Bool.and_true,Bool.true_and]
 exact isD_good (by omega) (by omega)
theorem take_all_end (t:Bs) (k:Nat) (hk:¬ k<t.length) (h:(t.take k).all isD=true):t.all isD=true:=by
 rw [List.take_of_length_le (by omega)] at h;exact h
theorem magT_good (t:Bs) (h:t.all isD=true):magT t=noZeros t:=by unfold magT;rw [if_pos h]
theorem negT_good (b:Bool) (t:Bs) (h:t.all isD=true):negT b t=(b && !(noZeros t).isEmpty):=by unfold negT;rw [magT_good t h]
end
section
open Go.RowKit
def gb (c:UInt8):Int:=if 48≤c.toNat then (c.toNat:Int)-48 else (c.toNat:Int)+208
theorem isD_iff (c:UInt8):isD c=true↔48≤c.toNat∧c.toNat≤57:=by simp [isD]
theorem noZeros_all {l:Bs} (h:l.all isD=true):(noZeros l).all isD=true:=by
 induction l with
 |nil=>rfl
 |cons c r ih =>
  unfold noZeros;split
  ·exact ih (by simp only [List.all_cons,Bool.and_eq_true] at h;exact h.2)
  ·exact h
theorem magT_all (l:Bs):(magT l).all isD=true:=by
 unfold magT;split
 ·exact noZeros_all (by assumption)
 ·rfl
theorem dig_of (n:Nat) (h:n<10):isD (UInt8.ofNat (48+n))=true∧gb (UInt8.ofNat (48+n))=n:=by
 have e:(UInt8.ofNat (48+n)).toNat=48+n:=UInt8.toNat_ofNat_of_lt' (by show _<256;omega)
 refine ⟨(isD_iff _).2 (by omega),?_⟩
 unfold gb;rw [if_pos (by omega)];omega
theorem snocInd {α:Type} {P:List α→Prop} (h0:P []) (h1:∀ l a,P l→P (l++[a])) (l:List α):P l:=by
 have key:∀ q:List α,P q.reverse:=by
  intro q;induction q with
  |nil=>exact h0
  |cons a r ih=>rw [List.reverse_cons];exact h1 _ _ ih
 have:=key l.reverse;rwa [List.reverse_reverse] at this
def dval (c:UInt8):Nat:=c.toNat-48
def natOf (l:Bs):Nat:=l.foldl (fun n c=>10*n+dval c) 0
theorem natOf_nil:natOf []=0:=rfl
theorem natOf_snoc (l:Bs) (c:UInt8):natOf (l++[c])=10*natOf l+dval c:=by simp [natOf]
theorem natOf_append (a b:Bs):natOf (a++b)=natOf a*10 ^ b.length+natOf b:=by
 induction b using snocInd with
 |h0=>simp [natOf]
 |h1 b c ih =>
  rw [← List.append_assoc,natOf_snoc,ih,natOf_snoc,List.length_append,List.length_singleton,Nat.pow_succ]
  generalize 10 ^ b.length=q
  generalize natOf a=x
  generalize natOf b=y
  rw [Nat.mul_add,← Nat.mul_assoc,Nat.mul_comm 10 x,Nat.mul_assoc x 10 q,Nat.mul_comm 10 q];omega
theorem dval_lt {c:UInt8} (h:isD c=true):dval c<10:=by have:=(isD_iff c).1 h;unfold dval;omega
theorem natOf_lt {l:Bs} (h:l.all isD=true):natOf l<10 ^ l.length:=by
 induction l using snocInd with
 |h0=>simp [natOf]
 |h1 l c ih =>
  rw [List.all_append,Bool.and_eq_true] at h
  have h1:=ih h.1
  have h2:=dval_lt (c:=c) (by simpa using h.2)
  rw [natOf_snoc,List.length_append,List.length_singleton,Nat.pow_succ];omega
def dig10 (n:Nat):Bs:=if _h:n=0 then [] else dig10 (n / 10)++[UInt8.ofNat (48+n % 10)]
termination_by n
decreasing_by omega
theorem dig10_zero:dig10 0=[]:=by rw [dig10];rfl
theorem dig10_pos {n:Nat} (h:n≠0):dig10 n=dig10 (n / 10)++[UInt8.ofNat (48+n % 10)]:=by rw [dig10,dif_neg h]
theorem dval_dig {n:Nat} (h:n<10):dval (UInt8.ofNat (48+n))=n:=by
 unfold dval;rw [UInt8.toNat_ofNat_of_lt' (by show _<256;omega)];omega
theorem natOf_dig10 (n:Nat):natOf (dig10 n)=n:=by
 induction n using Nat.strongRecOn with
 |ind n ih =>
  by_cases h:n=0
  ·subst h;rw [dig10_zero];rfl
  ·rw [dig10_pos h,natOf_snoc,ih (n / 10) (by omega),dval_dig (Nat.mod_lt _ (by decide))];omega
theorem dig10_all (n:Nat):(dig10 n).all isD=true:=by
 induction n using Nat.strongRecOn with
 |ind n ih =>
  by_cases h:n=0
  ·subst h;rw [dig10_zero];rfl
  ·rw [dig10_pos h,List.all_append,ih (n / 10) (by omega)]
   simp only [List.all_cons,List.all_nil,Bool.and_true,Bool.true_and]
   exact (dig_of _ (Nat.mod_lt _ (by decide))).1
theorem dig10_ne {n:Nat} (h:n≠0):dig10 n≠[]:=by rw [dig10_pos h];simp
def Lead (l:Bs):Prop:=∀ c r,l=c :: r→c≠48
theorem noZeros_lead (l:Bs):Lead (noZeros l):=by
 induction l with
 |nil=>intro c r h;cases h
 |cons x q ih =>
  by_cases hx:(x == 48)=true
  ·have e:noZeros (x :: q)=noZeros q:=by simp only [noZeros];rw [if_pos hx]
   rw [e];exact ih
  ·have e:noZeros (x :: q)=x :: q:=by simp only [noZeros];rw [if_neg hx]
   rw [e];intro c r h;injection h with h1 h2;subst h1;simpa using hx
theorem mag_lead (l:Bs):Lead (mag l):=by
 show Lead (magT (strip l))
 unfold magT;split
 ·exact noZeros_lead _
 ·intro c r h;cases h
theorem mag_all (l:Bs):(mag l).all isD=true:=magT_all _
theorem lead_pos {c:UInt8} {r:Bs} (hd:(c :: r).all isD=true) (h:Lead (c :: r)):10 ^ r.length≤natOf (c :: r):=by
 have hc:=h c r rfl
 have h1:isD c=true:=by simp only [List.all_cons,Bool.and_eq_true] at hd;exact hd.1
 have h2:=(isD_iff c).1 h1
 have h3:1≤dval c:=by
  unfold dval
  have:c.toNat≠48:=fun e=>hc (UInt8.toNat_inj.1 (by rw [e];rfl))
  omega
 have e:natOf (c :: r)=natOf [c]*10 ^ r.length+natOf r:=natOf_append [c] r
 have e2:natOf [c]=dval c:=by simp [natOf]
 rw [e,e2]
 have:1*10 ^ r.length≤dval c*10 ^ r.length:=Nat.mul_le_mul_right _ h3
 omega
theorem natOf_zero {l:Bs} (hd:l.all isD=true) (h:Lead l):natOf l=0↔l=[]:=by
 constructor
 ·intro h0
  cases l with
  |nil=>rfl
  |cons c r =>
   have:=lead_pos hd h
   have hp:0<10 ^ r.length:=Nat.pow_pos (by decide)
   omega
 ·rintro rfl;rfl
theorem lead_init {l:Bs} {c:UInt8} (h:Lead (l++[c])) (hl:l≠[]):Lead l:=by
 intro x r e;subst e;exact h x (r++[c]) rfl
theorem dig10_natOf {l:Bs} (hd:l.all isD=true) (h:Lead l):dig10 (natOf l)=l:=by
 induction l using snocInd with
 |h0=>rw [natOf_nil,dig10_zero]
 |h1 l c ih =>
  have hd':=hd
  rw [List.all_append,Bool.and_eq_true] at hd
  have hc:isD c=true:=by simpa using hd.2
  have hc2:=dval_lt hc
  have hz:natOf (l++[c])≠0:=by
   rw [Ne,natOf_zero hd' h];simp
  have e:UInt8.ofNat (48+dval c)=c:=by
   have:=(isD_iff c).1 hc
   apply UInt8.toNat_inj.1
   rw [UInt8.toNat_ofNat_of_lt' (by show _<256;unfold dval;omega)];unfold dval;omega
  rw [dig10_pos hz,natOf_snoc,show (10*natOf l+dval c) / 10=natOf l by omega,show (10*natOf l+dval c) % 10=dval c by omega,e]
  congr 1
  by_cases hl:l=[]
  ·subst hl;rw [natOf_nil,dig10_zero]
  ·exact ih hd.1 (lead_init h hl)
def valI (l:Bs):Int:=if neg l then -(natOf (mag l):Int) else natOf (mag l)
def ofI (z:Int):Bs:=if z<0 then 45 :: dig10 z.natAbs else dig10 z.natAbs
theorem neg_mag {l:Bs} (h:neg l=true):natOf (mag l)≠0:=by
 rw [Ne,natOf_zero (mag_all l) (mag_lead l)]
 intro e
 have:neg l=(isMin l && !(mag l).isEmpty):=rfl
 rw [this,e] at h;simp at h
theorem canon_ofI (l:Bs):canon l=ofI (valI l):=by
 unfold canon ofI valI
 by_cases h:neg l=true
 ·have h0:=neg_mag h
  rw [if_pos h,if_pos h,if_pos (by omega),show (-(natOf (mag l):Int)).natAbs=natOf (mag l) by omega,dig10_natOf (mag_all l) (mag_lead l)]
 ·rw [if_neg h,if_neg h,if_neg (by omega),show ((natOf (mag l):Int)).natAbs=natOf (mag l) by omega,dig10_natOf (mag_all l) (mag_lead l)]
def B9:Nat:=1000000000
def gr (n:Nat):List Nat:=if _h:n=0 then [] else (n % B9) :: gr (n / B9)
termination_by n
decreasing_by exact Nat.div_lt_self (by omega) (by decide)
theorem gr_zero:gr 0=[]:=by rw [gr];rfl
theorem gr_pos {n:Nat} (h:n≠0):gr n=(n % B9) :: gr (n / B9):=by rw [gr,dif_neg h]
def gval:List Nat→Nat | []=>0 | g :: r=>g+B9*gval r
theorem gval_gr (n:Nat):gval (gr n)=n:=by
 induction n using Nat.strongRecOn with
 |ind n ih =>
  by_cases h:n=0
  ·subst h;rw [gr_zero];rfl
  ·rw [gr_pos h];unfold gval;rw [ih (n / B9) (Nat.div_lt_self (by omega) (by decide))];exact Nat.mod_add_div n B9
theorem gr_lt (n:Nat):∀ g ∈ gr n,g<B9:=by
 induction n using Nat.strongRecOn with
 |ind n ih =>
  by_cases h:n=0
  ·subst h;rw [gr_zero];simp
  ·rw [gr_pos h];intro g hg
   rcases List.mem_cons.1 hg with rfl | hg
   ·exact Nat.mod_lt _ (by decide)
   ·exact ih (n / B9) (Nat.div_lt_self (by omega) (by decide)) g hg
def Top (l:List Nat):Prop:=∀ r g,l=r++[g]→g≠0
theorem gr_gval {l:List Nat} (hb:∀ g ∈ l,g<B9) (ht:Top l):gr (gval l)=l:=by
 induction l with
 |nil=>exact gr_zero
 |cons g r ih =>
  have hg:=hb g (by simp)
  have hne:gval (g :: r)≠0:=by
   intro e
   have:∀ (q:List Nat),gval q=0→∀ x ∈ q,x=0:=by
    intro q;induction q with
    |nil=>intro _ x hx;cases hx
    |cons y s ihs =>
     intro h x hx
     have h1:y=0:=by unfold gval at h;omega
     have h2:gval s=0:=by
      unfold gval at h
      have:B9*gval s=0:=by omega
      rcases Nat.mul_eq_zero.1 this with h | h
      ·exact absurd h (by decide)
      ·exact h
     rcases List.mem_cons.1 hx with rfl | hx
     ·exact h1
     ·exact ihs h2 x hx
   have hall:=this _ e
   obtain ⟨q,x,hq⟩:∃ q x,g :: r=q++[x]:=by
    rcases List.eq_nil_or_concat (g :: r) with h | ⟨q,x,h⟩
    ·cases h
    ·exact ⟨q,x,by simpa using h⟩
   exact ht q x hq (hall x (by rw [hq];simp))
  rw [gr_pos hne]
  have eg:gval (g :: r)=g+B9*gval r:=rfl
  have e1:gval (g :: r) % B9=g:=by rw [eg];rw [Nat.add_mul_mod_self_left];exact Nat.mod_eq_of_lt hg
  have e2:gval (g :: r) / B9=gval r:=by rw [eg];rw [Nat.add_mul_div_left _ _ (by decide),Nat.div_eq_of_lt hg,Nat.zero_add]
  rw [e1,e2,ih (fun x hx=>hb x (by simp [hx])) (fun q x hq=>ht (g :: q) x (by rw [hq];rfl))]
theorem gr_top (n:Nat):Top (gr n):=by
 induction n using Nat.strongRecOn with
 |ind n ih =>
  by_cases h:n=0
  ·subst h;rw [gr_zero];intro r g e;simp at e
  ·rw [gr_pos h];intro r g e
   cases r with
   |nil =>
    simp only [List.nil_append,List.cons.injEq] at e
    have hz:n / B9=0:=by
     by_cases h0:n / B9=0
     ·exact h0
     ·rw [gr_pos h0] at e;cases e.2
    have:=Nat.mod_add_div n B9
    rw [hz] at this;rw [← e.1];omega
   |cons y q =>
    simp only [List.cons_append,List.cons.injEq] at e
    exact ih (n / B9) (Nat.div_lt_self (by omega) (by decide)) q g e.2
end
section
open Go.RowKit
def at0 (l:List Nat) (k:Nat):Nat:=l.getD k 0
theorem at0_lt {l:List Nat} {k:Nat} (h:k<l.length):at0 l k=l[k]:=by simp [at0,h]
theorem at0_ge {l:List Nat} {k:Nat} (h:l.length≤k):at0 l k=0:=by simp [at0,List.getElem?_eq_none h]
theorem at0_bd {l:List Nat} (hb:∀ g ∈ l,g<B9) (k:Nat):at0 l k<B9:=by
 rcases Nat.lt_or_ge k l.length with h | h
 ·rw [at0_lt h];exact hb _ (List.getElem_mem h)
 ·rw [at0_ge h];decide
def gsum (f:Nat→Nat):Nat→Nat | 0=>0 | L+1=>gsum f L+f L*B9 ^ L
theorem gsum_shift (f:Nat→Nat) (L:Nat):gsum f (L+1)=f 0+B9*gsum (fun k=>f (k+1)) L:=by
 induction L with
 |zero=>simp [gsum]
 |succ L ih =>
  rw [show gsum f (L+1+1)=gsum f (L+1)+f (L+1)*B9 ^ (L+1) from rfl,ih,show gsum (fun k=>f (k+1)) (L+1)=gsum (fun k=>f (k+1)) L+f (L+1)*B9 ^ L from rfl,Nat.mul_add,Nat.pow_succ,Nat.add_assoc]
  congr 2
  rw [← Nat.mul_assoc,Nat.mul_comm (f (L+1)*B9 ^ L) B9]
theorem gval_gsum:∀ (l:List Nat) (L:Nat),l.length≤L→gval l=gsum (at0 l) L
 |[],L,_=>by
  have:∀ L,gsum (at0 []) L=0:=by
   intro L;induction L with
   |zero=>rfl
   |succ L ih=>unfold gsum;rw [ih,at0_ge (by simp)];simp
  rw [this];rfl
 |g :: r,0,h=>by simp at h
 |g :: r,L+1,h=>by
  rw [gsum_shift]
  have e:(fun k=>at0 (g :: r) (k+1))=at0 r:=by funext k;simp [at0]
  rw [e,← gval_gsum r L (by simpa using h)];rfl
theorem gsum_congr {f g:Nat→Nat} {L:Nat} (h:∀ k,k<L→f k=g k):gsum f L=gsum g L:=by
 induction L with
 |zero=>rfl
 |succ L ih=>unfold gsum;rw [ih (fun k hk=>h k (by omega)),h L (by omega)]
theorem gsum_lt {f:Nat→Nat} (hb:∀ k,f k<B9) (L:Nat):gsum f L<B9 ^ L:=by
 induction L with
 |zero=>simp [gsum]
 |succ L ih =>
  unfold gsum;rw [Nat.pow_succ]
  have h1:f L*B9 ^ L≤(B9-1)*B9 ^ L:=Nat.mul_le_mul_right _ (by have:=hb L;omega)
  generalize B9 ^ L=q at *
  have h2:q*B9=q+(B9-1)*q:=by
   have e:B9=1000000000:=rfl
   rw [e];omega
  omega
theorem gval_range (f:Nat→Nat) (L:Nat):gval ((List.range L).map f)=gsum f L:=by
 rw [gval_gsum _ L (by simp)]
 apply gsum_congr;intro k hk
 rw [at0_lt (by simpa using hk)];simp
def cy (a b:Nat→Nat):Nat→Nat | 0=>0 | k+1=>(a k+b k+cy a b k) / B9
def pl (a b:Nat→Nat) (k:Nat):Nat:=(a k+b k+cy a b k) % B9
theorem pl_lt (a b:Nat→Nat) (k:Nat):pl a b k<B9:=Nat.mod_lt _ (by decide)
theorem cy_le {a b:Nat→Nat} (ha:∀ k,a k<B9) (hb:∀ k,b k<B9) (k:Nat):cy a b k≤1:=by
 induction k with
 |zero=>simp [cy]
 |succ k ih =>
  unfold cy
  have h1:=ha k;have h2:=hb k
  have e:B9=1000000000:=rfl
  rw [e] at h1 h2 ⊢;omega
theorem plus_sum (a b:Nat→Nat) (L:Nat):gsum (pl a b) L+cy a b L*B9 ^ L=gsum a L+gsum b L:=by
 induction L with
 |zero=>simp [gsum,cy]
 |succ L ih =>
  have e1:gsum (pl a b) (L+1)=gsum (pl a b) L+pl a b L*B9 ^ L:=rfl
  have e2:gsum a (L+1)=gsum a L+a L*B9 ^ L:=rfl
  have e3:gsum b (L+1)=gsum b L+b L*B9 ^ L:=rfl
  have e4:cy a b (L+1)=(a L+b L+cy a b L) / B9:=rfl
  have e5:pl a b L=(a L+b L+cy a b L) % B9:=rfl
  have h:=Nat.mod_add_div (a L+b L+cy a b L) B9
  rw [← e4,← e5] at h
  rw [e1,e2,e3,Nat.pow_succ]
  generalize cy a b (L+1)=c' at *
  generalize cy a b L=c at *
  generalize pl a b L=p at *
  generalize B9 ^ L=q at *
  have h2:(p+B9*c')*q=(a L+b L+c)*q:=by rw [h]
  rw [Nat.add_mul,Nat.add_mul,Nat.add_mul] at h2
  have h3:B9*c'*q=c'*(q*B9):=by rw [Nat.mul_comm B9 c',Nat.mul_assoc,Nat.mul_comm B9 q]
  rw [h3] at h2
  omega
def bw (a b:Nat→Nat):Nat→Nat | 0=>0 | k+1=>if a k<b k+bw a b k then 1 else 0
def mi (a b:Nat→Nat) (k:Nat):Nat:=if a k<b k+bw a b k then a k+B9-(b k+bw a b k) else a k-(b k+bw a b k)
theorem bw_le (a b:Nat→Nat) (k:Nat):bw a b k≤1:=by
 cases k with
 |zero=>simp [bw]
 |succ k=>unfold bw;split <;> omega
theorem mi_lt {a b:Nat→Nat} (ha:∀ k,a k<B9) (hb:∀ k,b k<B9) (k:Nat):mi a b k<B9:=by
 have h1:=ha k;have h2:=hb k;have h3:=bw_le a b k
 unfold mi;split <;> omega
theorem minus_sum {a b:Nat→Nat} (ha:∀ k,a k<B9) (hb:∀ k,b k<B9) (L:Nat):gsum (mi a b) L+gsum b L=gsum a L+bw a b L*B9 ^ L:=by
 induction L with
 |zero=>simp [gsum,bw]
 |succ L ih =>
  have e1:gsum (mi a b) (L+1)=gsum (mi a b) L+mi a b L*B9 ^ L:=rfl
  have e2:gsum a (L+1)=gsum a L+a L*B9 ^ L:=rfl
  have e3:gsum b (L+1)=gsum b L+b L*B9 ^ L:=rfl
  have h1:=ha L;have h2:=hb L;have h3:=bw_le a b L
  have key:mi a b L+(b L+bw a b L)=a L+bw a b (L+1)*B9:=by
   have e4:bw a b (L+1)=if a L<b L+bw a b L then 1 else 0:=rfl
   rw [e4];unfold mi
   split
   ·omega
   ·omega
  rw [e1,e2,e3,Nat.pow_succ]
  generalize bw a b (L+1)=c' at *
  generalize bw a b L=c at *
  generalize mi a b L=p at *
  generalize B9 ^ L=q at *
  have h4:(p+(b L+c))*q=(a L+c'*B9)*q:=by rw [key]
  rw [Nat.add_mul,Nat.add_mul,Nat.add_mul] at h4
  have h5:c'*B9*q=c'*(q*B9):=by rw [Nat.mul_assoc,Nat.mul_comm B9 q]
  rw [h5] at h4
  omega
theorem bw_zero {a b:Nat→Nat} (ha:∀ k,a k<B9) (hb:∀ k,b k<B9) {L:Nat} (h:gsum b L≤gsum a L):bw a b L=0:=by
 have h1:=minus_sum ha hb L
 have h2:=gsum_lt (mi_lt ha hb) L
 have h3:=bw_le a b L
 rcases Nat.eq_zero_or_pos (bw a b L) with h0 | h0
 ·exact h0
 ·have:bw a b L=1:=by omega
  rw [this,Nat.one_mul] at h1;omega
theorem minus_val {a b:Nat→Nat} (ha:∀ k,a k<B9) (hb:∀ k,b k<B9) {L:Nat} (h:gsum b L≤gsum a L):gsum (mi a b) L=gsum a L-gsum b L:=by
 have h1:=minus_sum ha hb L
 rw [bw_zero ha hb h] at h1;omega
theorem gsum_less {a b:Nat→Nat} (ha:∀ k,a k<B9) (k:Nat) (h:a k<b k):∀ (L:Nat),k<L→(∀ j,k<j→j<L→a j=b j)→gsum a L<gsum b L
 |0,hk,_=>by omega
 |L+1,hk,he=>by
  unfold gsum
  rcases Nat.lt_or_ge k L with h1 | h1
  ·have:=gsum_less ha k h L h1 (fun j hj hl=>he j hj (by omega))
   rw [he L h1 (by omega)];omega
  ·obtain rfl:k=L:=by omega
   have h2:=gsum_lt ha k
   have h3:(a k+1)*B9 ^ k≤b k*B9 ^ k:=Nat.mul_le_mul_right _ h
   rw [Nat.add_mul,Nat.one_mul] at h3
   omega
def cutL (l:List Nat):List Nat:=(l.reverse.dropWhile (· == 0)).reverse
theorem cutL_snoc_zero (l:List Nat):cutL (l++[0])=cutL l:=by simp [cutL]
theorem cutL_snoc (l:List Nat) {g:Nat} (h:g≠0):cutL (l++[g])=l++[g]:=by simp [cutL,h]
theorem gval_snoc (l:List Nat) (g:Nat):gval (l++[g])=gval l+g*B9 ^ l.length:=by
 induction l with
 |nil=>simp [gval]
 |cons a r ih =>
  have e1:gval ((a :: r)++[g])=a+B9*gval (r++[g]):=rfl
  have e2:gval (a :: r)=a+B9*gval r:=rfl
  rw [e1,e2,ih,Nat.mul_add,List.length_cons,Nat.pow_succ,Nat.add_assoc]
  congr 2
  rw [Nat.mul_left_comm,Nat.mul_comm (B9 ^ r.length) B9]
theorem cutL_gr {l:List Nat} (hb:∀ g ∈ l,g<B9):cutL l=gr (gval l):=by
 induction l using snocInd with
 |h0=>rw [show gval []=0 from rfl,gr_zero];rfl
 |h1 l g ih =>
  by_cases h:g=0
  ·subst h
   rw [cutL_snoc_zero,gval_snoc,Nat.zero_mul,Nat.add_zero]
   exact ih (fun x hx=>hb x (by simp [hx]))
  ·rw [cutL_snoc l h,gr_gval hb]
   intro r x e
   have:=List.append_inj' e rfl
   simp at this;rw [← this.2];exact h
theorem gr_len_le {n L:Nat} (h:n<B9 ^ L):(gr n).length≤L:=by
 induction L generalizing n with
 |zero=>have:n=0:=by simpa using h
        subst this;rw [gr_zero];simp
 |succ L ih =>
  by_cases h0:n=0
  ·subst h0;rw [gr_zero];simp
  ·rw [gr_pos h0,List.length_cons]
   have:n / B9<B9 ^ L:=by
    rw [Nat.div_lt_iff_lt_mul (by decide)];rw [Nat.pow_succ] at h;exact h
   have:=ih this;omega
end
section
open Go.RowKit
def groupsOf (s:Bs):List Nat:=if h:s=[] then [] else natOf (s.drop (s.length-9)) :: groupsOf (s.take (s.length-9))
termination_by s.length
decreasing_by
 have:0<s.length:=List.length_pos_iff.2 h
 rw [List.length_take];omega
theorem groupsOf_nil:groupsOf []=[]:=by rw [groupsOf];rfl
theorem groupsOf_pos {s:Bs} (h:s≠[]):groupsOf s=natOf (s.drop (s.length-9)) :: groupsOf (s.take (s.length-9)):=by rw [groupsOf,dif_neg h]
theorem groupsOf_len (s:Bs):(groupsOf s).length≤s.length:=by
 induction hn:s.length using Nat.strongRecOn generalizing s with
 |ind n ih =>
  subst hn
  by_cases h:s=[]
  ·subst h;rw [groupsOf_nil];simp
  ·have hp:0<s.length:=List.length_pos_iff.2 h
   have:=ih (s.take (s.length-9)).length (by rw [List.length_take];omega) (s.take (s.length-9)) rfl
   rw [List.length_take] at this
   rw [groupsOf_pos h,List.length_cons];omega
theorem lead_take {s:Bs} (h:Lead s) (n:Nat):Lead (s.take n):=by
 intro c r e
 cases s with
 |nil=>simp at e
 |cons x q =>
  cases n with
  |zero=>simp at e
  |succ n=>rw [List.take_succ_cons] at e;injection e with e1 e2;subst e1;exact h x q rfl
theorem all_take {s:Bs} (h:s.all isD=true) (n:Nat):(s.take n).all isD=true:=by
 rw [List.all_eq_true] at h ⊢;exact fun x hx=>h x (List.mem_of_mem_take hx)
theorem all_drop {s:Bs} (h:s.all isD=true) (n:Nat):(s.drop n).all isD=true:=by
 rw [List.all_eq_true] at h ⊢;exact fun x hx=>h x (List.mem_of_mem_drop hx)
theorem last9_lt {s:Bs} (h:s.all isD=true):natOf (s.drop (s.length-9))<B9:=by
 have h1:=natOf_lt (all_drop h (s.length-9))
 have h2:(s.drop (s.length-9)).length≤9:=by rw [List.length_drop];omega
 have h3:10 ^ (s.drop (s.length-9)).length≤10 ^ 9:=Nat.pow_le_pow_right (by decide) h2
 exact Nat.lt_of_lt_of_le h1 h3
theorem natOf_split (s:Bs):natOf s=natOf (s.take (s.length-9))*B9+natOf (s.drop (s.length-9)):=by
 conv=>lhs;rw [← List.take_append_drop (s.length-9) s,natOf_append]
 by_cases h:9≤s.length
 ·rw [show (s.drop (s.length-9)).length=9 by rw [List.length_drop];omega];rfl
 ·rw [show s.length-9=0 by omega,List.take_zero,natOf_nil];simp
theorem groupsOf_gr (s:Bs) (hd:s.all isD=true) (hl:Lead s):groupsOf s=gr (natOf s):=by
 induction hn:s.length using Nat.strongRecOn generalizing s with
 |ind n ih =>
  subst hn
  by_cases h:s=[]
  ·subst h;rw [groupsOf_nil,natOf_nil,gr_zero]
  ·have hp:0<s.length:=List.length_pos_iff.2 h
   have hz:natOf s≠0:=fun e=>h ((natOf_zero hd hl).1 e)
   have h9:=last9_lt hd
   have hs:=natOf_split s
   rw [groupsOf_pos h,gr_pos hz,ih _ (by rw [List.length_take];omega) (s.take (s.length-9)) (all_take hd _) (lead_take hl _) rfl]
   congr 1
   ·rw [hs,Nat.add_comm,Nat.add_mul_mod_self_right,Nat.mod_eq_of_lt h9]
   ·rw [hs,Nat.add_comm,Nat.add_mul_div_right _ _ (by decide),Nat.div_eq_of_lt h9,Nat.zero_add]
theorem groups_step {s:Bs} {e:Nat} (h0:0<e) (he:e≤s.length):groupsOf (s.take e)=natOf ((s.take e).drop (e-9)) :: groupsOf (s.take (e-9)):=by
 have hl:(s.take e).length=e:=by rw [List.length_take];omega
 have hne:s.take e≠[]:=by intro h;rw [h] at hl;simp at hl;omega
 rw [groupsOf_pos hne,hl,List.take_take,Nat.min_eq_left (by omega)]
theorem parse_small (l:Bs) (hd:l.all isD=true) (h0:l≠[]) (hl:l.length≤9):Lib.parseUintB 64 l = .ok (natOf l):=by
 have key:∀ (l:Bs) (acc:Nat),l.all isD=true→acc*10 ^ l.length+10 ^ l.length≤1000000000→Lib.parseUintM (2 ^ 64-1) acc l = .ok (acc*10 ^ l.length+natOf l):=by
  intro l;induction l with
  |nil=>intro acc _ _;simp [Lib.parseUintM,natOf]
  |cons c r ih =>
   intro acc hd hb
   simp only [List.all_cons,Bool.and_eq_true] at hd
   have hc:=(isD_iff c).1 hd.1
   rw [List.length_cons,Nat.pow_succ] at hb
   have hp:1≤10 ^ r.length:=Nat.pow_pos (by decide)
   have hb2:(acc*10+(c.toNat-48))*10 ^ r.length+10 ^ r.length≤1000000000:=by
    have h1:(c.toNat-48+1)*10 ^ r.length≤10*10 ^ r.length:=Nat.mul_le_mul_right _ (by omega)
    rw [Nat.add_mul,Nat.one_mul] at h1
    rw [Nat.add_mul,Nat.mul_assoc]
    rw [Nat.mul_comm (10 ^ r.length) 10] at hb
    generalize 10 ^ r.length=q at *
    generalize acc*(10*q)=u at *
    generalize (c.toNat-48)*q=v at *
    omega
   have ha:acc≤1000000000:=by
    have:acc*1≤acc*(10 ^ r.length*10):=Nat.mul_le_mul_left _ (by omega)
    omega
   have e:natOf (c :: r)=(c.toNat-48)*10 ^ r.length+natOf r:=by
    have:=natOf_append [c] r
    rw [show natOf [c]=c.toNat-48 by simp [natOf,dval]] at this
    exact this
   unfold Lib.parseUintM
   rw [if_pos hc,if_neg (by omega),if_neg (by omega),ih _ hd.2 hb2,e,List.length_cons,Nat.pow_succ]
   congr 1
   rw [Nat.add_mul,Nat.mul_assoc,Nat.mul_comm 10 (10 ^ r.length)];omega
 unfold Lib.parseUintB
 rw [if_neg h0,key l 0 hd (by
  have:10 ^ l.length≤10 ^ 9:=Nat.pow_le_pow_right (by decide) hl
  omega)]
 simp
end
section
open Go.RowKit
def Ext (w w':World):Prop:=Below w.heap.size w w'
theorem Ext.refl (w:World):Ext w w:=Below.refl _ _
theorem Ext.trans {a b c:World} (h:Ext a b) (k:Ext b c):Ext a c:=Below.trans h (k.mono h.size)
theorem Ext.size {a b:World} (h:Ext a b):a.heap.size≤b.heap.size:=Below.size h
theorem Ext.alloc {a b:World} (h:Ext a b) (o:Obj):Ext a (b.alloc o):=Below.alloc h h.size o
theorem Ext.new (w:World) (o:Obj):Ext w (w.alloc o):=(Ext.refl w).alloc o
theorem Ext.drew {a b:World} (h:Ext a b):Ext a b.drew:=Below.drew h
theorem Ext.drewN {a b:World} (h:Ext a b) (n:Nat):Ext a (b.drewN n):=⟨h.os,h.tape,h.output,h.size,h.block⟩
theorem Ext.setCell {a b:World} (h:Ext a b) {p:Addr} (hp:a.heap.size≤p.block) (u:Value):Ext a (b.setCell p u):=Below.setCell h hp u
theorem Ext.of_alloc {w w':World} {o:Obj} (h:Ext (w.alloc o) w'):Ext w w':=(Ext.new w o).trans h
theorem Ext.cell {w w':World} (h:Ext w w') {p:Addr} (hp:p.block<w.heap.size):w'.cell? p=w.cell? p:=Below.cell h hp
def Reads (w:World) (size:Nat) (A:Option Addr) (n:Nat) (xs:List Value):Prop :=
 xs.length=n*size∧(0<n→∃ b o,A=some ⟨b,o,none⟩∧b<w.heap.size∧∀ j u,xs[j]? = some u→w.cell? ⟨b,o+j,none⟩=some u)
theorem Reads.nil {w:World} {size:Nat} {A:Option Addr}:Reads w size A 0 []:=⟨by simp,fun h=>absurd h (by omega)⟩
theorem Reads.ext {w w':World} {size n:Nat} {A:Option Addr} {xs:List Value} (h:Reads w size A n xs) (he:Ext w w'):Reads w' size A n xs :=
 ⟨h.1,fun hn=>by
  obtain ⟨b,o,e,hb,hc⟩:=h.2 hn
  exact ⟨b,o,e,Nat.lt_of_lt_of_le hb he.size,fun j u hu=>(he.cell (p:=⟨b,o+j,none⟩) hb).trans (hc j u hu)⟩⟩
theorem Reads.cell {w:World} {size n:Nat} {b o:Nat} {xs:List Value} (h:Reads w size (some ⟨b,o,none⟩) n xs) {j:Nat} {u:Value} (hu:xs[j]? = some u):w.cell? ⟨b,o+j,none⟩=some u:=by
 have hj:j<xs.length:=(List.getElem?_eq_some_iff.1 hu).1
 have hn:0<n:=by
  rcases Nat.eq_zero_or_pos n with h0 | h0
  ·have:=h.1;rw [h0] at this;omega
  ·exact h0
 obtain ⟨b',o',e,_,hc⟩:=h.2 hn
 injection e with e;injection e with e1 e2;subst e1;subst e2
 exact hc j u hu
theorem Reads.at_ {w:World} {size n:Nat} {A:Option Addr} {xs:List Value} (h:Reads w size A n xs) (hn:0<n):∃ b o,A=some ⟨b,o,none⟩∧b<w.heap.size:=by
 obtain ⟨b,o,e,hb,_⟩:=h.2 hn;exact ⟨b,o,e,hb⟩
theorem Reads.own {w:World} {base:Nat} {e:TypeId} {size n c:Nat} {A:Option Addr} {xs:List Value} (h:w.ownsRow base e size (.slice A n c) n xs):Reads w size A n xs:=by
 refine ⟨h.1,fun hn=>?_⟩
 obtain ⟨g,cap,hv,_,hlt⟩:=h.form hn
 have hA:A=some ⟨g,0,none⟩:=by injection hv
 subst hA
 refine ⟨g,0,rfl,hlt,fun j u hu=>?_⟩
 have:=h.cells (g:=g) rfl j u hu
 unfold Addr.add at this
 rcases Nat.eq_zero_or_pos j with h0 | h0
 ·subst h0;simpa using this
 ·rw [if_neg (by omega)] at this;exact this
theorem Reads.lit {w:World} {t:TypeId} {size n:Nat} {xs:List Value} (hl:xs.length=n*size):Reads (w.alloc (.cells xs.toArray t)) size (some ⟨w.heap.size,0,none⟩) n xs :=
 ⟨hl,fun _=>⟨w.heap.size,0,rfl,by simp,fun j u hu=>by
  have:=World.cell?_alloc_new w xs.toArray t j
  simp only [Nat.zero_add]
  rw [this];simpa using hu⟩⟩
theorem conv_bytes {P:Program} (w:World) (src dst e:TypeId) (l:Bs) {u:TypeDesc} (hs:P.underlying src=some u) (hd:P.underlying dst=some (.slice e)) (he:P.underlying e=some (.int .u8)) :
  ∃ cap w1,(convert src dst (.string (bs l))).run P w = .ok (.slice (some ⟨w.heap.size,0,none⟩) l.length cap) w1∧Ext w w1∧w1.heap.size=w.heap.size+1 ∧
    ∀ (j:Nat) (h:j<l.length),w1.cell? ⟨w.heap.size,j,none⟩=some (.int .u8 (l[j]'h).toNat):=by
 refine ⟨grownCap w (bs l).size 0 e,Lib.bytesWorld w e (bs l),?_,?_,Lib.bytesWorld_size w e (bs l),fun j h=>?_⟩
 ·have:=Lib.run_convert_string_bytes (P:=P) w src dst e (bs l) hs hd he
  rw [this,size_bs]
 ·exact ⟨rfl,rfl,rfl,by rw [Lib.bytesWorld_size];omega,fun k hk=>Lib.bytesWorld_at_old w e (bs l) k hk⟩
 ·rw [Lib.bytesWorld_cell w e (bs l) j (by rw [size_bs];exact h),data_bs,List.getD_eq_getElem?_getD,List.getElem?_eq_getElem h];rfl
end
end Go.Proofs.YthgpheopnhajaaaGreatDoor
