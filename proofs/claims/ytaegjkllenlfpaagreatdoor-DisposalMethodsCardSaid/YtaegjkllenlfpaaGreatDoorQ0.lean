/- The seat's texts, part Q0. -/
import Derived.WalkKit
import Derived.WalkSpells
import Derived.WalkLawsBesides
import Derived.Lib.Hide
import Derived.Lib.Strings
import Derived.Deep.DeepCutAuto
import Derived.Deep.CutBlock
import Derived.Deep.QuietTactic
import Derived.BigQuiet
import Derived.RegionTactic
import Derived.Deep.DeepFit
import Derived.Deep.LoopGhost
import Derived.Outline
import Derived.Lib.ParseIntB
import Derived.Lib.ItoaNum
import Derived.Lib.AtoiAll
import Derived.Deep.Draws
import Derived.Deep.AppendLies
import Derived.WalkSmall
import Derived.Lib.ConvBytes
import Derived.Laws.BytesArg
set_option maxRecDepth 100000
set_option maxHeartbeats 8000000
namespace Go.Proofs.YtaegjkllenlfpaaGreatDoor
theorem qh{p:Prop}(h:p):Go.RowKit.Hid p:=h
section
open Go.RowKit
abbrev Bs:=List UInt8
def bs(l:Bs):ByteArray:=⟨l.toArray⟩
def L(s:ByteArray):Bs:=s.data.toList
theorem bs_L(s:ByteArray):bs (L s)=s:=Lib.mk_data s
theorem data_bs(l:Bs):(bs l).data.toList=l:=by simp[bs]
theorem size_bs(l:Bs):(bs l).size=l.length:=by rw[Lib.size_eq,data_bs]
theorem toList_bs(l:Bs):(bs l).toList=l:=by rw[Lib.toList_data,data_bs]
theorem extract_bs(l:Bs)(a b:Nat):(bs l).extract a b=bs ((l.drop a).take (b-a)):=by rw[Lib.extract_eq,data_bs];rfl
theorem get_bs(l:Bs)(i:Nat)(h:i<(bs l).size):(bs l)[i]=l[i]'(by rw[size_bs]at h;exact h):=by
 simp[bs];rfl
theorem append_bs(a b:Bs):bs a++bs b=bs (a++b):=by
 apply ByteArray.ext;simp[bs]
theorem lit_append(a:Array UInt8)(l:Bs):(⟨a⟩:ByteArray)++bs l=bs (a.toList++l):=by
 apply ByteArray.ext;simp[bs]
theorem append_lit(a:Array UInt8)(l:Bs):bs l++(⟨a⟩:ByteArray)=bs (l++a.toList):=by
 apply ByteArray.ext;simp[bs]
theorem byte_ne{c d:UInt8}(h:c≠d):((c.toNat:Int) == (d.toNat:Int))=false:=by
 rw[beq_eq_false_iff_ne];intro e;exact h (UInt8.toNat_inj.1 (by omega))
def isD(c:UInt8):Bool:=decide (48<=c.toNat) && decide (c.toNat<=57)
def isMin(l:Bs):Bool:=match l with | []=>false|c :: _=>c == 45
def strip(l:Bs):Bs:=if isMin l then l.tail else l
def noZeros:Bs->Bs | []=>[]|c :: r=>if c == 48 then noZeros r else c :: r
def magT(t:Bs):Bs:=if t.all isD then noZeros t else []
def negT(b:Bool)(t:Bs):Bool:=b && !(magT t).isEmpty
def mag(l:Bs):Bs:=magT (strip l)
def neg(l:Bs):Bool:=negT (isMin l) (strip l)
def canon(l:Bs):Bs:=if neg l then 45 :: mag l else mag l
def checkI(l:Bs):Int:=if canon l=l then 0 else 1
def printI(l:Bs):Bs:=if canon l=[] then [48] else canon l
theorem noZeros_le(l:Bs):(noZeros l).length<=l.length:=by
 induction l with
 |nil=>simp[noZeros]
 |cons c r ih=>unfold noZeros;split <;> simp <;> omega
theorem strip_le(l:Bs):(strip l).length<=l.length:=by unfold strip;split <;> simp
theorem mag_le(l:Bs):(mag l).length<=l.length:=by
 unfold mag magT;split
 ·exact Nat.le_trans (noZeros_le _) (strip_le _)
 ·simp
theorem magT_good(t:Bs)(h:t.all isD=true):magT t=noZeros t:=by unfold magT;rw[if_pos h]
def isN(c:UInt8):Bool:=(decide (97<=c.toNat) && decide (c.toNat<=122)) || (decide (48<=c.toNat) && decide (c.toNat<=57)) || decide (c.toNat=95)
def isName(l:Bs):Bool:=decide (1<=l.length) && decide (l.length<=16) && l.all isN
theorem isName_bad(l:Bs)(k:Nat)(hk:k<l.length)(h:isN (l[k]'hk)=false):isName l=false:=by
 have:l.all isN=false:=by rw[List.all_eq_false];exact⟨_,List.getElem_mem hk,by simp[h]⟩
 simp[isName,this]
theorem takeN_succ(l:Bs)(k:Nat)(hk:k<l.length)(h:(l.take k).all isN=true)(hc:isN (l[k]'hk)=true):(l.take (k+1)).all isN=true:=by
 rw[List.take_succ_eq_append_getElem hk,List.all_append,h];simp[hc]
theorem isName_good(l:Bs)(k:Nat)(hk:¬ k<l.length)(h:(l.take k).all isN=true)(h1:1<=l.length)(h2:l.length<=16):isName l=true:=by
 rw[List.take_of_length_le (by omega)]at h;unfold isName;rw[h];simp[h1,h2]
theorem isN_good{c:UInt8}(h:((97<=(c.toNat:Int)∧(c.toNat:Int)<=122)∨(48<=(c.toNat:Int)∧(c.toNat:Int)<=57))∨(95<=(c.toNat:Int)∧(c.toNat:Int)<=95)):isN c=true:=by
 unfold isN;rcases h with (h|h)|h
 ·have h1:97<=c.toNat:=by omega
  have h2:c.toNat<=122:=by omega
  simp[h1,h2]
 ·have h1:48<=c.toNat:=by omega
  have h2:c.toNat<=57:=by omega
  simp[h1,h2]
 ·have h1:c.toNat=95:=by omega
  simp[h1]
theorem isN_bad{c:UInt8}(h:¬ (((97<=(c.toNat:Int)∧(c.toNat:Int)<=122)∨(48<=(c.toNat:Int)∧(c.toNat:Int)<=57))∨(95<=(c.toNat:Int)∧(c.toNat:Int)<=95))):isN c=false:=by
 cases hn:isN c with
 |false=>rfl
 |true =>
  exfalso;apply h;unfold isN at hn
  simp only[Bool.or_eq_true,Bool.and_eq_true,decide_eq_true_eq]at hn;omega
def gb(c:UInt8):Int:=if 48<=c.toNat then(c.toNat:Int)-48 else(c.toNat:Int)+208
theorem isD_iff(c:UInt8):isD c=true↔48<=c.toNat∧c.toNat<=57:=by simp[isD]
theorem noZeros_all{l:Bs}(h:l.all isD=true):(noZeros l).all isD=true:=by
 induction l with
 |nil=>rfl
 |cons c r ih =>
  unfold noZeros;split
  ·exact ih (by simp only[List.all_cons,Bool.and_eq_true]at h;exact h.2)
  ·exact h
theorem magT_all(l:Bs):(magT l).all isD=true:=by
 unfold magT;split
 ·exact noZeros_all (by assumption)
 ·rfl
theorem dig_of(n:Nat)(h:n<10):isD (UInt8.ofNat (48+n))=true∧gb (UInt8.ofNat (48+n))=n:=by
 have e:(UInt8.ofNat (48+n)).toNat=48+n:=UInt8.toNat_ofNat_of_lt' (by show _<256;omega);refine⟨(isD_iff _).2 (by omega),?_⟩;unfold gb;rw[if_pos (by omega)];omega
theorem snocInd{α:Type}{P:List α->Prop}(h0:P [])(h1:∀l a,P l->P (l++[a]))(l:List α):P l:=by
 have key:∀q:List α,P q.reverse:=by
  intro q;induction q with
  |nil=>exact h0
  |cons a r ih=>rw[List.reverse_cons];exact h1 _ _ ih
 have:=key l.reverse;rwa[List.reverse_reverse]at this
def dval(c:UInt8):Nat:=c.toNat-48
def natOf(l:Bs):Nat:=l.foldl (fun n c=>10*n+dval c) 0
theorem natOf_nil:natOf []=0:=rfl
theorem natOf_snoc(l:Bs)(c:UInt8):natOf (l++[c])=10*natOf l+dval c:=by simp[natOf]
theorem natOf_append(a b:Bs):natOf (a++b)=natOf a*10 ^ b.length+natOf b:=by
 induction b using snocInd with
 |h0=>simp[natOf]
 |h1 b c ih =>
  rw[←List.append_assoc,natOf_snoc,ih,natOf_snoc,List.length_append,List.length_singleton,Nat.pow_succ];generalize 10 ^ b.length=q;generalize natOf a=x;generalize natOf b=y;rw[Nat.mul_add,←Nat.mul_assoc,Nat.mul_comm 10 x,Nat.mul_assoc x 10 q,Nat.mul_comm 10 q];omega
theorem dval_lt{c:UInt8}(h:isD c=true):dval c<10:=by have:=(isD_iff c).1 h;unfold dval;omega
theorem natOf_lt{l:Bs}(h:l.all isD=true):natOf l<10 ^ l.length:=by
 induction l using snocInd with
 |h0=>simp[natOf]
 |h1 l c ih =>
  rw[List.all_append,Bool.and_eq_true]at h;have h1:=ih h.1;have h2:=dval_lt (c:=c) (by simpa using h.2);rw[natOf_snoc,List.length_append,List.length_singleton,Nat.pow_succ];omega
def dig10(n:Nat):Bs:=if _h:n=0 then [] else dig10 (n / 10)++[UInt8.ofNat (48+n % 10)]
termination_by n
decreasing_by omega
theorem dig10_zero:dig10 0=[]:=by rw[dig10];rfl
theorem dig10_pos{n:Nat}(h:n≠0):dig10 n=dig10 (n / 10)++[UInt8.ofNat (48+n % 10)]:=by rw[dig10,dif_neg h]
theorem dval_dig{n:Nat}(h:n<10):dval (UInt8.ofNat (48+n))=n:=by
 unfold dval;rw[UInt8.toNat_ofNat_of_lt' (by show _<256;omega)];omega
theorem natOf_dig10(n:Nat):natOf (dig10 n)=n:=by
 induction n using Nat.strongRecOn with
 |ind n ih =>
  by_cases h:n=0
  ·subst h;rw[dig10_zero];rfl
  ·rw[dig10_pos h,natOf_snoc,ih (n / 10) (by omega),dval_dig (Nat.mod_lt _ (by decide))];omega
theorem dig10_all(n:Nat):(dig10 n).all isD=true:=by
 induction n using Nat.strongRecOn with
 |ind n ih =>
  by_cases h:n=0
  ·subst h;rw[dig10_zero];rfl
  ·rw[dig10_pos h,List.all_append,ih (n / 10) (by omega)];simp only[List.all_cons,List.all_nil,Bool.and_true,Bool.true_and];exact(dig_of _ (Nat.mod_lt _ (by decide))).1
theorem dig10_ne{n:Nat}(h:n≠0):dig10 n≠[]:=by rw[dig10_pos h];simp
def Lead(l:Bs):Prop:=∀c r,l=c :: r->c≠48
theorem noZeros_lead(l:Bs):Lead (noZeros l):=by
 induction l with
 |nil=>intro c r h;cases h
 |cons x q ih =>
  by_cases hx:(x == 48)=true
  ·have e:noZeros (x :: q)=noZeros q:=by simp only[noZeros];rw[if_pos hx]
   rw[e];exact ih
  ·have e:noZeros (x :: q)=x :: q:=by simp only[noZeros];rw[if_neg hx]
   rw[e];intro c r h;injection h with h1 h2;subst h1;simpa using hx
theorem mag_lead(l:Bs):Lead (mag l):=by
 show Lead (magT (strip l));unfold magT;split
 ·exact noZeros_lead _
 ·intro c r h;cases h
theorem mag_all(l:Bs):(mag l).all isD=true:=magT_all _
theorem lead_pos{c:UInt8}{r:Bs}(hd:(c :: r).all isD=true)(h:Lead (c :: r)):10 ^ r.length<=natOf (c :: r):=by
 have hc:=h c r rfl;have h1:isD c=true:=by simp only[List.all_cons,Bool.and_eq_true]at hd;exact hd.1
 have h2:=(isD_iff c).1 h1
 have h3:1<=dval c:=by
  unfold dval;have:c.toNat≠48:=fun e=>hc (UInt8.toNat_inj.1 (by rw[e];rfl))
  omega
 have e:natOf (c :: r)=natOf [c]*10 ^ r.length+natOf r:=natOf_append [c] r;have e2:natOf [c]=dval c:=by simp[natOf]
 rw[e,e2];have:1*10 ^ r.length<=dval c*10 ^ r.length:=Nat.mul_le_mul_right _ h3;omega
theorem natOf_zero{l:Bs}(hd:l.all isD=true)(h:Lead l):natOf l=0↔l=[]:=by
 constructor
 ·intro h0
  cases l with
  |nil=>rfl
  |cons c r =>
   have:=lead_pos hd h;have hp:0<10 ^ r.length:=Nat.pow_pos (by decide);omega
 ·rintro rfl;rfl
theorem lead_init{l:Bs}{c:UInt8}(h:Lead (l++[c]))(hl:l≠[]):Lead l:=by
 intro x r e;subst e;exact h x (r++[c]) rfl
theorem dig10_natOf{l:Bs}(hd:l.all isD=true)(h:Lead l):dig10 (natOf l)=l:=by
 induction l using snocInd with
 |h0=>rw[natOf_nil,dig10_zero]
 |h1 l c ih =>
  have hd':=hd;rw[List.all_append,Bool.and_eq_true]at hd;have hc:isD c=true:=by simpa using hd.2
  have hc2:=dval_lt hc
  have hz:natOf (l++[c])≠0:=by
   rw[Ne,natOf_zero hd' h];simp
  have e:UInt8.ofNat (48+dval c)=c:=by
   have:=(isD_iff c).1 hc;apply UInt8.toNat_inj.1;rw[UInt8.toNat_ofNat_of_lt' (by show _<256;unfold dval;omega)];unfold dval;omega
  rw[dig10_pos hz,natOf_snoc,show(10*natOf l+dval c) / 10=natOf l by omega,show(10*natOf l+dval c) % 10=dval c by omega,e];congr 1
  by_cases hl:l=[]
  ·subst hl;rw[natOf_nil,dig10_zero]
  ·exact ih hd.1 (lead_init h hl)
def valI(l:Bs):Int:=if neg l then -(natOf (mag l):Int) else natOf (mag l)
def ofI(z:Int):Bs:=if z<0 then 45 :: dig10 z.natAbs else dig10 z.natAbs
theorem neg_mag{l:Bs}(h:neg l=true):natOf (mag l)≠0:=by
 rw[Ne,natOf_zero (mag_all l) (mag_lead l)];intro e;have:neg l=(isMin l && !(mag l).isEmpty):=rfl;rw[this,e]at h;simp at h
theorem canon_ofI(l:Bs):canon l=ofI (valI l):=by
 unfold canon ofI valI;by_cases h:neg l=true
 ·have h0:=neg_mag h;rw[if_pos h,if_pos h,if_pos (by omega),show(-(natOf (mag l):Int)).natAbs=natOf (mag l) by omega,dig10_natOf (mag_all l) (mag_lead l)]
 ·rw[if_neg h,if_neg h,if_neg (by omega),show((natOf (mag l):Int)).natAbs=natOf (mag l) by omega,dig10_natOf (mag_all l) (mag_lead l)]
def B9:Nat:=1000000000
def gr(n:Nat):List Nat:=if _h:n=0 then [] else(n % B9) :: gr (n / B9)
termination_by n
decreasing_by exact Nat.div_lt_self (by omega) (by decide)
theorem gr_zero:gr 0=[]:=by rw[gr];rfl
theorem gr_pos{n:Nat}(h:n≠0):gr n=(n % B9) :: gr (n / B9):=by rw[gr,dif_neg h]
def gval:List Nat->Nat | []=>0|g :: r=>g+B9*gval r
theorem gval_gr(n:Nat):gval (gr n)=n:=by
 induction n using Nat.strongRecOn with
 |ind n ih =>
  by_cases h:n=0
  ·subst h;rw[gr_zero];rfl
  ·rw[gr_pos h];unfold gval;rw[ih (n / B9) (Nat.div_lt_self (by omega) (by decide))];exact Nat.mod_add_div n B9
theorem gr_lt(n:Nat):∀g ∈ gr n,g<B9:=by
 induction n using Nat.strongRecOn with
 |ind n ih =>
  by_cases h:n=0
  ·subst h;rw[gr_zero];simp
  ·rw[gr_pos h];intro g hg;rcases List.mem_cons.1 hg with rfl|hg
   ·exact Nat.mod_lt _ (by decide)
   ·exact ih (n / B9) (Nat.div_lt_self (by omega) (by decide)) g hg
def Top(l:List Nat):Prop:=∀r g,l=r++[g]->g≠0
theorem gr_gval{l:List Nat}(hb:∀g ∈ l,g<B9)(ht:Top l):gr (gval l)=l:=by
 induction l with
 |nil=>exact gr_zero
 |cons g r ih =>
  have hg:=hb g (by simp)
  have hne:gval (g :: r)≠0:=by
   intro e
   have:∀(q:List Nat),gval q=0->∀x ∈ q,x=0:=by
    intro q;induction q with
    |nil=>intro _ x hx;cases hx
    |cons y s ihs =>
     intro h x hx;have h1:y=0:=by unfold gval at h;omega
     have h2:gval s=0:=by
      unfold gval at h;have:B9*gval s=0:=by omega
      rcases Nat.mul_eq_zero.1 this with h|h
      ·exact absurd h (by decide)
      ·exact h
     rcases List.mem_cons.1 hx with rfl|hx
     ·exact h1
     ·exact ihs h2 x hx
   have hall:=this _ e
   obtain⟨q,x,hq⟩:∃q x,g :: r=q++[x]:=by
    rcases List.eq_nil_or_concat (g :: r) with h | ⟨q,x,h⟩
    ·cases h
    ·exact⟨q,x,by simpa using h⟩
   exact ht q x hq (hall x (by rw[hq];simp))
  rw[gr_pos hne];have eg:gval (g :: r)=g+B9*gval r:=rfl;have e1:gval (g :: r) % B9=g:=by rw[eg];rw[Nat.add_mul_mod_self_left];exact Nat.mod_eq_of_lt hg
  have e2:gval (g :: r) / B9=gval r:=by rw[eg];rw[Nat.add_mul_div_left _ _ (by decide),Nat.div_eq_of_lt hg,Nat.zero_add]
  rw[e1,e2,ih (fun x hx=>hb x (by simp[hx])) (fun q x hq=>ht (g :: q) x (by rw[hq];rfl))]
theorem gr_top(n:Nat):Top (gr n):=by
 induction n using Nat.strongRecOn with
 |ind n ih =>
  by_cases h:n=0
  ·subst h;rw[gr_zero];intro r g e;simp at e
  ·rw[gr_pos h];intro r g e
   cases r with
   |nil =>
    simp only[List.nil_append,List.cons.injEq]at e
    have hz:n / B9=0:=by
     by_cases h0:n / B9=0
     ·exact h0
     ·rw[gr_pos h0]at e;cases e.2
    have:=Nat.mod_add_div n B9;rw[hz]at this;rw[←e.1];omega
   |cons y q =>
    simp only[List.cons_append,List.cons.injEq]at e;exact ih (n / B9) (Nat.div_lt_self (by omega) (by decide)) q g e.2
def at0(l:List Nat)(k:Nat):Nat:=l.getD k 0
theorem at0_lt{l:List Nat}{k:Nat}(h:k<l.length):at0 l k=l[k]:=by simp[at0,h]
theorem at0_ge{l:List Nat}{k:Nat}(h:l.length<=k):at0 l k=0:=by simp[at0,List.getElem?_eq_none h]
theorem at0_bd{l:List Nat}(hb:∀g ∈ l,g<B9)(k:Nat):at0 l k<B9:=by
 rcases Nat.lt_or_ge k l.length with h|h
 ·rw[at0_lt h];exact hb _ (List.getElem_mem h)
 ·rw[at0_ge h];decide
def gsum(f:Nat->Nat):Nat->Nat | 0=>0|L+1=>gsum f L+f L*B9 ^ L
theorem gsum_shift(f:Nat->Nat)(L:Nat):gsum f (L+1)=f 0+B9*gsum (fun k=>f (k+1)) L:=by
 induction L with
 |zero=>simp[gsum]
 |succ L ih =>
  rw[show gsum f (L+1+1)=gsum f (L+1)+f (L+1)*B9 ^ (L+1) from rfl,ih,show gsum (fun k=>f (k+1)) (L+1)=gsum (fun k=>f (k+1)) L+f (L+1)*B9 ^ L from rfl,Nat.mul_add,Nat.pow_succ,Nat.add_assoc];congr 2
  rw[←Nat.mul_assoc,Nat.mul_comm (f (L+1)*B9 ^ L) B9]
theorem gval_gsum:∀(l:List Nat) (L:Nat),l.length<=L->gval l=gsum (at0 l) L
 |[],L,_=>by
  have:∀L,gsum (at0 []) L=0:=by
   intro L;induction L with
   |zero=>rfl
   |succ L ih=>unfold gsum;rw[ih,at0_ge (by simp)];simp
  rw[this];rfl
 |g :: r,0,h=>by simp at h
 |g :: r,L+1,h=>by
  rw[gsum_shift];have e:(fun k=>at0 (g :: r) (k+1))=at0 r:=by funext k;simp[at0]
  rw[e,←gval_gsum r L (by simpa using h)];rfl
theorem gsum_congr{f g:Nat->Nat}{L:Nat}(h:∀k,k<L->f k=g k):gsum f L=gsum g L:=by
 induction L with
 |zero=>rfl
 |succ L ih=>unfold gsum;rw[ih (fun k hk=>h k (by omega)),h L (by omega)]
theorem gsum_lt{f:Nat->Nat}(hb:∀k,f k<B9)(L:Nat):gsum f L<B9 ^ L:=by
 induction L with
 |zero=>simp[gsum]
 |succ L ih =>
  unfold gsum;rw[Nat.pow_succ];have h1:f L*B9 ^ L<=(B9-1)*B9 ^ L:=Nat.mul_le_mul_right _ (by have:=hb L;omega);generalize B9 ^ L=q at *
  have h2:q*B9=q+(B9-1)*q:=by
   have e:B9=1000000000:=rfl;rw[e];omega
  omega
theorem gval_range(f:Nat->Nat)(L:Nat):gval ((List.range L).map f)=gsum f L:=by
 rw[gval_gsum _ L (by simp)];apply gsum_congr;intro k hk;rw[at0_lt (by simpa using hk)];simp
def cy(a b:Nat->Nat):Nat->Nat | 0=>0|k+1=>(a k+b k+cy a b k) / B9
def pl(a b:Nat->Nat)(k:Nat):Nat:=(a k+b k+cy a b k) % B9
theorem pl_lt(a b:Nat->Nat)(k:Nat):pl a b k<B9:=Nat.mod_lt _ (by decide)
theorem cy_le{a b:Nat->Nat}(ha:∀k,a k<B9)(hb:∀k,b k<B9)(k:Nat):cy a b k<=1:=by
 induction k with
 |zero=>simp[cy]
 |succ k ih =>
  unfold cy;have h1:=ha k;have h2:=hb k;have e:B9=1000000000:=rfl;rw[e]at h1 h2 ⊢;omega
theorem plus_sum(a b:Nat->Nat)(L:Nat):gsum (pl a b) L+cy a b L*B9 ^ L=gsum a L+gsum b L:=by
 induction L with
 |zero=>simp[gsum,cy]
 |succ L ih =>
  have e1:gsum (pl a b) (L+1)=gsum (pl a b) L+pl a b L*B9 ^ L:=rfl;have e2:gsum a (L+1)=gsum a L+a L*B9 ^ L:=rfl;have e3:gsum b (L+1)=gsum b L+b L*B9 ^ L:=rfl;have e4:cy a b (L+1)=(a L+b L+cy a b L) / B9:=rfl;have e5:pl a b L=(a L+b L+cy a b L) % B9:=rfl;have h:=Nat.mod_add_div (a L+b L+cy a b L) B9;rw[←e4,←e5]at h;rw[e1,e2,e3,Nat.pow_succ];generalize cy a b (L+1)=c' at *;generalize cy a b L=c at *;generalize pl a b L=p at *;generalize B9 ^ L=q at *;have h2:(p+B9*c')*q=(a L+b L+c)*q:=by rw[h]
  rw[Nat.add_mul,Nat.add_mul,Nat.add_mul]at h2;have h3:B9*c'*q=c'*(q*B9):=by rw[Nat.mul_comm B9 c',Nat.mul_assoc,Nat.mul_comm B9 q]
  rw[h3]at h2;omega
def bw(a b:Nat->Nat):Nat->Nat | 0=>0|k+1=>if a k<b k+bw a b k then 1 else 0
def mi(a b:Nat->Nat)(k:Nat):Nat:=if a k<b k+bw a b k then a k+B9-(b k+bw a b k) else a k-(b k+bw a b k)
theorem bw_le(a b:Nat->Nat)(k:Nat):bw a b k<=1:=by
 cases k with
 |zero=>simp[bw]
 |succ k=>unfold bw;split <;> omega
theorem mi_lt{a b:Nat->Nat}(ha:∀k,a k<B9)(hb:∀k,b k<B9)(k:Nat):mi a b k<B9:=by
 have h1:=ha k;have h2:=hb k;have h3:=bw_le a b k;unfold mi;split <;> omega
theorem minus_sum{a b:Nat->Nat}(ha:∀k,a k<B9)(hb:∀k,b k<B9)(L:Nat):gsum (mi a b) L+gsum b L=gsum a L+bw a b L*B9 ^ L:=by
 induction L with
 |zero=>simp[gsum,bw]
 |succ L ih =>
  have e1:gsum (mi a b) (L+1)=gsum (mi a b) L+mi a b L*B9 ^ L:=rfl;have e2:gsum a (L+1)=gsum a L+a L*B9 ^ L:=rfl;have e3:gsum b (L+1)=gsum b L+b L*B9 ^ L:=rfl;have h1:=ha L;have h2:=hb L;have h3:=bw_le a b L
  have key:mi a b L+(b L+bw a b L)=a L+bw a b (L+1)*B9:=by
   have e4:bw a b (L+1)=if a L<b L+bw a b L then 1 else 0:=rfl;rw[e4];unfold mi;split
   ·omega
   ·omega
  rw[e1,e2,e3,Nat.pow_succ];generalize bw a b (L+1)=c' at *;generalize bw a b L=c at *;generalize mi a b L=p at *;generalize B9 ^ L=q at *;have h4:(p+(b L+c))*q=(a L+c'*B9)*q:=by rw[key]
  rw[Nat.add_mul,Nat.add_mul,Nat.add_mul]at h4;have h5:c'*B9*q=c'*(q*B9):=by rw[Nat.mul_assoc,Nat.mul_comm B9 q]
  rw[h5]at h4;omega
theorem bw_zero{a b:Nat->Nat}(ha:∀k,a k<B9)(hb:∀k,b k<B9){L:Nat}(h:gsum b L<=gsum a L):bw a b L=0:=by
 have h1:=minus_sum ha hb L;have h2:=gsum_lt (mi_lt ha hb) L;have h3:=bw_le a b L;rcases Nat.eq_zero_or_pos (bw a b L) with h0|h0
 ·exact h0
 ·have:bw a b L=1:=by omega
  rw[this,Nat.one_mul]at h1;omega
theorem minus_val{a b:Nat->Nat}(ha:∀k,a k<B9)(hb:∀k,b k<B9){L:Nat}(h:gsum b L<=gsum a L):gsum (mi a b) L=gsum a L-gsum b L:=by
 have h1:=minus_sum ha hb L;rw[bw_zero ha hb h]at h1;omega
theorem gsum_less{a b:Nat->Nat}(ha:∀k,a k<B9)(k:Nat)(h:a k<b k):∀(L:Nat),k<L->(∀j,k<j->j<L->a j=b j)->gsum a L<gsum b L
 |0,hk,_=>by omega
 |L+1,hk,he=>by
  unfold gsum;rcases Nat.lt_or_ge k L with h1|h1
  ·have:=gsum_less ha k h L h1 (fun j hj hl=>he j hj (by omega));rw[he L h1 (by omega)];omega
  ·obtain rfl:k=L:=by omega
   have h2:=gsum_lt ha k;have h3:(a k+1)*B9 ^ k<=b k*B9 ^ k:=Nat.mul_le_mul_right _ h;rw[Nat.add_mul,Nat.one_mul]at h3;omega
def cutL(l:List Nat):List Nat:=(l.reverse.dropWhile (· == 0)).reverse
theorem cutL_snoc_zero(l:List Nat):cutL (l++[0])=cutL l:=by simp[cutL]
theorem cutL_snoc(l:List Nat){g:Nat}(h:g≠0):cutL (l++[g])=l++[g]:=by simp[cutL,h]
theorem gval_snoc(l:List Nat)(g:Nat):gval (l++[g])=gval l+g*B9 ^ l.length:=by
 induction l with
 |nil=>simp[gval]
 |cons a r ih =>
  have e1:gval ((a :: r)++[g])=a+B9*gval (r++[g]):=rfl;have e2:gval (a :: r)=a+B9*gval r:=rfl;rw[e1,e2,ih,Nat.mul_add,List.length_cons,Nat.pow_succ,Nat.add_assoc];congr 2
  rw[Nat.mul_left_comm,Nat.mul_comm (B9 ^ r.length) B9]
theorem cutL_gr{l:List Nat}(hb:∀g ∈ l,g<B9):cutL l=gr (gval l):=by
 induction l using snocInd with
 |h0=>rw[show gval []=0 from rfl,gr_zero];rfl
 |h1 l g ih =>
  by_cases h:g=0
  ·subst h;rw[cutL_snoc_zero,gval_snoc,Nat.zero_mul,Nat.add_zero];exact ih (fun x hx=>hb x (by simp[hx]))
  ·rw[cutL_snoc l h,gr_gval hb];intro r x e;have:=List.append_inj' e rfl;simp at this;rw[←this.2];exact h
theorem gr_len_le{n L:Nat}(h:n<B9 ^ L):(gr n).length<=L:=by
 induction L generalizing n with
 |zero=>have:n=0:=by simpa using h
        subst this;rw[gr_zero];simp
 |succ L ih =>
  by_cases h0:n=0
  ·subst h0;rw[gr_zero];simp
  ·rw[gr_pos h0,List.length_cons]
   have:n / B9<B9 ^ L:=by
    rw[Nat.div_lt_iff_lt_mul (by decide)];rw[Nat.pow_succ]at h;exact h
   have:=ih this;omega
def groupsOf(s:Bs):List Nat:=if h:s=[] then [] else natOf (s.drop (s.length-9)) :: groupsOf (s.take (s.length-9))
termination_by s.length
decreasing_by
 have:0<s.length:=List.length_pos_iff.2 h;rw[List.length_take];omega
theorem groupsOf_nil:groupsOf []=[]:=by rw[groupsOf];rfl
theorem groupsOf_pos{s:Bs}(h:s≠[]):groupsOf s=natOf (s.drop (s.length-9)) :: groupsOf (s.take (s.length-9)):=by rw[groupsOf,dif_neg h]
theorem groupsOf_len(s:Bs):(groupsOf s).length<=s.length:=by
 induction hn:s.length using Nat.strongRecOn generalizing s with
 |ind n ih =>
  subst hn;by_cases h:s=[]
  ·subst h;rw[groupsOf_nil];simp
  ·have hp:0<s.length:=List.length_pos_iff.2 h;have:=ih (s.take (s.length-9)).length (by rw[List.length_take];omega) (s.take (s.length-9)) rfl;rw[List.length_take]at this
   rw[groupsOf_pos h,List.length_cons];omega
theorem lead_take{s:Bs}(h:Lead s)(n:Nat):Lead (s.take n):=by
 intro c r e
 cases s with
 |nil=>simp at e
 |cons x q =>
  cases n with
  |zero=>simp at e
  |succ n=>rw[List.take_succ_cons]at e;injection e with e1 e2;subst e1;exact h x q rfl
theorem all_take{s:Bs}(h:s.all isD=true)(n:Nat):(s.take n).all isD=true:=by
 rw[List.all_eq_true]at h ⊢;exact fun x hx=>h x (List.mem_of_mem_take hx)
theorem all_drop{s:Bs}(h:s.all isD=true)(n:Nat):(s.drop n).all isD=true:=by
 rw[List.all_eq_true]at h ⊢;exact fun x hx=>h x (List.mem_of_mem_drop hx)
theorem last9_lt{s:Bs}(h:s.all isD=true):natOf (s.drop (s.length-9))<B9:=by
 have h1:=natOf_lt (all_drop h (s.length-9));have h2:(s.drop (s.length-9)).length<=9:=by rw[List.length_drop];omega
 have h3:10 ^ (s.drop (s.length-9)).length<=10 ^ 9:=Nat.pow_le_pow_right (by decide) h2;exact Nat.lt_of_lt_of_le h1 h3
theorem natOf_split(s:Bs):natOf s=natOf (s.take (s.length-9))*B9+natOf (s.drop (s.length-9)):=by
 conv=>lhs;rw[←List.take_append_drop (s.length-9) s,natOf_append]
 by_cases h:9<=s.length
 ·rw[show(s.drop (s.length-9)).length=9 by rw[List.length_drop];omega];rfl
 ·rw[show s.length-9=0 by omega,List.take_zero,natOf_nil];simp
theorem groupsOf_gr(s:Bs)(hd:s.all isD=true)(hl:Lead s):groupsOf s=gr (natOf s):=by
 induction hn:s.length using Nat.strongRecOn generalizing s with
 |ind n ih =>
  subst hn;by_cases h:s=[]
  ·subst h;rw[groupsOf_nil,natOf_nil,gr_zero]
  ·have hp:0<s.length:=List.length_pos_iff.2 h;have hz:natOf s≠0:=fun e=>h ((natOf_zero hd hl).1 e)
   have h9:=last9_lt hd;have hs:=natOf_split s;rw[groupsOf_pos h,gr_pos hz,ih _ (by rw[List.length_take];omega) (s.take (s.length-9)) (all_take hd _) (lead_take hl _) rfl];congr 1
   ·rw[hs,Nat.add_comm,Nat.add_mul_mod_self_right,Nat.mod_eq_of_lt h9]
   ·rw[hs,Nat.add_comm,Nat.add_mul_div_right _ _ (by decide),Nat.div_eq_of_lt h9,Nat.zero_add]
theorem groups_step{s:Bs}{e:Nat}(h0:0<e)(he:e<=s.length):groupsOf (s.take e)=natOf ((s.take e).drop (e-9)) :: groupsOf (s.take (e-9)):=by
 have hl:(s.take e).length=e:=by rw[List.length_take];omega
 have hne:s.take e≠[]:=by intro h;rw[h]at hl;simp at hl;omega
 rw[groupsOf_pos hne,hl,List.take_take,Nat.min_eq_left (by omega)]
theorem parse_small(l:Bs)(hd:l.all isD=true)(h0:l≠[])(hl:l.length<=9):Lib.parseUintB 64 l = .ok (natOf l):=by
 have key:∀(l:Bs) (acc:Nat),l.all isD=true->acc*10 ^ l.length+10 ^ l.length<=1000000000->Lib.parseUintM (2 ^ 64-1) acc l = .ok (acc*10 ^ l.length+natOf l):=by
  intro l;induction l with
  |nil=>intro acc _ _;simp[Lib.parseUintM,natOf]
  |cons c r ih =>
   intro acc hd hb;simp only[List.all_cons,Bool.and_eq_true]at hd;have hc:=(isD_iff c).1 hd.1;rw[List.length_cons,Nat.pow_succ]at hb;have hp:1<=10 ^ r.length:=Nat.pow_pos (by decide)
   have hb2:(acc*10+(c.toNat-48))*10 ^ r.length+10 ^ r.length<=1000000000:=by
    have h1:(c.toNat-48+1)*10 ^ r.length<=10*10 ^ r.length:=Nat.mul_le_mul_right _ (by omega);rw[Nat.add_mul,Nat.one_mul]at h1;rw[Nat.add_mul,Nat.mul_assoc];rw[Nat.mul_comm (10 ^ r.length) 10]at hb;generalize 10 ^ r.length=q at *;generalize acc*(10*q)=u at *;generalize (c.toNat-48)*q=v at *;omega
   have ha:acc<=1000000000:=by
    have:acc*1<=acc*(10 ^ r.length*10):=Nat.mul_le_mul_left _ (by omega);omega
   have e:natOf (c :: r)=(c.toNat-48)*10 ^ r.length+natOf r:=by
    have:=natOf_append [c] r;rw[show natOf [c]=c.toNat-48 by simp[natOf,dval]]at this
    exact this
   unfold Lib.parseUintM;rw[if_pos hc,if_neg (by omega),if_neg (by omega),ih _ hd.2 hb2,e,List.length_cons,Nat.pow_succ];congr 1
   rw[Nat.add_mul,Nat.mul_assoc,Nat.mul_comm 10 (10 ^ r.length)];omega
 unfold Lib.parseUintB
 rw[if_neg h0,key l 0 hd (by
  have:10 ^ l.length<=10 ^ 9:=Nat.pow_le_pow_right (by decide) hl;omega)]
 simp
theorem cutL_prefix(l:List Nat):cutL l=l.take (cutL l).length:=by
 induction l using snocInd with
 |h0=>rfl
 |h1 l g ih =>
  by_cases h:g=0
  ·subst h;rw[cutL_snoc_zero];have hle:(cutL l).length<=l.length:=by rw[ih,List.length_take];omega
   rw[List.take_append_of_le_length hle];exact ih
  ·rw[cutL_snoc l h,List.take_length]
theorem cutL_le(l:List Nat):(cutL l).length<=l.length:=by
 have:=congrArg List.length (cutL_prefix l);rw[List.length_take]at this;omega
theorem cutL_gr_self(n:Nat):cutL (gr n)=gr n:=by rw[cutL_gr (gr_lt n),gval_gr]
theorem gr_pow{n:Nat}(h:n≠0):B9 ^ ((gr n).length-1)<=n:=by
 induction n using Nat.strongRecOn with
 |ind n ih =>
  rw[gr_pos h,List.length_cons,Nat.add_sub_cancel];by_cases h0:n / B9=0
  ·rw[h0,gr_zero];simp;omega
  ·have h1:=ih (n / B9) (Nat.div_lt_self (by omega) (by decide)) h0
   have hl:(gr (n / B9)).length=(gr (n / B9)).length-1+1:=by
    rw[gr_pos h0,List.length_cons];omega
   rw[hl,Nat.pow_succ];have h2:=Nat.mul_le_mul_right B9 h1;have h3:=Nat.div_mul_le_self n B9;omega
theorem gr_lt_pow(n:Nat):n<B9 ^ (gr n).length:=by
 have h:=gsum_lt (at0_bd (gr_lt n)) (gr n).length;rw[←gval_gsum _ _ (Nat.le_refl _),gval_gr]at h;exact h
theorem gr_shorter{x y:Nat}(h:(gr x).length<(gr y).length):x<y:=by
 have h0:y≠0:=by intro e;subst e;rw[gr_zero]at h;simp at h
 have h1:=gr_lt_pow x;have h2:=gr_pow h0;have h3:B9 ^ (gr x).length<=B9 ^ ((gr y).length-1):=Nat.pow_le_pow_right (by decide) (by omega);omega
theorem gr_inj{x y:Nat}(h:gr x=gr y):x=y:=by rw[←gval_gr x,h,gval_gr]
theorem gr_less{x y k:Nat}(hl:(gr x).length=(gr y).length)(hk:k<(gr x).length)(hk':k<(gr y).length)(he:∀(j:Nat) (h1:j<(gr x).length) (h2:j<(gr y).length),k<j->(gr x)[j]=(gr y)[j])(h:(gr x)[k]<(gr y)[k]):x<y:=by
 have:=gsum_less (a:=at0 (gr x)) (b:=at0 (gr y)) (at0_bd (gr_lt x)) k (by rw[at0_lt hk,at0_lt hk'];exact h) (gr x).length hk (fun j hj hjl=>by rw[at0_lt hjl,at0_lt (by omega)];exact he j hjl (by omega) hj);rw[←gval_gsum _ _ (Nat.le_refl _),←gval_gsum _ _ (by omega),gval_gr,gval_gr]at this
 exact this
def fmtU(g:Nat):Bs:=if g=0 then [48] else dig10 g
def pad9(g:Nat):Bs:=List.replicate (9-(fmtU g).length) 48++fmtU g
theorem dig10_len{g L:Nat}(h:g<10 ^ L):(dig10 g).length<=L:=by
 induction L generalizing g with
 |zero=>have:g=0:=by simpa using h
        subst this;rw[dig10_zero];simp
 |succ L ih =>
  by_cases h0:g=0
  ·subst h0;rw[dig10_zero];simp
  ·rw[dig10_pos h0,List.length_append,List.length_singleton];have:g / 10<10 ^ L:=by rw[Nat.div_lt_iff_lt_mul (by decide)];rw[Nat.pow_succ]at h;exact h
   have:=ih this;omega
theorem fmtU_all(g:Nat):(fmtU g).all isD=true:=by unfold fmtU;split;rfl;exact dig10_all g
theorem fmtU_val(g:Nat):natOf (fmtU g)=g:=by
 unfold fmtU;split
 ·rename_i h;rw[h];rfl
 ·exact natOf_dig10 g
theorem fmtU_len{g:Nat}(h:g<B9):(fmtU g).length<=9:=by
 unfold fmtU;split
 ·simp
 ·exact dig10_len (L:=9) h
theorem natOf_zeros(k:Nat)(l:Bs):natOf (List.replicate k 48++l)=natOf l:=by
 rw[natOf_append]
 have:natOf (List.replicate k 48)=0:=by
  induction k with
  |zero=>rfl
  |succ k ih=>rw[List.replicate_succ',natOf_snoc,ih];decide
 rw[this];simp
theorem pad9_val(g:Nat):natOf (pad9 g)=g:=by unfold pad9;rw[natOf_zeros,fmtU_val]
theorem pad9_len{g:Nat}(h:g<B9):(pad9 g).length=9:=by
 have:=fmtU_len h;unfold pad9;rw[List.length_append,List.length_replicate];omega
theorem pad9_all(g:Nat):(pad9 g).all isD=true:=by
 unfold pad9;rw[List.all_append,fmtU_all,Bool.and_true,List.all_eq_true];intro x hx;rw[List.eq_of_mem_replicate hx];decide
def lowT(r:List Nat):Bs:=r.reverse.flatMap pad9
theorem lowT_cons(g:Nat)(r:List Nat):lowT (g :: r)=lowT r++pad9 g:=by unfold lowT;simp
theorem lowT_all(r:List Nat):(lowT r).all isD=true:=by
 induction r with
 |nil=>rfl
 |cons g r ih=>rw[lowT_cons,List.all_append,ih,pad9_all];rfl
theorem top_val(top:Nat):∀(r:List Nat),(∀g ∈ r,g<B9)->natOf (fmtU top++lowT r)=gval (r++[top])
 |[],_=>by simp[lowT,gval,fmtU_val]
 |g :: r,h=>by
  have hg:=h g (by simp);rw[lowT_cons,←List.append_assoc,natOf_append,pad9_len hg,pad9_val,top_val top r (fun x hx=>h x (by simp[hx]))];show _=g+B9*gval (r++[top]);rw[show(10:Nat) ^ 9=B9 from rfl,Nat.mul_comm];omega
theorem text_gr{n top:Nat}{r:List Nat}(h:gr n=r++[top]):fmtU top++lowT r=dig10 n:=by
 have hb:=gr_lt n;rw[h]at hb;have ht:top≠0:=gr_top n r top h;have hv:=top_val top r (fun g hg=>hb g (by simp[hg]));rw[←h,gval_gr]at hv;rw[←hv,dig10_natOf]
 ·rw[List.all_append,fmtU_all,lowT_all];rfl
 ·intro c q e;have hf:fmtU top=dig10 top:=by unfold fmtU;rw[if_neg ht]
  rw[hf]at e;have hne:=dig10_ne ht
  cases hd:dig10 top with
  |nil=>exact absurd hd hne
  |cons x s =>
   rw[hd]at e;injection e with e1 e2;subst e1
   intro hx;subst hx;have h1:=natOf_dig10 top;have h2:natOf (48 :: s)=natOf s:=natOf_zeros 1 s;rw[hd,h2]at h1;have h3:(dig10 top).length<=s.length:=dig10_len (by rw[←h1];exact natOf_lt (by have:=dig10_all top;rw[hd]at this;simp only[List.all_cons,Bool.and_eq_true]at this;exact this.2));rw[hd]at h3;simp at h3;omega
theorem natOf_noZeros(t:Bs):natOf (noZeros t)=natOf t:=by
 induction t with
 |nil=>rfl
 |cons c r ih =>
  by_cases hc:(c == 48)=true
  ·have e:noZeros (c :: r)=noZeros r:=by simp only[noZeros];rw[if_pos hc]
   obtain rfl:c=48:=by simpa using hc
   rw[e,ih];exact(natOf_zeros 1 r).symm
  ·have e:noZeros (c :: r)=c :: r:=by simp only[noZeros];rw[if_neg hc]
   rw[e]
theorem isMin_dig{t:Bs}(h:t.all isD=true):isMin t=false:=by
 cases t with
 |nil=>rfl
 |cons c r =>
  simp only[List.all_cons,Bool.and_eq_true]at h;have:=(isD_iff c).1 h.1;simp only[isMin,beq_eq_false_iff_ne];rintro rfl;revert this;decide
theorem valI_dig{t:Bs}(h:t.all isD=true):valI t=(natOf t:Int):=by
 have hm:mag t=noZeros t:=by
  show magT (strip t)=_;unfold strip;rw[isMin_dig h];exact magT_good t h
 have hn:neg t=false:=by show negT (isMin t) (strip t)=false;rw[isMin_dig h];rfl
 unfold valI;rw[hn,hm,natOf_noZeros];rfl
theorem valI_min{t:Bs}(h:t.all isD=true):valI (45 :: t) = -(natOf t:Int):=by
 have hm:mag (45 :: t)=noZeros t:=magT_good t h
 have hn:neg (45 :: t)=!(noZeros t).isEmpty:=by
  show negT true t=_;unfold negT;rw[magT_good t h];rfl
 unfold valI;rw[hn,hm,natOf_noZeros]
 cases hz:noZeros t with
 |nil =>
  have:=natOf_noZeros t;rw[hz,natOf_nil]at this
  rw[←this];rfl
 |cons c r=>rfl
theorem valI_ofI(z:Int):valI (ofI z)=z:=by
 unfold ofI;split
 ·rw[valI_min (dig10_all _),natOf_dig10];omega
 ·rw[valI_dig (dig10_all _),natOf_dig10];omega
theorem ofI_nil_iff(z:Int):ofI z=[]↔z=0:=by
 constructor
 ·intro h;have:=valI_ofI z;rw[h]at this;rw[←this];decide
 ·rintro rfl;unfold ofI;rw[if_neg (by decide)];exact dig10_zero
theorem lowT_len(r:List Nat)(h:∀g ∈ r,g<B9):(lowT r).length=9*r.length:=by
 induction r with
 |nil=>rfl
 |cons g r ih=>rw[lowT_cons,List.length_append,ih (fun x hx=>h x (by simp[hx])),pad9_len (h g (by simp)),List.length_cons];omega
structure LotV where
 id:Bs
 ins:Bs
 acq:Int
 opn:Int
 q:Bs
 c:Bs
 u:Bs
instance:Inhabited LotV:=⟨⟨[],[],0,0,[],[],[]⟩⟩
def lotCells(x:LotV):List Value:=[.string (bs x.id),.string (bs x.ins),.int .i64 x.acq,.int .i64 x.opn,.string (bs x.q),.string (bs x.c),.string (bs x.u)]
def cut47:Bs->Bs × Bs
 |[]=>([],[])
 |x :: r=>if x=47 then([],r) else(x :: (cut47 r).1,(cut47 r).2)
def numOK(t:Bs):Bool:=decide (1<=t.length) && decide (t.length<=4) && !(t.headD 48 == 48) && t.all isD
def isId(l:Bs):Bool:=isName (cut47 l).1 && numOK (cut47 l).2
theorem lead_of_head{t:Bs}(h:(!(t.headD 48 == 48))=true):Lead t:=by
 intro c r e;subst e;simpa using h
theorem numOK_iff{t:Bs}:numOK t=true↔∃n:Nat,1<=n∧n<=9999∧t=dig10 n:=by
 constructor
 ·intro h;simp only[numOK,Bool.and_eq_true,decide_eq_true_eq]at h;obtain⟨⟨⟨h1,h2⟩,h3⟩,h4⟩:=h;have hl:=lead_of_head h3;have hlt:=natOf_lt h4;have hp:10 ^ t.length<=10 ^ 4:=Nat.pow_le_pow_right (by decide) h2;refine⟨natOf t,?_,by omega,(dig10_natOf h4 hl).symm⟩;rcases Nat.eq_zero_or_pos (natOf t) with h0|h0
  ·have:=(natOf_zero h4 hl).1 h0;subst this;simp at h1
  ·exact h0
 ·rintro⟨n,h1,h2,rfl⟩;have hlen:=dig10_len (g:=n) (L:=4) (by omega);have hne:=dig10_ne (n:=n) (by omega)
  have hlead:Lead (dig10 n):=by
   have:∀m,m≠0->Lead (dig10 m):=by
    intro m;induction m using Nat.strongRecOn with
    |ind m ih =>
     intro hm;rw[dig10_pos hm];by_cases h10:m / 10=0
     ·rw[h10,dig10_zero];intro c r e;simp only[List.nil_append,List.cons.injEq]at e;rw[←e.1];intro e2;have:=congrArg UInt8.toNat e2;rw[UInt8.toNat_ofNat_of_lt' (by show _<256;omega)]at this
      have h48:(48:UInt8).toNat=48:=rfl;omega
     ·have hl:=ih (m / 10) (by omega) h10;have hn:=dig10_ne h10;intro c r e;obtain⟨c',r',e'⟩:=List.exists_cons_of_ne_nil hn;rw[e']at e;simp only[List.cons_append,List.cons.injEq]at e;rw[←e.1];exact hl c' r' e'
   exact this n (by omega)
  obtain⟨c,r,e⟩:=List.exists_cons_of_ne_nil hne;have hc:=hlead c r e;simp only[numOK,Bool.and_eq_true,decide_eq_true_eq];refine⟨⟨⟨by rw[e];simp,hlen⟩,?_⟩,dig10_all n⟩;rw[e];simpa using hc
theorem decDigits_dig10(n:Nat)(h:1<=n):Lib.decDigits n=dig10 n:=by
 induction n using Nat.strongRecOn with
 |ind n ih =>
  rw[Lib.decDigits,dig10_pos (by omega)];split
  ·rename_i h10
   rw[show n / 10=0 by omega,dig10_zero,show n % 10=n by omega];rfl
  ·rw[ih (n / 10) (by omega) (by omega)]
theorem parse_dig:∀(l:Bs) (acc:Nat),l.all isD=true->acc*10 ^ l.length+natOf l<1000000000000->Lib.parseUint10 acc l = .ok (acc*10 ^ l.length+natOf l)
 |[],acc,_,_=>by simp[Lib.parseUint10,natOf]
 |c :: r,acc,h,hb=>by
  simp only[List.all_cons,Bool.and_eq_true]at h;have hc:=(isD_iff c).1 h.1
  have e:natOf (c :: r)=dval c*10 ^ r.length+natOf r:=by
   have:=natOf_append [c] r;rw[show natOf [c]=dval c by show 10*0+dval c=_;omega]at this
   exact this
  have hd:dval c=c.toNat-48:=rfl
  have e2:acc*10 ^ (c :: r).length+natOf (c :: r)=(acc*10+(c.toNat-48))*10 ^ r.length+natOf r:=by
   rw[List.length_cons,Nat.pow_succ,e,hd,Nat.add_mul,Nat.mul_comm (10 ^ r.length) 10,←Nat.mul_assoc];omega
  have hp:0<10 ^ r.length:=Nat.pow_pos (by decide);have hle:acc*10+(c.toNat-48)<=(acc*10+(c.toNat-48))*10 ^ r.length:=Nat.le_mul_of_pos_right _ hp;rw[e2]at hb ⊢;have ih:=parse_dig r (acc*10+(c.toNat-48)) h.2 hb;rw[Lib.parseUint10,if_pos hc,if_neg (by omega),if_neg (by omega),ih]
theorem atoi_num{t:Bs}(h:numOK t=true):∃n:Nat,1<=n∧n<=9999∧t=dig10 n∧Lib.atoiAll t = .ok (n:Int):=by
 obtain⟨n,h1,h2,rfl⟩:=numOK_iff.1 h;refine⟨n,h1,h2,rfl,?_⟩;have hne:=dig10_ne (n:=n) (by omega);have hall:=dig10_all n;have hval:=natOf_dig10 n;generalize dig10 n=t at *;obtain⟨c,r,rfl⟩:=List.exists_cons_of_ne_nil hne;have hc:isD c=true:=by simp only[List.all_cons,Bool.and_eq_true]at hall;exact hall.1
 have hc2:=(isD_iff c).1 hc;have hp:=parse_dig (c :: r) 0 hall (by omega);rw[Nat.zero_mul,Nat.zero_add,hval]at hp;unfold Lib.atoiAll;simp only;rw[if_neg (by omega),Lib.parseMag,if_neg (by simp),hp];simp only;rw[if_neg (by omega),if_neg (by omega),if_neg (by omega)]
theorem numOK_prog{t:Bs}{v:Int}(h:Lib.atoiAll t = .ok v):numOK t=(decide (1<=v) && decide (v<=9999) && (Lib.itoa v == t)):=by
 rw[Bool.eq_iff_iff];constructor
 ·intro k;obtain⟨n,h1,h2,rfl,h3⟩:=atoi_num k;rw[h]at h3;injection h3 with h3
  subst h3;simp only[Bool.and_eq_true,decide_eq_true_eq,beq_iff_eq];refine⟨⟨by omega,by omega⟩,?_⟩;unfold Lib.itoa;rw[if_neg (by omega),Int.toNat_natCast,decDigits_dig10 n h1]
 ·intro k;simp only[Bool.and_eq_true,decide_eq_true_eq,beq_iff_eq]at k;refine numOK_iff.2 ⟨v.toNat,by omega,by omega,?_⟩;rw[←k.2];unfold Lib.itoa;rw[if_neg (by omega),decDigits_dig10 _ (by omega)]
theorem numOK_bad{t:Bs}(h:∀v,Lib.atoiAll t ≠ .ok v):numOK t=false:=by
 cases k:numOK t with
 |false=>rfl
 |true=>obtain⟨n,_,_,_,h3⟩:=atoi_num k;exact absurd h3 (h _)
def dayOK(d:Int):Bool:=decide (-25567<=d) && decide (d<=84005)
def checkL(x:LotV):Int :=
 if !(isId x.id) || !(isName x.ins) then 23 else if !(dayOK x.acq) || !(dayOK x.opn) then 13 else if x.opn<x.acq then 8
 else if checkI x.q≠0∨checkI x.c≠0∨checkI x.u≠0 then 1
 else if valI x.q<=0∨valI x.c<0∨(x.u≠[]∧x.u≠x.q) then 2 else 0
def goAll(seen:List Bs):List LotV->Int
 |[]=>0
 |x :: r=>if checkL x≠0 then checkL x else if x.id ∈ seen then 5 else goAll (seen++[x.id]) r
def checkAllL(ls:List LotV):Int:=if 1000<ls.length then 4 else goAll [] ls
def findL:List LotV->Bs->Option Nat
 |[],_=>none
 |x :: r,id=>if x.id=id then some 0 else(findL r id).map (·+1)
def SmallL(x:LotV):Prop:=x.id.length<=1000∧x.ins.length<=1000∧x.q.length<=1000∧x.c.length<=1000∧x.u.length<=1000
def ofL(ls:List LotV)(ins:Bs):List LotV:=ls.filter (fun x=>decide (x.ins=ins))
def totQ(ls:List LotV)(ins:Bs):Int:=((ofL ls ins).map (fun x=>valI x.q)).sum
def totC(ls:List LotV)(ins:Bs):Int:=((ofL ls ins).map (fun x=>valI x.c)).sum
def Ext(w w':World):Prop:=Below w.heap.size w w'
theorem Ext.refl(w:World):Ext w w:=Below.refl _ _
theorem Ext.trans{a b c:World}(h:Ext a b)(k:Ext b c):Ext a c:=Below.trans h (k.mono h.size)
end
end Go.Proofs.YtaegjkllenlfpaaGreatDoor
namespace Go.RowKit
theorem Hid.qt{a b c:World}(h:Hid (Proofs.YtaegjkllenlfpaaGreatDoor.Ext a b))(x:Proofs.YtaegjkllenlfpaaGreatDoor.Ext b c):Hid (Proofs.YtaegjkllenlfpaaGreatDoor.Ext a c):=Proofs.YtaegjkllenlfpaaGreatDoor.Ext.trans h x
end Go.RowKit
namespace Go.Proofs.YtaegjkllenlfpaaGreatDoor
section
open Go.RowKit
theorem Ext.size{a b:World}(h:Ext a b):a.heap.size<=b.heap.size:=Below.size h
theorem Ext.alloc{a b:World}(h:Ext a b)(o:Obj):Ext a (b.alloc o):=Below.alloc h h.size o
theorem Ext.new(w:World)(o:Obj):Ext w (w.alloc o):=(Ext.refl w).alloc o
theorem Ext.drew{a b:World}(h:Ext a b):Ext a b.drew:=Below.drew h
theorem Ext.drewN{a b:World}(h:Ext a b)(n:Nat):Ext a (b.drewN n):=⟨h.os,h.tape,h.output,h.size,h.block⟩
theorem Ext.setCell{a b:World}(h:Ext a b){p:Addr}(hp:a.heap.size<=p.block)(u:Value):Ext a (b.setCell p u):=Below.setCell h hp u
theorem Ext.of_alloc{w w':World}{o:Obj}(h:Ext (w.alloc o) w'):Ext w w':=(Ext.new w o).trans h
theorem Ext.cell{w w':World}(h:Ext w w'){p:Addr}(hp:p.block<w.heap.size):w'.cell? p=w.cell? p:=Below.cell h hp
def Reads(w:World)(size:Nat)(A:Option Addr)(n:Nat)(xs:List Value):Prop :=
 xs.length=n*size∧(0<n->∃b o,A=some ⟨b,o,none⟩∧b<w.heap.size∧∀j u,xs[j]? = some u->w.cell? ⟨b,o+j,none⟩=some u)
theorem Reads.nil{w:World}{size:Nat}{A:Option Addr}:Reads w size A 0 []:=⟨by simp,fun h=>absurd h (by omega)⟩
theorem Reads.ext{w w':World}{size n:Nat}{A:Option Addr}{xs:List Value}(h:Reads w size A n xs)(he:Ext w w'):Reads w' size A n xs :=
 ⟨h.1,fun hn=>by
  obtain⟨b,o,e,hb,hc⟩:=h.2 hn;exact⟨b,o,e,Nat.lt_of_lt_of_le hb he.size,fun j u hu=>(he.cell (p:=⟨b,o+j,none⟩) hb).trans (hc j u hu)⟩⟩
theorem Reads.cell{w:World}{size n:Nat}{b o:Nat}{xs:List Value}(h:Reads w size (some ⟨b,o,none⟩) n xs){j:Nat}{u:Value}(hu:xs[j]? = some u):w.cell? ⟨b,o+j,none⟩=some u:=by
 have hj:j<xs.length:=(List.getElem?_eq_some_iff.1 hu).1
 have hn:0<n:=by
  rcases Nat.eq_zero_or_pos n with h0|h0
  ·have:=h.1;rw[h0]at this;omega
  ·exact h0
 obtain⟨b',o',e,_,hc⟩:=h.2 hn;injection e with e;injection e with e1 e2;subst e1;subst e2
 exact hc j u hu
theorem Reads.at_{w:World}{size n:Nat}{A:Option Addr}{xs:List Value}(h:Reads w size A n xs)(hn:0<n):∃b o,A=some ⟨b,o,none⟩∧b<w.heap.size:=by
 obtain⟨b,o,e,hb,_⟩:=h.2 hn;exact⟨b,o,e,hb⟩
theorem Reads.own{w:World}{base:Nat}{e:TypeId}{size n c:Nat}{A:Option Addr}{xs:List Value}(h:w.ownsRow base e size (.slice A n c) n xs):Reads w size A n xs:=by
 refine⟨h.1,fun hn=>?_⟩;obtain⟨g,cap,hv,_,hlt⟩:=h.form hn;have hA:A=some ⟨g,0,none⟩:=by injection hv
 subst hA;refine⟨g,0,rfl,hlt,fun j u hu=>?_⟩;have:=h.cells (g:=g) rfl j u hu;unfold Addr.add at this
 rcases Nat.eq_zero_or_pos j with h0|h0
 ·subst h0;simpa using this
 ·rw[if_neg (by omega)]at this;exact this
theorem Reads.lit{w:World}{t:TypeId}{size n:Nat}{xs:List Value}(hl:xs.length=n*size):Reads (w.alloc (.cells xs.toArray t)) size (some ⟨w.heap.size,0,none⟩) n xs :=
 ⟨hl,fun _=>⟨w.heap.size,0,rfl,by simp,fun j u hu=>by
  have:=World.cell?_alloc_new w xs.toArray t j;simp only[Nat.zero_add];rw[this];simpa using hu⟩⟩
theorem conv_bytes{P:Program}(w:World)(src dst e:TypeId)(l:Bs){u:TypeDesc}(hs:P.underlying src=some u)(hd:P.underlying dst=some (.slice e))(he:P.underlying e=some (.int .u8)) :
  ∃cap w1,(convert src dst (.string (bs l))).run P w = .ok (.slice (some ⟨w.heap.size,0,none⟩) l.length cap) w1∧Ext w w1∧w1.heap.size=w.heap.size+1 ∧
    ∀(j:Nat) (h:j<l.length),w1.cell? ⟨w.heap.size,j,none⟩=some (.int .u8 (l[j]'h).toNat):=by
 refine⟨grownCap w (bs l).size 0 e,Lib.bytesWorld w e (bs l),?_,?_,Lib.bytesWorld_size w e (bs l),fun j h=>?_⟩
 ·have:=Lib.run_convert_string_bytes (P:=P) w src dst e (bs l) hs hd he;rw[this,size_bs]
 ·exact⟨rfl,rfl,rfl,by rw[Lib.bytesWorld_size];omega,fun k hk=>Lib.bytesWorld_at_old w e (bs l) k hk⟩
 ·rw[Lib.bytesWorld_cell w e (bs l) j (by rw[size_bs];exact h),data_bs,List.getD_eq_getElem?_getD,List.getElem?_eq_getElem h];rfl
end
end Go.Proofs.YtaegjkllenlfpaaGreatDoor
