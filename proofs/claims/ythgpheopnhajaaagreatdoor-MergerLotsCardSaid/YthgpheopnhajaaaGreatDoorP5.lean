/- The seat's texts, part P5. -/
import Derived.Test.YthgpheopnhajaaaGreatDoorP4
import Derived.Deep.RegionHeld3
set_option maxRecDepth 100000
set_option maxHeartbeats 8000000
namespace Go.Proofs.YthgpheopnhajaaaGreatDoor
section
open Go.RowKit
theorem dZ(l:List Nat)(i:Nat)(h:i<l.length):gval (l.drop i)=at0 l i+B9*gval (l.drop (i+1)):=by
 rw[List.drop_eq_getElem_cons h,at0_lt h];rfl
theorem cH(l:List Nat)(i:Nat)(h:i≤l.length):gval l=gval (l.take i)+B9 ^ i*gval (l.drop i):=by
 conv=>lhs;rw[←List.take_append_drop i l]
 rw[gval_append,List.length_take,Nat.min_eq_left h]
structure SgAt (m:List Nat) (d i rest:Nat) (R:List Nat):Prop where
 len:R.length=m.length
 all:AllB R
 rb:rest<d
 val:gval (m.drop i)=gval (R.drop i)*d+rest
theorem SgAt.start{m:List Nat}{d:Nat}(hd:0<d)(R:List Nat)(hl:R.length=m.length)(ha:AllB R):SgAt m d m.length 0 R :=
 ⟨hl,ha,hd,by rw[List.drop_of_length_le (Nat.le_refl _),List.drop_of_length_le (by omega)];simp[gval]⟩
theorem yT{rest d x:Nat}(hr:rest<d)(hx:x<B9):rest*B9+x<d*B9:=by
 have h:(rest+1)*B9≤d*B9:=Nat.mul_le_mul_right _ hr;rw[Nat.add_mul,Nat.one_mul]at h;omega
theorem SgAt.step{m R:List Nat}{d i rest:Nat}(h:SgAt m d (i+1) rest R)(hm:AllB m)(hi:i<m.length):SgAt m d i ((rest*B9+at0 m i) % d) (R.set i ((rest*B9+at0 m i) / d)):=by
 have hd:0<d:=Nat.lt_of_le_of_lt (Nat.zero_le _) h.rb;have hR:i<R.length:=by rw[h.len];exact hi
 have hb:=yT h.rb (hm.at0 i);refine⟨by rw[List.length_set];exact h.len,h.all.set _ _ (by rw[Nat.div_lt_iff_lt_mul hd,Nat.mul_comm B9 d];exact hb),Nat.mod_lt _ hd,?_⟩;rw[dZ m i hi,h.val,dZ _ i (by rw[List.length_set];exact hR),at0_set hR,if_pos rfl,List.drop_set_of_lt (by omega)];have h1:=Nat.mod_add_div (rest*B9+at0 m i) d;generalize (rest*B9+at0 m i) / d=q at *;generalize (rest*B9+at0 m i) % d=r at *;generalize gval (R.drop (i+1))=Q at *;have h2:B9*(Q*d+rest)=B9*Q*d+rest*B9:=by rw[Nat.mul_add,←Nat.mul_assoc,Nat.mul_comm B9 rest]
 rw[h2,Nat.add_mul];have h3:d*q=q*d:=Nat.mul_comm _ _;generalize B9*Q*d=u at *;generalize rest*B9=v at *;omega
theorem SgAt.fin{m R:List Nat}{d rest:Nat}(h:SgAt m d 0 rest R):gval m / d=gval R∧gval m % d=rest∧cutL R=gr (gval m / d):=by
 have hd:0<d:=Nat.lt_of_le_of_lt (Nat.zero_le _) h.rb;have hv:gval m=gval R*d+rest:=by simpa using h.val
 have h1:gval m / d=gval R:=by
  rw[hv,Nat.mul_comm,Nat.mul_add_div hd,Nat.div_eq_of_lt h.rb];rfl
 have h2:gval m % d=rest:=by
  rw[hv,Nat.mul_comm,Nat.mul_add_mod,Nat.mod_eq_of_lt h.rb]
 exact⟨h1,h2,by rw[cutL_gr h.all,h1]⟩
theorem kM{a b:List Nat}{k:Nat}(h:a.drop k=b.drop k):a.drop (k+1)=b.drop (k+1):=by
 have e:∀l:List Nat,l.drop (k+1)=(l.drop k).drop 1:=fun l=>by rw[List.drop_drop]
 rw[e,e,h]
structure SubIn (g:Nat) (b a0:List Nat) (i j bo:Nat) (a:List Nat):Prop where
 len:a.length=a0.length
 all:AllB a
 bb:bo<B9
 val:gval a+g*gval (b.take j)*B9 ^ i=gval a0+bo*B9 ^ (i+j)
 low:a.take i=a0.take i
 high:a.drop (i+j)=a0.drop (i+j)
theorem SubIn.start{g:Nat}{b a0:List Nat}{i:Nat}(ha:AllB a0):SubIn g b a0 i 0 0 a0:=⟨rfl,ha,by decide,by simp[gval],rfl,rfl⟩
def eC(g x bo:Nat):Nat:=(g*x+bo) % B9
def jT(g x bo o:Nat):Nat:=(g*x+bo) / B9+if o<eC g x bo then 1 else 0
def gM(g x bo o:Nat):Nat:=if o<eC g x bo then o+B9-eC g x bo else o-eC g x bo
theorem oV{g x bo o:Nat}(hg:g<B9)(hx:x<B9)(hb:bo<B9)(ho:o<B9):jT g x bo o<B9∧gM g x bo o<B9∧g*x+bo<1000000000000000000∧gM g x bo o+(g*x+bo)=o+jT g x bo o*B9:=by
 have e:B9=1000000000:=rfl;have h1:g*x≤999999999*999999999:=Nat.mul_le_mul (by omega) (by omega);unfold jT gM eC;rw[e]at hg hx hb ho ⊢;generalize g*x=z at *;split <;> omega
theorem SubIn.step{g:Nat}{b a0 a:List Nat}{i j bo:Nat}(h:SubIn g b a0 i j bo a)(hg:g<B9)(hb:AllB b)(hj:i+j<a0.length) :
  SubIn g b a0 i (j+1) (jT g (at0 b j) bo (at0 a (i+j))) (a.set (i+j) (gM g (at0 b j) bo (at0 a (i+j)))):=by
 obtain⟨h1,h2,_,h4⟩:=oV hg (hb.at0 j) h.bb (h.all.at0 (i+j));have hl:i+j<a.length:=by rw[h.len];exact hj
 refine⟨by rw[List.length_set];exact h.len,h.all.set _ _ h2,h1,?_,by rw[List.take_set_of_le (by omega)];exact h.low,by rw[show i+(j+1)=i+j+1 by omega,List.drop_set_of_lt (by omega),kM h.high]⟩;have h5:=gval_set (R:=a) (j:=i+j) (gM g (at0 b j) bo (at0 a (i+j))) hl;have h6:=h.val;rw[gval_take_succ,Nat.mul_add,Nat.add_mul,show i+(j+1)=i+j+1 by omega,Nat.pow_succ];generalize hG:gM g (at0 b j) bo (at0 a (i+j))=G at *;generalize hB:jT g (at0 b j) bo (at0 a (i+j))=Bo at *
 have h7:g*(at0 b j*B9 ^ j)*B9 ^ i=g*at0 b j*B9 ^ (i+j):=by
  rw[Nat.pow_add,Nat.mul_assoc,Nat.mul_assoc,Nat.mul_assoc,Nat.mul_comm (B9 ^ j) (B9 ^ i)]
 rw[h7];have h8:(G+(g*at0 b j+bo))*B9 ^ (i+j)=(at0 a (i+j)+Bo*B9)*B9 ^ (i+j):=by rw[h4]
 rw[Nat.add_mul,Nat.add_mul,Nat.add_mul]at h8;have h9:Bo*(B9 ^ (i+j)*B9)=Bo*B9*B9 ^ (i+j):=by rw[Nat.mul_comm (B9 ^ (i+j)) B9,←Nat.mul_assoc]
 rw[h9];generalize B9 ^ (i+j)=p at *;generalize g*gval (b.take j)*B9 ^ i=u0 at *;generalize g*at0 b j*p=u1 at *;generalize Bo*B9*p=u2 at *;generalize at0 a (i+j)*p=u3 at *;generalize G*p=u4 at *;generalize bo*p=u5 at *;generalize gval (a.set (i+j) G)=u6 at *;omega
structure AddIn (b a0:List Nat) (i j ca:Nat) (a:List Nat):Prop where
 len:a.length=a0.length
 all:AllB a
 cb:ca≤1
 val:gval a+ca*B9 ^ (i+j)=gval a0+gval (b.take j)*B9 ^ i
 low:a.take i=a0.take i
 high:a.drop (i+j)=a0.drop (i+j)
theorem AddIn.start{b a0:List Nat}{i:Nat}(ha:AllB a0):AddIn b a0 i 0 0 a0:=⟨rfl,ha,by decide,by simp[gval],rfl,rfl⟩
theorem AddIn.step{b a0 a:List Nat}{i j ca:Nat}(h:AddIn b a0 i j ca a)(hb:AllB b)(hj:i+j<a0.length) :
  AddIn b a0 i (j+1) ((at0 a (i+j)+(at0 b j+ca)) / B9) (a.set (i+j) ((at0 a (i+j)+(at0 b j+ca)) % B9)):=by
 have hl:i+j<a.length:=by rw[h.len];exact hj
 have b1:=h.all.at0 (i+j);have b2:=hb.at0 j;have b3:=h.cb;refine⟨by rw[List.length_set];exact h.len,h.all.set _ _ (Nat.mod_lt _ (by decide)),by have e:B9=1000000000:=rfl;rw[e]at b1 b2 ⊢;omega,?_,by rw[List.take_set_of_le (by omega)];exact h.low,by rw[show i+(j+1)=i+j+1 by omega,List.drop_set_of_lt (by omega),kM h.high]⟩;have h5:=gval_set (R:=a) (j:=i+j) ((at0 a (i+j)+(at0 b j+ca)) % B9) hl;have h6:=h.val;have h4:=Nat.mod_add_div (at0 a (i+j)+(at0 b j+ca)) B9;rw[gval_take_succ,Nat.add_mul,show i+(j+1)=i+j+1 by omega,Nat.pow_succ];generalize (at0 a (i+j)+(at0 b j+ca)) % B9=G at *;generalize (at0 a (i+j)+(at0 b j+ca)) / B9=Ca at *;have h7:at0 b j*B9 ^ j*B9 ^ i=at0 b j*B9 ^ (i+j):=by rw[Nat.pow_add,Nat.mul_assoc,Nat.mul_comm (B9 ^ j) (B9 ^ i)]
 rw[h7];have h8:(G+B9*Ca)*B9 ^ (i+j)=(at0 a (i+j)+(at0 b j+ca))*B9 ^ (i+j):=by rw[h4]
 rw[Nat.add_mul,Nat.add_mul,Nat.add_mul]at h8;have h9:Ca*(B9 ^ (i+j)*B9)=B9*Ca*B9 ^ (i+j):=by rw[Nat.mul_comm (B9 ^ (i+j)) B9,←Nat.mul_assoc,Nat.mul_comm Ca B9]
 rw[h9];generalize B9 ^ (i+j)=p at *;generalize gval (b.take j)*B9 ^ i=u0 at *;generalize at0 b j*p=u1 at *;generalize B9*Ca*p=u2 at *;generalize at0 a (i+j)*p=u3 at *;generalize G*p=u4 at *;generalize ca*p=u5 at *;generalize gval (a.set (i+j) G)=u6 at *;omega
theorem yU{W y T D p low yl g:Nat}(hW:W=T*p+low)(hl:low<p)(hy:y=D*p+yl)(hyl:yl<p)(hD:B9≤D)(hgB:g<B9)(hgT:g*D≤T)(hmax:g=B9-1∨T<(g+1)*D)(hWy:W<B9*y):W / y≤g∧g≤W / y+1:=by
 have hp:0<p:=Nat.lt_of_le_of_lt (Nat.zero_le _) hl;have hD0:0<D:=Nat.lt_of_lt_of_le (by decide) hD;have hy0:0<y:=by rw[hy];exact Nat.lt_of_lt_of_le (Nat.mul_pos hD0 hp) (Nat.le_add_right _ _)
 constructor
 ·rw[←Nat.lt_succ_iff,Nat.div_lt_iff_lt_mul hy0];rcases hmax with h|h
  ·have e:B9=1000000000:=rfl;have:g.succ=B9:=by omega
   rw[this];exact hWy
  ·have h1:(T+1)*p≤(g+1)*D*p:=Nat.mul_le_mul_right _ h
   have h2:(g+1)*D*p≤(g+1)*y:=by
    rw[Nat.mul_assoc];exact Nat.mul_le_mul_left _ (by rw[hy];exact Nat.le_add_right _ _)
   rw[Nat.add_mul,Nat.one_mul]at h1;show W<(g+1)*y;omega
 ·rcases Nat.eq_zero_or_pos g with h0|h0
  ·rw[h0];exact Nat.zero_le _
  ·obtain⟨z,rfl⟩:∃z,g=z+1:=⟨g-1,by omega⟩
   suffices h:z*y≤W by
    exact Nat.succ_le_succ ((Nat.le_div_iff_mul_le hy0).2 h)
   have h1:(z+1)*D*p≤T*p:=Nat.mul_le_mul_right _ hgT
   have h2:z*yl≤D*p:=by
    have a1:z*yl≤z*p:=Nat.mul_le_mul_left _ (by omega);have a2:z*p≤D*p:=Nat.mul_le_mul_right _ (by omega);omega
   rw[hy,Nat.mul_add,←Nat.mul_assoc];rw[Nat.add_mul,Nat.one_mul,Nat.add_mul]at h1;omega
structure GuessAt (top a2 b1 b2 z:Nat):Prop where
 lt:z<B9
 le:z*b1≤top
 max:z=B9-1∨top*B9+a2<(z+1)*(b1*B9+b2)
theorem GuessAt.start{top a2 b1 b2:Nat}(ha:a2<B9)(hb:0<b1):GuessAt top a2 b1 b2 (min (top / b1) (B9-1)):=by
 have e:B9=1000000000:=rfl;refine⟨by omega,?_,?_⟩
 ·exact Nat.le_trans (Nat.mul_le_mul_right _ (Nat.min_le_left _ _)) (Nat.div_mul_le_self _ _)
 ·rcases Nat.lt_or_ge (top / b1) (B9-1) with h|h
  ·right
   rw[Nat.min_eq_left (by omega)]
   have h1:top+1≤(top / b1+1)*b1:=by
    have h2:=Nat.div_add_mod top b1;have h3:=Nat.mod_lt top hb;rw[Nat.add_mul,Nat.one_mul,Nat.mul_comm];omega
   have h4:(top+1)*B9≤(top / b1+1)*b1*B9:=Nat.mul_le_mul_right _ h1;rw[Nat.mul_add,←Nat.mul_assoc];rw[Nat.add_mul,Nat.one_mul]at h4;generalize (top / b1+1)*b1*B9=u at *;generalize (top / b1+1)*b2=v at *;generalize top*B9=t at *;omega
  ·left;omega
theorem qI{top a2 b1 b2 z:Nat}(hle:z*b1≤top):z*b2≤(top-z*b1)*B9+a2↔z*(b1*B9+b2)≤top*B9+a2:=by
 rw[Nat.mul_add,←Nat.mul_assoc,Nat.sub_mul];have h:z*b1*B9≤top*B9:=Nat.mul_le_mul_right _ hle;generalize z*b1*B9=u at *;generalize top*B9=t at *;generalize z*b2=v at *;omega
theorem GuessAt.fine{top a2 b1 b2 z:Nat}(h:GuessAt top a2 b1 b2 z)(hb:b2<B9)(hc:B9≤top-z*b1∨z*b2≤(top-z*b1)*B9+a2):z*(b1*B9+b2)≤top*B9+a2:=by
 rw[←qI h.le];rcases hc with hc|hc
 ·have h1:z*b2≤B9*B9:=Nat.mul_le_mul (Nat.le_of_lt h.lt) (Nat.le_of_lt hb);have h2:B9*B9≤(top-z*b1)*B9:=Nat.mul_le_mul_right _ hc;omega
 ·exact hc
theorem GuessAt.down{top a2 b1 b2 z:Nat}(h:GuessAt top a2 b1 b2 z)(hc:¬ z*b2≤(top-z*b1)*B9+a2):0<z∧GuessAt top a2 b1 b2 (z-1):=by
 have h0:0<z:=by
  rcases Nat.eq_zero_or_pos z with h0|h0
  ·subst h0;exact absurd (by simp) hc
  ·exact h0
 refine⟨h0,⟨by have:=h.lt;omega,Nat.le_trans (Nat.mul_le_mul_right _ (by omega)) h.le,.inr ?_⟩⟩;rw[qI h.le]at hc;rw[show z-1+1=z by omega];omega
end
section
open Go.RowKit
theorem fP(l:List Nat)(i j:Nat):at0 (l.drop i) j=at0 l (i+j):=by
 unfold Go.Proofs.YthgpheopnhajaaaGreatDoor.at0;rw[List.getD_eq_getElem?_getD,List.getD_eq_getElem?_getD,List.getElem?_drop]
theorem AllB.drop{l:List Nat}(h:AllB l)(i:Nat):AllB (l.drop i):=fun g hg=>h g (List.mem_of_mem_drop hg)
theorem AllB.take{l:List Nat}(h:AllB l)(i:Nat):AllB (l.take i):=fun g hg=>h g (List.mem_of_mem_take hg)
theorem iw{l:List Nat}(h:AllB l){k:Nat}(hk:k≤l.length):gval (l.take k)<B9 ^ k:=by
 have:=gval_lt (h.take k);rwa[List.length_take,Nat.min_eq_left hk]at this
theorem km(k:Nat):0<B9 ^ k:=Nat.pow_pos (by decide)
structure Dvr (b:List Nat):Prop where
 two:2≤b.length
 all:AllB b
 top:0<at0 b (b.length-1)
theorem Dvr.parts{b:List Nat}(h:Dvr b):gval b=(at0 b (b.length-1)*B9+at0 b (b.length-2))*B9 ^ (b.length-2)+gval (b.take (b.length-2))∧gval (b.take (b.length-2))<B9 ^ (b.length-2):=by
 have h2:=h.two;refine⟨?_,iw h.all (by omega)⟩
 have h1:gval (b.drop (b.length-2))=at0 b (b.length-1)*B9+at0 b (b.length-2):=by
  rw[dZ b _ (by omega),show b.length-2+1=b.length-1 by omega,dZ b _ (by omega),show b.length-1+1=b.length by omega,List.drop_length];show _+B9*(_+B9*0)=_;rw[Nat.mul_zero,Nat.add_zero,Nat.mul_comm B9];omega
 rw[cH b (b.length-2) (by omega),h1,Nat.mul_comm (B9 ^ (b.length-2))];omega
theorem Dvr.pos{b:List Nat}(h:Dvr b):0<gval b:=by
 have h1:=h.parts.1;have h2:0<(at0 b (b.length-1)*B9+at0 b (b.length-2))*B9 ^ (b.length-2):=Nat.mul_pos (by have:=h.top;have e:B9=1000000000:=rfl;rw[e];omega) (km _);omega
theorem Dvr.lt{b:List Nat}(h:Dvr b):gval b<B9 ^ b.length:=gval_lt h.all
structure KnAt (A0:Nat) (b:List Nat) (La i:Nat) (a q:List Nat):Prop where
 la:a.length=La
 alla:AllB a
 lq:q.length=La-b.length
 allq:AllB q
 val:A0=gval (q.drop i)*gval b*B9 ^ i+gval a
 rest:gval (a.drop i)<gval b
section
variable {A0 La i:Nat} {b a q:List Nat}
theorem KnAt.win(h:KnAt A0 b La (i+1) a q)(hi:i+b.length<La):gval (a.drop i)<B9*gval b:=by
 rw[dZ a i (by rw[h.la];omega)];have h1:=h.alla.at0 i;have h2:B9*(gval (a.drop (i+1))+1)≤B9*gval b:=Nat.mul_le_mul_left _ h.rest;rw[Nat.mul_add,Nat.mul_one]at h2;omega
theorem sC{a:List Nat}{i k y:Nat}(_ha:AllB a)(hk:i+k<a.length)(hy:y<B9 ^ k)(hw:gval (a.drop i)<B9*y):gval (a.drop (i+k+1))=0:=by
 have h1:=cH (a.drop i) (k+1) (by rw[List.length_drop];omega);rw[List.drop_drop,show i+(k+1)=i+k+1 by omega]at h1;have h2:B9*y<B9 ^ (k+1):=by rw[Nat.pow_succ,Nat.mul_comm];exact Nat.mul_lt_mul_of_pos_right hy (by decide)
 rcases Nat.eq_zero_or_pos (gval (a.drop (i+k+1))) with h0|h0
 ·exact h0
 ·exfalso
  have h3:B9 ^ (k+1)*1≤B9 ^ (k+1)*gval (a.drop (i+k+1)):=Nat.mul_le_mul_left _ h0;omega
theorem m9{a:List Nat}{i k:Nat}(hk:i+k<a.length)(hz:gval (a.drop (i+k+1))=0):gval (a.drop i)=gval ((a.drop i).take k)+at0 a (i+k)*B9 ^ k:=by
 rw[cH (a.drop i) k (by rw[List.length_drop];omega),List.drop_drop,dZ a (i+k) hk,hz];rw[Nat.mul_zero,Nat.add_zero,Nat.mul_comm (B9 ^ k)]
theorem KnAt.three(h:KnAt A0 b La (i+1) a q)(hb:Dvr b)(hi:i+b.length<La) :
  gval (a.drop i)=((at0 a (i+b.length)*B9+at0 a (i+b.length-1))*B9+at0 a (i+b.length-2))*B9 ^ (b.length-2)+gval ((a.drop i).take (b.length-2))∧gval ((a.drop i).take (b.length-2))<B9 ^ (b.length-2):=by
 have h2:=hb.two;have hla:=h.la;refine⟨?_,iw (h.alla.drop i) (by rw[List.length_drop];omega)⟩;have hz:=sC h.alla (by rw[hla];exact hi) hb.lt (h.win hi)
 have h1:gval (a.drop (i+(b.length-2)))=(at0 a (i+b.length)*B9+at0 a (i+b.length-1))*B9+at0 a (i+b.length-2):=by
  rw[dZ a _ (by omega),show i+(b.length-2)+1=i+b.length-1 by omega,dZ a _ (by omega),show i+b.length-1+1=i+b.length by omega,dZ a _ (by omega),hz,show i+(b.length-2)=i+b.length-2 by omega,Nat.mul_zero,Nat.add_zero];generalize at0 a (i+b.length)=x;generalize at0 a (i+b.length-1)=y;generalize at0 a (i+b.length-2)=z;have e:B9=1000000000:=rfl;rw[e];omega
 rw[cH (a.drop i) (b.length-2) (by rw[List.length_drop];omega),List.drop_drop,h1,Nat.mul_comm (B9 ^ (b.length-2))];omega
theorem KnAt.guess(h:KnAt A0 b La (i+1) a q)(hb:Dvr b)(hi:i+b.length<La){z:Nat}(hg:GuessAt (at0 a (i+b.length)*B9+at0 a (i+b.length-1)) (at0 a (i+b.length-2)) (at0 b (b.length-1)) (at0 b (b.length-2)) z)
  (hf:z*(at0 b (b.length-1)*B9+at0 b (b.length-2))≤(at0 a (i+b.length)*B9+at0 a (i+b.length-1))*B9+at0 a (i+b.length-2)):gval (a.drop i) / gval b≤z∧z≤gval (a.drop i) / gval b+1:=by
 obtain⟨w1,w2⟩:=h.three hb hi;obtain⟨y1,y2⟩:=hb.parts;exact yU w1 w2 y1 y2 (by have:=hb.top;have e:B9=1000000000:=rfl;rw[e];omega) hg.lt hf hg.max (h.win hi)
theorem KnAt.put(h:KnAt A0 b La (i+1) a q)(_hb:Dvr b)(hi:i+b.length<La){a':List Nat}{e:Nat}(hl:a'.length=La)(ha:AllB a')(he:e<B9)(hlow:a'.take i=a.take i)(hv:gval (a'.drop i)+e*gval b=gval (a.drop i))(hr:gval (a'.drop i)<gval b):KnAt A0 b La i a' (q.set i e):=by
 have hla:=h.la;have hlq:=h.lq;have hq:i<q.length:=by omega
 refine⟨hl,ha,by rw[List.length_set];exact hlq,h.allq.set _ _ he,?_,hr⟩;have h1:=cH a i (by omega);have h2:=cH a' i (by omega);rw[hlow]at h2;rw[dZ _ i (by rw[List.length_set];exact hq),at0_set hq,if_pos rfl,List.drop_set_of_lt (by omega),h.val,h1,h2,←hv,Nat.pow_succ];generalize gval (q.drop (i+1))=Q at *;generalize gval b=y at *;generalize gval (a.take i)=L at *;generalize gval (a'.drop i)=W' at *;generalize B9 ^ i=p at *
 have e1:(e+B9*Q)*y*p=p*(e*y)+Q*y*(p*B9):=by
  rw[Nat.add_mul,Nat.add_mul,Nat.mul_comm (e*y) p];congr 1
  rw[Nat.mul_comm B9 Q,Nat.mul_assoc,Nat.mul_assoc,Nat.mul_assoc,Nat.mul_left_comm B9 y p,Nat.mul_comm B9 p]
 rw[e1,Nat.mul_add];omega
end
theorem l7{p x y:Nat}(hp:0<p){L:Nat}(h:L+p*x=L+p*y):x=y:=Nat.eq_of_mul_eq_mul_left hp (by omega)
theorem KnAt.right{A0 La i:Nat}{b a q a1:List Nat}{g bo:Nat}(h:KnAt A0 b La (i+1) a q)(hb:Dvr b)(hi:i+b.length<La)(hs:SubIn g b a i b.length bo a1)(hg:g<B9)(hge:gval (a.drop i) / gval b≤g)(ht:bo≤at0 a (i+b.length)) :
  KnAt A0 b La i (a1.set (i+b.length) (at0 a (i+b.length)-bo)) (q.set i g)∧at0 a1 (i+b.length)=at0 a (i+b.length):=by
 have hla:=h.la;have hl1:i+b.length<a1.length:=by rw[hs.len,hla];exact hi
 have hat:at0 a1 (i+b.length)=at0 a (i+b.length):=by
  have h1:=fP a1 (i+b.length) 0;have h2:=fP a (i+b.length) 0;rw[hs.high]at h1;rw[Nat.add_zero]at h1 h2;rw[←h1,←h2]
 have hb0:=hb.pos;have e1:=gval_set (R:=a1) (j:=i+b.length) (at0 a (i+b.length)-bo) hl1;have e2:=hs.val;rw[List.take_length]at e2;rw[hat]at e1;have hlow:(a1.set (i+b.length) (at0 a (i+b.length)-bo)).take i=a.take i:=by rw[List.take_set_of_le (by omega)];exact hs.low
 have s1:=cH a i (by omega);have s2:=cH (a1.set (i+b.length) (at0 a (i+b.length)-bo)) i (by rw[List.length_set];omega);rw[hlow]at s2
 have key:gval ((a1.set (i+b.length) (at0 a (i+b.length)-bo)).drop i)+g*gval b=gval (a.drop i):=by
  apply l7 (km i) (L:=gval (a.take i));rw[Nat.mul_add];have c1:(at0 a (i+b.length)-bo)*B9 ^ (i+b.length)+bo*B9 ^ (i+b.length)=at0 a (i+b.length)*B9 ^ (i+b.length):=by rw[←Nat.add_mul,Nat.sub_add_cancel ht]
  have c2:B9 ^ i*(g*gval b)=g*gval b*B9 ^ i:=Nat.mul_comm _ _;rw[c2];generalize g*gval b*B9 ^ i=u1 at *;generalize at0 a (i+b.length)*B9 ^ (i+b.length)=u2 at *;generalize (at0 a (i+b.length)-bo)*B9 ^ (i+b.length)=u3 at *;generalize bo*B9 ^ (i+b.length)=u4 at *;generalize gval (a1.set (i+b.length) (at0 a (i+b.length)-bo))=u5 at *;generalize B9 ^ i*gval ((a1.set (i+b.length) (at0 a (i+b.length)-bo)).drop i)=u6 at *;omega
 have hq:g=gval (a.drop i) / gval b:=by
  apply Nat.le_antisymm
  ·exact(Nat.le_div_iff_mul_le hb0).2 (by omega)
  ·exact hge
 refine⟨h.put hb hi (by rw[List.length_set,hs.len,hla]) (hs.all.set _ _ (by have:=h.alla.at0 (i+b.length);omega)) hg hlow key ?_,hat⟩;have hm:=Nat.mod_lt (gval (a.drop i)) hb0;have hd:=Nat.div_add_mod (gval (a.drop i)) (gval b);rw[←hq,Nat.mul_comm]at hd;omega
theorem KnAt.wrong{A0 La i:Nat}{b a q a1 a2:List Nat}{g bo ca:Nat}(h:KnAt A0 b La (i+1) a q)(hb:Dvr b)(hi:i+b.length<La)(hs:SubIn g b a i b.length bo a1)(hd:AddIn b a1 i b.length ca a2)(hg:g<B9)(hle:g≤gval (a.drop i) / gval b+1)(ht:at0 a (i+b.length)<bo) :
  0<g∧at0 a (i+b.length)+ca=bo∧at0 a2 (i+b.length)=at0 a (i+b.length)∧KnAt A0 b La i (a2.set (i+b.length) 0) (q.set i (g-1)):=by
 have hla:=h.la;have hl1:i+b.length<a1.length:=by rw[hs.len,hla];exact hi
 have hl2:i+b.length<a2.length:=by rw[hd.len];exact hl1
 have hb0:=hb.pos;have hbl:=hb.lt;have hP:=km b.length;have hz:=sC h.alla (by rw[hla];exact hi) hb.lt (h.win hi);have hhigh:a2.drop (i+b.length)=a.drop (i+b.length):=hd.high.trans hs.high
 have at1:at0 a1 (i+b.length)=at0 a (i+b.length):=by
  have h1:=fP a1 (i+b.length) 0;have h2:=fP a (i+b.length) 0;rw[hs.high]at h1;rw[Nat.add_zero]at h1 h2;rw[←h1,←h2]
 have at2:at0 a2 (i+b.length)=at0 a (i+b.length):=by
  have h1:=fP a2 (i+b.length) 0;have h2:=fP a (i+b.length) 0;rw[hhigh]at h1;rw[Nat.add_zero]at h1 h2;rw[←h1,←h2]
 have hz1:gval (a1.drop (i+b.length+1))=0:=by rw[kM hs.high];exact hz
 have hz2:gval (a2.drop (i+b.length+1))=0:=by rw[kM hhigh];exact hz
 have t0:=m9 (a:=a) (i:=i) (k:=b.length) (by omega) hz;have t1:=m9 (a:=a1) (i:=i) (k:=b.length) hl1 hz1;have t2:=m9 (a:=a2) (i:=i) (k:=b.length) hl2 hz2;rw[at1]at t1;rw[at2]at t2;have v1:gval ((a1.drop i).take b.length)<B9 ^ b.length:=iw (hs.all.drop i) (by rw[List.length_drop];omega);have v2:gval ((a2.drop i).take b.length)<B9 ^ b.length:=iw (hd.all.drop i) (by rw[List.length_drop];omega)
 have E1:gval (a1.drop i)+g*gval b=gval (a.drop i)+bo*B9 ^ b.length:=by
  apply l7 (km i) (L:=gval (a.take i));have s0:=cH a i (by omega);have s1:=cH a1 i (by omega);have e2:=hs.val;rw[List.take_length,Nat.pow_add]at e2;rw[hs.low]at s1;rw[Nat.mul_add,Nat.mul_add];have c2:B9 ^ i*(g*gval b)=g*gval b*B9 ^ i:=Nat.mul_comm _ _;have c3:B9 ^ i*(bo*B9 ^ b.length)=bo*(B9 ^ i*B9 ^ b.length):=Nat.mul_left_comm _ _ _;rw[c2,c3];omega
 have E2:gval (a2.drop i)+ca*B9 ^ b.length=gval (a1.drop i)+gval b:=by
  apply l7 (km i) (L:=gval (a.take i));have s1:=cH a1 i (by omega);have s2:=cH a2 i (by omega);have e2:=hd.val;rw[List.take_length,Nat.pow_add]at e2;rw[hs.low]at s1;rw[hd.low,hs.low]at s2;rw[Nat.mul_add,Nat.mul_add];have c2:B9 ^ i*gval b=gval b*B9 ^ i:=Nat.mul_comm _ _;have c3:B9 ^ i*(ca*B9 ^ b.length)=ca*(B9 ^ i*B9 ^ b.length):=Nat.mul_left_comm _ _ _;rw[c2,c3];omega
 have hbo:(at0 a (i+b.length)+1)*B9 ^ b.length≤bo*B9 ^ b.length:=Nat.mul_le_mul_right _ ht;rw[Nat.add_mul,Nat.one_mul]at hbo
 have hgt:gval (a.drop i)<g*gval b:=by
  rw[t0];rw[t0,t1]at E1;omega
 have hg1:g=gval (a.drop i) / gval b+1:=by
  apply Nat.le_antisymm hle;have:gval (a.drop i) / gval b<g:=(Nat.div_lt_iff_lt_mul hb0).2 hgt;exact this
 have hg0:0<g:=by rw[hg1];exact Nat.succ_pos _
 obtain⟨z,rfl⟩:∃z,g=z+1:=⟨g-1,by omega⟩;have hz3:z=gval (a.drop i) / gval b:=Nat.succ.inj hg1;have hm:=Nat.mod_lt (gval (a.drop i)) hb0;have hdm:=Nat.div_add_mod (gval (a.drop i)) (gval b);rw[←hz3,Nat.mul_comm]at hdm;rw[Nat.add_mul,Nat.one_mul]at E1;generalize hr:gval (a.drop i) % gval b=r at *
 have E3:gval ((a2.drop i).take b.length)+(at0 a (i+b.length)+ca)*B9 ^ b.length=r+bo*B9 ^ b.length:=by
  rw[Nat.add_mul];omega
 have htc:at0 a (i+b.length)+ca=bo:=by
  have d1:(gval ((a2.drop i).take b.length)+(at0 a (i+b.length)+ca)*B9 ^ b.length) / B9 ^ b.length=at0 a (i+b.length)+ca:=by
   rw[Nat.add_mul_div_right _ _ hP,Nat.div_eq_of_lt v2,Nat.zero_add]
  have d2:(r+bo*B9 ^ b.length) / B9 ^ b.length=bo:=by
   rw[Nat.add_mul_div_right _ _ hP,Nat.div_eq_of_lt (by omega),Nat.zero_add]
  rw[←d1,E3,d2]
 have hv2:gval ((a2.drop i).take b.length)=r:=by rw[htc]at E3;omega
 have hl3:(a2.set (i+b.length) 0).length=La:=by rw[List.length_set,hd.len,hs.len,hla]
 have hdr:(a2.set (i+b.length) 0).drop i=(a2.drop i).set b.length 0:=by
  rw[List.drop_set,if_neg (by omega),show i+b.length-i=b.length by omega]
 have hwn:gval ((a2.set (i+b.length) 0).drop i)=r:=by
  have hz4:gval ((a2.set (i+b.length) 0).drop (i+b.length+1))=0:=by rw[List.drop_set_of_lt (by omega)];exact hz2
  rw[m9 (a:=a2.set (i+b.length) 0) (i:=i) (k:=b.length) (by rw[List.length_set];exact hl2) hz4,at0_set hl2,if_pos rfl,Nat.zero_mul,Nat.add_zero,hdr,List.take_set_of_le (Nat.le_refl _),hv2]
 refine⟨hg0,htc,at2,h.put hb hi hl3 (hd.all.set _ _ (by decide)) (by omega) (by rw[List.take_set_of_le (by omega),hd.low,hs.low]) ?_ (by rw[hwn];exact hm)⟩;rw[hwn,Nat.add_sub_cancel];omega
theorem KnAt.start{A0 La:Nat}{b a q:List Nat}(hb:Dvr b)(hl:a.length=La)(ha:AllB a)(hq:q.length=La-b.length)(hqa:AllB q)(hv:gval a=A0)(_hLa:b.length≤La)(hr:gval (a.drop (La-b.length))<gval b):KnAt A0 b La (La-b.length) a q:=by
 have:=hb.two;exact⟨hl,ha,hq,hqa,by rw[List.drop_of_length_le (by omega),hv];simp[gval],hr⟩
theorem KnAt.fin{A0 La:Nat}{b a q:List Nat}(h:KnAt A0 b La 0 a q)(hb:Dvr b)(hLa:b.length≤La):A0 / gval b=gval q∧A0 % gval b=gval a∧gval (a.take b.length)=gval a:=by
 have hv:A0=gval q*gval b+gval a:=by simpa using h.val
 have hr:gval a<gval b:=by simpa using h.rest
 have hb0:=hb.pos;refine⟨?_,?_,?_⟩
 ·rw[hv,Nat.mul_comm,Nat.mul_add_div hb0,Nat.div_eq_of_lt hr];rfl
 ·rw[hv,Nat.mul_comm,Nat.mul_add_mod,Nat.mod_eq_of_lt hr]
 ·have hs:=cH a b.length (by rw[h.la];exact hLa);have hbl:=hb.lt;rcases Nat.eq_zero_or_pos (gval (a.drop b.length)) with h0|h0
  ·rw[h0]at hs;omega
  ·exfalso
   have:B9 ^ b.length*1≤B9 ^ b.length*gval (a.drop b.length):=Nat.mul_le_mul_left _ h0;omega
end
section
open Go.RowKit
attribute [local go_sem] size_bs toList_bs
def sD(n:Nat)(w:World)(e:Ending)(w':World):Prop :=
 ∃A c,e = .returned (.slice A (gr n).length c)∧w'.ownsRow w.heap.size 183 1 (.slice A (gr n).length c) (gr n).length (ucells (gr n))∧Ext w w'
theorem sD.mag{n:Nat}{w:World}{e:Ending}{w':World}(h:sD n w e w'):j7 n w e w':=by
 obtain⟨A,c,rfl,ho,hx⟩:=h;exact⟨A,c,rfl,Reads.own ho,hx,(fD ho).1,(fD ho).2⟩
theorem oW(n:Nat):ucells (List.replicate n 0)=List.replicate n (.int .u64 0):=by simp[ucells]
theorem vw(n c:Nat)(w:World)(hc:n=c)(hn:n≤3000000):∃W,(Instr.makeSlice 122 (.int .i64 (n:Int)) (.int .i64 (n:Int))).run Tryz.prog w = .ok (.slice (some ⟨w.heap.size,0,none⟩) n n) W∧aH W w.heap.size n (List.replicate n 0)∧Ext w W:=by
 obtain⟨i0,hI,hz0,hz1,hz2⟩:=info_parts j6;have h:=run_make (P:=Tryz.prog) w 122 183 i0 _ Tryz.underlying122 hI hz0 .i64 .i64 (n:Int) (n:Int) (by omega) (by omega) (by rw[hz2];omega) (by omega);rw[hz1,Int.toNat_natCast,Nat.mul_one]at h;refine⟨_,h,⟨List.replicate n (.int .u64 0),?_,by rw[oW];simp,by simp,by unfold maxLen;simp;omega,by simp,by rw[oW];simp⟩,Ext.new _ _⟩;have hb:=Blk.new w 183 (madeCells #[.int .u64 0] n)
 have e:madeCells (Value.int .u64 0).cells n=(List.replicate n (Value.int .u64 0)).toArray:=by
  rw[←toList_madeCells_one];rfl
 rw[e];exact Blk.new _ _ _
theorem aH.cutOwn{w:World}{g cap:Nat}{R:List Nat}{base:Nat}(h:aH w g cap R)(hb:base≤g):w.ownsRow base 183 1 (.slice (some ⟨g,0,none⟩) (cutL R).length cap) (cutL R).length (ucells (cutL R)):=by
 obtain⟨cur,h⟩:=h;have hp:=eJ R;have hl:=lG R;refine⟨by simp[ucells],.inr ⟨g,cap,cur.toArray,rfl,hb,h.blk,by have:=h.le;omega,h.big,by simpa using h.full,?_⟩⟩;have ht:=h.take;rw[Nat.mul_one]at ht ⊢;have:(cur.take R.length).take (cutL R).length=(ucells R).take (cutL R).length:=by rw[ht]
 rw[List.take_take,Nat.min_eq_left hl]at this
 show cur.take _=_;rw[this];conv=>rhs;rw[hp]
 simp[ucells,List.map_take]
theorem aH.at0{w:World}{g cap:Nat}{R:List Nat}(h:aH w g cap R){k:Nat}(hk:k<R.length):w.cell? ⟨g,k,none⟩=some (.int .u64 (at0 R k:Nat)):=by
 rw[at0_lt hk];exact h.cell (List.getElem?_eq_getElem hk)
theorem Dh{x y:Nat}(hx:x<B9)(hy:y<B9):0≤(x:Int)*(y:Int)∧(x:Int)*(y:Int)≤999999998000000001:=by
 have h1:x*y≤999999999*999999999:=Nat.mul_le_mul (by have e:B9=1000000000:=rfl;omega) (by have e:B9=1000000000:=rfl;omega);rw[←Int.natCast_mul];omega
theorem Ia(c o x y:Nat):((c:Int)+((o:Int)+(x:Int)*(y:Int))) / 1000000000=(((c+o+x*y) / B9:Nat):Int)∧((c:Int)+((o:Int)+(x:Int)*(y:Int))) % 1000000000=(((c+o+x*y) % B9:Nat):Int):=by
 have e:B9=1000000000:=rfl;rw[←Int.natCast_mul,e];generalize x*y=z;omega
theorem nY(x y:Nat)(A A':Option Addr)(c c':Nat)(w:World)(hA:RdU w A (gr x))(hA':RdU w A' (gr y))(hn:(gr x).length≤1000000)(hn':(gr y).length≤1000000) :
  Calls Tryz.prog 224 #[.slice A (gr x).length c,.slice A' (gr y).length c'] w (sD (x*y) w):=by
 have HA:=qh hA;have HA':=qh hA';have HBX:Hid (AllB (gr x)):=qh (gr_lt x);have HBY:Hid (AllB (gr y)):=qh (gr_lt y);have HVX:=qh (cG x);have HVY:=qh (cG y);generalize gr x=gx at *;generalize gr y=gy at *;clear hA hA';obtain⟨W,hmk,hrow,hxW⟩:=vw (gx.length+gy.length) _ w rfl (by omega);rw[Int.natCast_add]at hmk;have HROW:=qh hrow;have HXW:=qh hxW;clear hrow hxW;go_enter Tryz.func224,Tryz.ntmps224;go_wp2_with fail;clear hmk;go_loopw [19,6,7,8,9,10] (fun i _ _ _ _ _ wr=>∃(k:Nat) (R:List Nat),k≤gx.length∧i = .int .i64 k∧aH wr w.heap.size (gx.length+gy.length) R∧MulOut gx gy (gx.length+gy.length) k R∧Ext w wr) (fun i _ _ _ _ _ _=>gx.length-(intOf i).toNat)
 case atStart=>exact⟨0,_,by omega,rfl,HROW.out,MulOut.start _ _ _,HXW.out⟩
 case round =>
  clear HROW HXW;obtain⟨i,R,hi,rfl,hrow,hmo,hx⟩:=hrel;have HR:=qh hrow;have HM:=qh hmo;have HX:=qh hx;clear hrow hmo hx;by_cases hlt:i<gx.length
  ·obtain⟨b,o,rfl,hb,hcx⟩:=(HA.out.ext HX.out).at_ hlt;rw[←at0_lt hlt]at hcx;have hbx:=HBX.out.at0 i;have HIN:=qh (HM.out.in_ (at0 gx i));have HNX:=qh (fun R'=>MulOut.next (m:=gx) (n:=gy) (R:=R') (L:=gx.length+gy.length) (i:=i));generalize at0 gx i=xi at *;obtain⟨wo,rfl⟩:∃wo:World,wo=wr:=⟨_,rfl⟩;go_wp2_with fail;clear hcx;go_loopw [26,8,9,10] (fun vk vc _ _ wr=>∃(k ca:Nat) (R:List Nat),k≤gy.length∧vk = .int .i64 k∧vc = .int .u64 ca∧aH wr w.heap.size (gx.length+gy.length) R∧MulIn xi gy (gval (gx.take i)*gval gy) (gx.length+gy.length) i k ca R∧Ext w wr) (fun vk _ _ _ _=>gy.length-(intOf vk).toNat)
   case atStart=>exact⟨0,0,R,by omega,rfl,rfl,HR.out,HIN.out,HX.out⟩
   case round =>
    clear HR HM HX HIN;obtain⟨k,ca,R,hk,rfl,rfl,hrow,hmi,hx⟩:=hrel;have HR:=qh hrow;have HM:=qh hmi;have HX:=qh hx;have hRl:=hmi.len;have hcb:=hmi.cb;clear hrow hmi hx;by_cases hltk:k<gy.length
    ·obtain⟨b',o',rfl,hb',hcy⟩:=(HA'.out.ext HX.out).at_ hltk;rw[←at0_lt hltk]at hcy;have hby:=HBY.out.at0 k;have hcr:=HR.out.at0 (k:=i+k) (by omega);have hfr:=HR.out.frozen (i+k);have hor:=HM.out.all.at0 (i+k);have HST:=qh (HM.out.step hbx HBY.out hltk (by omega));have HRS:=qh (fun v z hz=>HR.out.put (i+k) z v (by omega) hz);generalize at0 gy k=yk at *;generalize at0 R (i+k)=ok at *;obtain⟨hm0,hm1⟩:=Dh hbx hby;have e9:B9=1000000000:=rfl;rw[e9]at hcb hor;clear e9;have hik:((i:Int)+(k:Int)).toNat=i+k:=by omega
     go_wp2_with fail;obtain⟨hq,hr⟩:=Ia ca ok xi yk;exact⟨⟨k+1,_,_,by omega,by go_num,by rw[hq],HRS.out _ _ hr,HST.out,HX.out.setCell (p:=⟨w.heap.size,i+k,none⟩) (Nat.le_refl _) _⟩,by simp[intOf];omega⟩
    ·have hkl:k=gy.length:=by omega
     subst hkl;clear hltk hk;rcases Nat.eq_zero_or_pos gy.length with h0|h0
     ·have HNR:Hid (MulOut gx gy (gx.length+gy.length) (i+1) R):=qh (HNX.out R hRl HM.out.all (by
       have hgy:gy=[]:=List.length_eq_zero_iff.1 h0;have hv:=HM.out.val;rw[hgy]at hv ⊢;simp only[List.take_nil,show gval []=0 from rfl,Nat.mul_zero,Nat.zero_mul,Nat.add_zero]at hv ⊢;omega) (fun j hj=>HM.out.tail j (by omega)))
      have hz:¬ ((0:Int)<(gy.length:Int)):=by omega
      have hz2:¬ (0<gy.length):=by omega
      clear h0;go_wp2_with fail;exact⟨⟨i+1,R,by omega,by go_num,HR.out,HNR.out,HX.out⟩,by simp[intOf];omega⟩
     ·have hcr:=HR.out.at0 (k:=i+gy.length) (by omega);have hfr:=HR.out.frozen (i+gy.length);have hor:=HM.out.all.at0 (i+gy.length);obtain⟨d1,d2,d3,d4⟩:=HM.out.done (by omega);have HNR:=qh (HNX.out _ d1 d2 d3 d4);have HRS:=qh (fun v z hz=>HR.out.put (i+gy.length) z v (by omega) hz);clear d1 d2 d3 d4;generalize at0 R (i+gy.length)=ok at *;have e9:B9=1000000000:=rfl;rw[e9]at hcb hor;clear e9;have hik:((i:Int)+(gy.length:Int)).toNat=i+gy.length:=by omega
      go_wp2_with fail;exact⟨⟨i+1,_,by omega,by go_num,HRS.out _ _ (by omega),HNR.out,HX.out.setCell (p:=⟨w.heap.size,i+gy.length,none⟩) (Nat.le_refl _) _⟩,by simp[intOf];omega⟩
  ·have hil:i=gx.length:=by omega
   subst hil;have HCF:Hid (cutL R=gr (x*y)):=qh (by rw[HM.out.fin (Nat.le_refl _),HVX.out,HVY.out]);have hRl:=HM.out.len;have HCP:=qh (HR.out.caps);have HCUT:=qh (intCut R (some ⟨w.heap.size,0,none⟩) (gx.length+gy.length) wr HR.out.reads HCP.out.1 HCP.out.2 HM.out.all);have HOW:=qh (HR.out.cutOwn (base:=w.heap.size) (Nat.le_refl _));rw[HCF.out]at HCUT HOW;rw[hRl]at HCUT;clear hlt;go_wp2_with fail;refine HCUT.out.mono ?_;rintro e w9⟨rfl,rfl⟩;go_wp2_with fail;go_ret;exact⟨_,_,rfl,HOW.out,HX.out⟩
end
section
open Go.RowKit
attribute [local go_sem] size_bs toList_bs
def Di(q r:Nat)(w:World)(e:Ending)(w':World):Prop :=
 ∃A c,e = .returned (.tuple #[.slice A (gr q).length c,.int .u64 (r:Nat)])∧w'.ownsRow w.heap.size 183 1 (.slice A (gr q).length c) (gr q).length (ucells (gr q))∧Ext w w'
theorem IH(r x d:Nat):((r:Int)*1000000000+(x:Int)) / (d:Int)=(((r*B9+x) / d:Nat):Int)∧((r:Int)*1000000000+(x:Int)) % (d:Int)=(((r*B9+x) % d:Nat):Int):=by
 have e:(r:Int)*1000000000+(x:Int)=((r*B9+x:Nat):Int):=by
  rw[Int.natCast_add,Int.natCast_mul];rfl
 rw[e];exact⟨rfl,rfl⟩
theorem qJ(x d:Nat)(hd:0<d)(hdB:d<B9)(A:Option Addr)(c:Nat)(w:World)(hA:RdU w A (gr x))(hn:(gr x).length≤1000000) :
  Calls Tryz.prog 274 #[.slice A (gr x).length c,.int .u64 (d:Nat)] w (Di (x / d) (x % d) w):=by
 have HA:=qh hA;have HBX:Hid (AllB (gr x)):=qh (gr_lt x);have HVX:=qh (cG x);generalize gr x=gx at *;clear hA;obtain⟨W,hmk,hrow,hxW⟩:=vw gx.length _ w rfl (by omega);have HROW:=qh hrow;have HXW:=qh hxW;clear hrow hxW;have e9:B9=1000000000:=rfl;rw[e9]at hdB;clear e9;have hdz:((d:Int) == 0)=false:=by rw[beq_eq_false_iff_ne];omega
 go_enter Tryz.func274,Tryz.ntmps274;go_wp2_with fail;clear hmk;go_loopw [8,7] (fun vi vr wr=>∃(i r:Nat) (R:List Nat),i≤gx.length∧vi = .int .i64 ((i:Int)-1)∧vr = .int .u64 r∧aH wr w.heap.size gx.length R∧SgAt gx d i r R∧Ext w wr) (fun vi _ _=>(intOf vi+1).toNat)
 case atStart=>exact⟨gx.length,0,_,Nat.le_refl _,rfl,rfl,HROW.out,SgAt.start hd _ (by simp) (fun g hg=>by rw[(List.mem_replicate.1 hg).2];decide),HXW.out⟩
 case round =>
  clear HROW HXW;obtain⟨i,r,R,hi,rfl,rfl,hrow,hs,hx⟩:=hrel;have HR:=qh hrow;have HS:=qh hs;have HX:=qh hx;have hRl:=hs.len;have hrb:=hs.rb;clear hrow hs hx;rcases Nat.eq_zero_or_pos i with h0|h0
  ·subst h0;obtain⟨f1,f2,f3⟩:=HS.out.fin;have HF2:Hid (x % d=r):=qh (by rw[←HVX.out];exact f2);have HCF:Hid (cutL R=gr (x / d)):=qh (by rw[f3,HVX.out]);have HCP:=qh (HR.out.caps);have HCUT:=qh (intCut R (some ⟨w.heap.size,0,none⟩) gx.length wr HR.out.reads HCP.out.1 HCP.out.2 HS.out.all);have HOW:=qh (HR.out.cutOwn (base:=w.heap.size) (Nat.le_refl _));rw[HCF.out]at HCUT HOW;rw[hRl]at HCUT;clear f1 f2 f3;go_wp2_with fail;refine HCUT.out.mono ?_;rintro e w9⟨rfl,rfl⟩;go_wp2_with fail;go_ret2;exact⟨_,_,by rw[HF2.out];rfl,HOW.out,HX.out⟩
  ·obtain⟨j,rfl⟩:∃j,i=j+1:=⟨i-1,by omega⟩;have hj:j<gx.length:=by omega
   have e0:((j+1:Nat):Int)-1=(j:Int):=by omega
   rw[e0];clear e0;obtain⟨b,o,rfl,hb,hcx⟩:=(HA.out.ext HX.out).at_ hj;rw[←at0_lt hj]at hcx;have hbx:=HBX.out.at0 j;have HST:=qh (HS.out.step HBX.out hj);have hcr:=HR.out.at0 (k:=j) (by omega);have hfr:=HR.out.frozen j;have HRS:=qh (fun v z hz=>HR.out.put j z v (by omega) hz);have e9:B9=1000000000:=rfl;rw[e9]at hbx;clear e9;generalize at0 gx j=xj at *;generalize at0 R j=oj at *;obtain⟨hq,hr⟩:=IH r xj d;have HQ:=qh hq;have HRM:=qh hr;clear hq hr;go_wp2_with fail;exact⟨⟨j,_,_,by omega,by first|rfl|go_num,by rw[HRM.out],HRS.out _ _ HQ.out,HST.out,HX.out.setCell (p:=⟨w.heap.size,j,none⟩) (Nat.le_refl _) _⟩,by simp[intOf] <;> omega⟩
theorem BQ(a b:Bool)(x y:Nat):sgn (a != b) (x*y)=sgn a x*sgn b y:=by
 cases a <;> cases b <;> simp[sgn,Int.natCast_mul,Int.neg_mul,Int.mul_neg]
theorem wT{x y L:Nat}(hx:x<10 ^ L)(hy:y<10 ^ L):(gr (x*y)).length≤L+L:=by
 refine gr_len10 ?_;rw[Nat.pow_add];exact Nat.mul_lt_mul'' hx hy
theorem Dj(a b:Bs)(w:World)(ha:a.length≤100000)(hb:b.length≤100000)(hE:Env w) :
  Calls Tryz.prog 160 #[.string (bs a),.string (bs b)] w fun e w'=>e = .returned (.string (bs (ofI (valI a*valI b))))∧Ext w w':=by
 have HR1:=qh (fun W=>intRead a W (by omega));have HR2:=qh (fun W=>intRead b W (by omega));obtain⟨L,hLa,hLb,hL⟩:∃L:Nat,a.length≤L∧b.length≤L∧L≤100000:=⟨max a.length b.length,by omega,by omega,by omega⟩;have HL1:Hid ((gr (natOf (mag a))).length≤1000000):=qh (by have:=gr_len10 (mag_pow a hLa);omega);have HL2:Hid ((gr (natOf (mag b))).length≤1000000):=qh (by have:=gr_len10 (mag_pow b hLb);omega);have HL3:Hid ((gr (natOf (mag a)*natOf (mag b))).length≤1000000):=qh (by have:=wT (mag_pow a hLa) (mag_pow b hLb);omega);have HE:=qh hE;have HV:Hid (txt (!(neg a == neg b)) (natOf (mag a)*natOf (mag b))=ofI (valI a*valI b)):=qh (by rw[txt_ofI,show(!(neg a == neg b))=(neg a != neg b) from rfl,BQ];rfl);generalize ofI (valI a*valI b)=z at *;generalize natOf (mag a)=x at *;generalize natOf (mag b)=y at *;generalize neg a=ba at *;generalize neg b=bb at *;clear ha hb hLa hLb hE;go_enter Tryz.func160,Tryz.ntmps160;go_wp2_with fail;refine(HR1.out _).mono ?_;rintro e w1⟨A,c,rfl,hrd1,hx1,_,_⟩;go_wp2_with fail;refine(HR2.out _).mono ?_;rintro e w2⟨A',c',rfl,hrd2,hx2,_,_⟩;have HB1:=qh ((Blk.new w2 124 #[.bool ba,.slice A (gr x).length c]).alloc (.cells #[.bool bb,.slice A' (gr y).length c'] 124));have HB2:=qh (blk_at (w2.alloc (.cells #[.bool ba,.slice A (gr x).length c] 124)) 124 #[.bool bb,.slice A' (gr y).length c'] (w2.heap.size+1) (by simp));have HX:Hid (Ext w ((w2.alloc (.cells #[.bool ba,.slice A (gr x).length c] 124)).alloc (.cells #[.bool bb,.slice A' (gr y).length c'] 124))):=qh (((hx1.trans hx2).alloc _).alloc _);have HD1:=qh (((hrd1.ext hx2).ext (Ext.new _ (.cells #[.bool ba,.slice A (gr x).length c] 124))).ext (Ext.new _ (.cells #[.bool bb,.slice A' (gr y).length c'] 124)));have HD2:=qh ((hrd2.ext (Ext.new _ (.cells #[.bool ba,.slice A (gr x).length c] 124))).ext (Ext.new _ (.cells #[.bool bb,.slice A' (gr y).length c'] 124)));clear hrd1 hrd2 hx1 hx2;go_wp2_with fail;generalize ((w2.alloc (.cells #[.bool ba,.slice A (gr x).length c] 124)).alloc (.cells #[.bool bb,.slice A' (gr y).length c'] 124))=W at *;generalize w2.heap.size=g at *;have x0:=HB1.out.cell 0;have x1:=HB1.out.cell 1;have y0:=HB2.out.cell 0;have y1:=HB2.out.cell 1;simp only[List.getElem?_toArray,List.getElem?_cons_zero,List.getElem?_cons_succ]at x0 x1 y0 y1;replace HX:=qh HX.out.drew;replace HB1:=qh HB1.out.drew;replace HB2:=qh HB2.out.drew;replace HD1:=qh (HD1.out.ext (Ext.refl W).drew);replace HD2:=qh (HD2.out.ext (Ext.refl W).drew)
 go_region_held3 (fun w'=>w'.cell? ⟨g,0,none⟩=some (.bool ba)∧w'.cell? ⟨g,1,none⟩=some (.slice A (gr x).length c)∧w'.cell? ⟨g+1,0,none⟩=some (.bool bb)∧w'.cell? ⟨g+1,1,none⟩=some (.slice A' (gr y).length c'))
  (go_keep)
  (first
   |(go_at_call 224;((with_reducible refine(nY x y A A' c c' _ HD1.out HD2.out HL1.out HL2.out).mono ?_);rintro e w4 h4);(obtain⟨A1,c1,rfl,hrd,hx,hc1,hc2⟩:=h4.mag);(have hb1:=HB1.out.ext hx);(have hb2:=HB2.out.ext hx);(have u0:=hb1.cell 0);(have u1:=hb1.cell 1);(have v0:=hb2.cell 0);(have v1:=hb2.cell 1);(simp only[List.getElem?_toArray,List.getElem?_cons_zero,List.getElem?_cons_succ]at u0 u1 v0 v1);(replace HB1:=qh hb1);(replace HB2:=qh hb2);(replace HX:=HX.qt hx);(have HD:=qh hrd);(have HC:=qh (And.intro hc1 hc2));clear hb1 hb2 hrd hx hc1 hc2 h4)
   |(go_at_call 80;((with_reducible refine(intText (!(ba == bb)) (x*y) A1 c1 _ HD.out HL3.out HC.out.1 HC.out.2 (HE.out.ext HX.out)).mono ?_);rintro e w5⟨rfl,hx⟩);(have hb1:=HB1.out.ext hx);(have hb2:=HB2.out.ext hx);(have s0:=hb1.cell 0);(have s1:=hb1.cell 1);(have t0:=hb2.cell 0);(have t1:=hb2.cell 1);(simp only[List.getElem?_toArray,List.getElem?_cons_zero,List.getElem?_cons_succ]at s0 s1 t0 t1);(replace HX:=HX.qt hx);clear hb1 hb2 hx))
 all_goals
  rw[HV.out];go_wp2_with fail;go_ret;exact⟨rfl,HX.out⟩
end
section
open Go.RowKit
attribute [local go_sem] size_bs toList_bs
def na(q r:Nat)(w:World)(e:Ending)(w':World):Prop :=
 ∃A1 c1 A2 c2,e = .returned (.tuple #[.slice A1 (gr q).length c1,.slice A2 (gr r).length c2])∧RdU w' A1 (gr q)∧RdU w' A2 (gr r)∧Ext w w'∧((gr q).length≤c1∧c1≤maxLen)∧((gr r).length≤c2∧c2≤maxLen)
theorem sE(x y:Nat)(h:x<y)(A A':Option Addr)(c c':Nat)(w:World)(hA:RdU w A (gr x))(hA':RdU w A' (gr y))(hn:(gr x).length≤1000000)(hn':(gr y).length≤1000000)(hc:(gr x).length≤c)(hm:c≤maxLen) :
  Calls Tryz.prog 213 #[.slice A (gr x).length c,.slice A' (gr y).length c'] w (na (x / y) (x % y) w):=by
 have HA:=qh hA;have HC:=qh (And.intro hc hm);have HCP:=qh (jS x y A A' c c' w hA hA' hn hn');have HQ:Hid (gr (x / y)=[]∧gr (x % y)=gr x):=qh ⟨by rw[Nat.div_eq_of_lt h,gr_zero],by rw[Nat.mod_eq_of_lt h]⟩;clear hA hA' hc hm;go_enter Tryz.func213,Tryz.ntmps213;go_wp2_with fail;refine HCP.out.mono ?_;rintro e w1⟨hx1,r,rfl,hcase⟩;have hr:r<0:=by omega
 have HX1:=qh hx1;clear hcase hx1;go_wp2_with fail;go_ret2;refine⟨none,0,A,c,by rw[HQ.out.1,HQ.out.2];rfl,by rw[HQ.out.1];exact Reads.nil,by rw[HQ.out.2];exact HA.out.ext HX1.out,HX1.out,by rw[HQ.out.1];exact⟨by simp,by unfold maxLen;omega⟩,by rw[HQ.out.2];exact HC.out⟩
theorem Dk{y:Nat}(h:(gr y).length=1):gr y=[y]∧0<y∧y<B9:=by
 have hy:y≠0:=by intro e;rw[e,gr_zero]at h;simp at h
 rw[gr_pos hy]at h;have h2:gr (y / B9)=[]:=List.length_eq_zero_iff.1 (by simpa using h);have h3:y / B9=0:=iv (by rw[h2,gr_zero]);have e:B9=1000000000:=rfl;have h4:y<B9:=by rw[e]at h3 ⊢;omega
 exact⟨by rw[gr_pos hy,h2,Nat.mod_eq_of_lt h4],by omega,h4⟩
theorem pM{r:Nat}(h:r<B9):cutL [r]=gr r:=by
 rw[cutL_gr (by intro g hg;simp at hg;omega)];show gr (r+B9*0)=gr r;rw[Nat.mul_zero,Nat.add_zero]
theorem rH(x y:Nat)(h:y≤x)(h1:(gr y).length=1)(A A':Option Addr)(c c':Nat)(w:World)(hA:RdU w A (gr x))(hA':RdU w A' (gr y))(hn:(gr x).length≤1000000) :
  Calls Tryz.prog 213 #[.slice A (gr x).length c,.slice A' (gr y).length c'] w (na (x / y) (x % y) w):=by
 obtain⟨e1,hy0,hyB⟩:=Dk h1;have HA:=qh hA;have HCP:=qh (jS x y A A' c c' w hA hA' hn (by omega));have HSG:=qh (fun W hW=>qJ x y hy0 hyB A c W hW hn);have hA2:=hA';rw[e1]at hA2;obtain⟨b,o,rfl,hb,hcy⟩:=hA2.at_ (k:=0) (by simp);have HCY:=qh hcy;have HRB:Hid (x % y<B9):=qh (Nat.lt_trans (Nat.mod_lt _ hy0) hyB);have HL:Hid ((gr y).length=1):=qh h1;rw[h1]at HCP ⊢;clear hA hA' hA2 e1 h1 hcy hyB;generalize x / y=q at *;generalize x % y=r at *;go_enter Tryz.func213,Tryz.ntmps213;go_wp2_with fail;refine HCP.out.mono ?_;rintro e w1⟨hx1,z,rfl,hcase⟩;have hr:¬ z<0:=by omega
 have HX1:=qh hx1;have hcy:=(hx1.cell (p:=⟨b,o+0,none⟩) hb).trans HCY.out;simp only[Nat.add_zero,List.getElem_cons_zero]at hcy;clear hcase hx1;go_wp2_with fail;refine(HSG.out _ (HA.out.ext HX1.out)).mono ?_;rintro e w2⟨A1,c1,rfl,hown,hx2⟩;have HOW:=qh hown;have HX2:=HX1.qt hx2;clear hown hx2 hcy;have HCUT:=qh (intCut [r] (some ⟨w2.heap.size,0,none⟩) 1 (w2.alloc (.cells #[.int .u64 r] 183)) (Reads.lit rfl) (by simp) (by unfold maxLen;omega) (by intro g hg;simp at hg;have:=HRB.out;omega));rw[pM HRB.out]at HCUT;go_wp2_with fail;refine HCUT.out.mono ?_;rintro e w3⟨rfl,rfl⟩;go_wp2_with fail;go_ret2
 have hrd:RdU (w2.alloc (.cells #[.int .u64 r] 183)) (some ⟨w2.heap.size,0,none⟩) (gr r):=by
  have h1:RdU (w2.alloc (.cells #[.int .u64 r] 183)) (some ⟨w2.heap.size,0,none⟩) [r]:=Reads.lit rfl;have h2:=eJ [r];rw[pM HRB.out]at h2;rw[h2];exact h1.take _
 have hrl:(gr r).length≤1:=by have:=lG [r];rw[pM HRB.out]at this;simpa using this
 exact⟨A1,c1,_,_,rfl,(show RdU w2 A1 (gr q) from Reads.own HOW.out).ext (Ext.new _ _),hrd,HX2.out.alloc _,fD HOW.out,hrl,by unfold maxLen;omega⟩
end
section
open Go.RowKit
theorem aH.far{w:World}{g cap:Nat}{gs:List Nat}(h:aH w g cap gs){g':Nat}(hne:g≠g')(k:Nat)(u:Value):aH (w.setCell ⟨g',k,none⟩ u) g cap gs:=by
 obtain⟨cur,h⟩:=h;exact⟨cur,{ h with blk:=h.blk.far (p:=⟨g',k,none⟩) hne u }⟩
theorem aH.of_own{w:World}{base:Nat}{A:Option Addr}{c:Nat}{gs:List Nat}(h:w.ownsRow base 183 1 (.slice A gs.length c) gs.length (ucells gs))(h0:0<gs.length):∃g,A=some ⟨g,0,none⟩∧base≤g∧aH w g c gs:=by
 obtain⟨g,cap,e1,hg,hlt⟩:=h.form h0;injection e1 with e1 _ e3
 subst e1;subst e3;obtain⟨hgb,cur,hrow⟩:=Row.of_own h;exact⟨g,rfl,hgb,cur,hrow⟩
theorem yV{t:Nat}(h0:0<t)(hB:t<B9):0<1000000000 / (t+1)∧1000000000 / (t+1)<B9:=by
 have e:B9=1000000000:=rfl;rw[e]at hB ⊢;constructor
 ·exact Nat.div_pos (by omega) (by omega)
 ·exact Nat.div_lt_self (by omega) (by omega)
theorem l8{s:Nat}(h0:0<s)(hB:s<B9):gr s=[s]:=by
 rw[gr_pos (by omega),Nat.mod_eq_of_lt hB,Nat.div_eq_of_lt hB,gr_zero]
theorem qK{y:Nat}(h:0<(gr y).length):0<at0 (gr y) ((gr y).length-1):=by
 have hne:gr y≠[]:=by intro e;rw[e]at h;simp at h
 have ht:=wK y ((gr y).dropLast) ((gr y).getLast hne) (List.dropLast_concat_getLast hne).symm;rw[at0_lt (by omega),←List.getLast_eq_getElem hne];omega
theorem sF{y:Nat}(h:2≤(gr y).length):Dvr (gr y):=⟨h,gr_lt y,qK (by omega)⟩
theorem t8{a b:List Nat}(ha:AllB a)(hb:AllB b):AllB (a++b):=fun g hg=>by
 rcases List.mem_append.1 hg with h|h
 ·exact ha g h
 ·exact hb g h
theorem yW{X Y:Nat}(hY:2≤(gr Y).length)(hXY:Y≤X):KnAt X (gr Y) ((gr X).length+2) ((gr X).length+2-(gr Y).length) (gr X++[0,0]) (List.replicate ((gr X).length+2-(gr Y).length) 0)∧(gr Y).length≤(gr X).length:=by
 have hl:=jq hXY;have hb:=sF hY;refine⟨KnAt.start hb (by simp) (t8 (gr_lt X) (by intro g hg;simp at hg;subst hg;decide)) (by simp) (fun g hg=>by rw[(List.mem_replicate.1 hg).2];decide) ?_ (by omega) ?_,hl⟩
 ·rw[gval_append,show gval [0,0]=0 from rfl,Nat.mul_zero,Nat.add_zero,cG]
 ·have e1:(gr X++[0,0]).drop ((gr X).length+2-(gr Y).length)=(gr X).drop ((gr X).length+2-(gr Y).length)++[0,0]:=by
   rw[List.drop_append_of_le_length (by omega)]
  rw[e1,gval_append,show gval [0,0]=0 from rfl,Nat.mul_zero,Nat.add_zero];have h1:=gval_lt (AllB.drop (gr_lt X) ((gr X).length+2-(gr Y).length));rw[List.length_drop]at h1;have h2:(gr X).length-((gr X).length+2-(gr Y).length)=(gr Y).length-2:=by omega
  rw[h2]at h1;obtain⟨p1,_⟩:=hb.parts;have h3:1*B9 ^ ((gr Y).length-2)≤(at0 (gr Y) ((gr Y).length-1)*B9+at0 (gr Y) ((gr Y).length-2))*B9 ^ ((gr Y).length-2):=Nat.mul_le_mul_right _ (by have:=hb.top;have e:B9=1000000000:=rfl;rw[e];omega);omega
theorem Dl{x y s:Nat}(hs:0<s)(_hy:0<y):(x*s) / (y*s)=x / y∧(x*s) % (y*s)=(x % y)*s∧(x % y)*s / s=x % y :=
 ⟨Nat.mul_div_mul_right _ _ hs,Nat.mul_mod_mul_right _ _ _,Nat.mul_div_cancel _ hs⟩
theorem Dm{X Y:Nat}{a q:List Nat}(h:KnAt X (gr Y) ((gr X).length+2) 0 a q)(hY:2≤(gr Y).length)(hl:(gr Y).length≤(gr X).length):cutL q=gr (X / Y)∧cutL (a.take (gr Y).length)=gr (X % Y):=by
 obtain⟨f1,f2,f3⟩:=h.fin (sF hY) (by omega);rw[cG]at f1 f2;refine⟨by rw[cutL_gr h.allq,f1],?_⟩;rw[cutL_gr (h.alla.take _),f3,f2]
theorem SubIn.top{g:Nat}{b a0 a:List Nat}{i j bo:Nat}(h:SubIn g b a0 i j bo a):at0 a (i+j)=at0 a0 (i+j):=by
 have h1:=fP a (i+j) 0;have h2:=fP a0 (i+j) 0;rw[h.high]at h1;rw[Nat.add_zero]at h1 h2;rw[←h1,←h2]
theorem AddIn.ex{b a0:List Nat}{i:Nat}(hb:AllB b)(ha:AllB a0):∀j,i+j≤a0.length→∃ca a,AddIn b a0 i j ca a
 |0,_=>⟨0,a0,AddIn.start ha⟩
 |j+1,h=>by
  obtain⟨ca,a,h1⟩:=AddIn.ex (i:=i) hb ha j (by omega);exact⟨_,_,h1.step hb (by omega)⟩
theorem KnAt.pos{A0 La i:Nat}{b a q a1:List Nat}{g bo:Nat}(h:KnAt A0 b La (i+1) a q)(hb:Dvr b)(hi:i+b.length<La)(hs:SubIn g b a i b.length bo a1)(hg:g<B9)(hle:g≤gval (a.drop i) / gval b+1)(ht:at0 a (i+b.length)<bo):0<g:=by
 obtain⟨ca,a2,h1⟩:=AddIn.ex (b:=b) (i:=i) hb.all hs.all b.length (by rw[hs.len,h.la];omega);exact(h.wrong hb hi hs h1 hg hle ht).1
end
end Go.Proofs.YthgpheopnhajaaaGreatDoor
