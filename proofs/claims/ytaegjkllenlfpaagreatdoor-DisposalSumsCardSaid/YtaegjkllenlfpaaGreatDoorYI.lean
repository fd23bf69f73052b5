/- The seat's texts, part YI. -/
import Derived.Test.YtaegjkllenlfpaaGreatDoorY34
import Derived.Test.YtaegjkllenlfpaaGreatDoorYL
set_option maxRecDepth 100000
set_option maxHeartbeats 8000000
namespace Go.Proofs.YtaegjkllenlfpaaGreatDoor
open Go.Proofs.Tryz
variable {g q k base y:Nat}{l s:Bs}{w W:World}{A B:Option Addr}{e:TypeId}{v:Value}
section
open Go.RowKit
def AC:Value->Nat | .string s=>s.size | _=>0
theorem FX{c:UInt8}(h:c.toNat<48∨57<c.toNat):isD c=false:=by
 unfold isD;rcases h with h|h
 ·rw[QL];left;simp;omega
 ·rw[QL];right;simp;omega
theorem DG{c:UInt8}(h:48<=c.toNat)(h':c.toNat<=57):isD c=true:=by simp[isD,h,h']
theorem FY(t:Bs)(k:Nat)(hk:k<t.length)(h:(t[k]'hk).toNat<48∨57<(t[k]'hk).toNat):t.all isD=false:=by
 rw[Sg];exact⟨_,Ml hk,by simp[FX h]⟩
theorem pP(t:Bs)(k:Nat)(hk:k<t.length)(h:(t[k]'hk).toNat<48∨57<(t[k]'hk).toNat):magT t=[]:=by
 unfold magT;rw[FY t k hk h];rfl
theorem uY(b:Bool)(t:Bs)(k:Nat)(hk:k<t.length)(h:(t[k]'hk).toNat<48∨57<(t[k]'hk).toNat):negT b t=false:=by
 unfold negT;rw[pP t k hk h];simp
theorem tj(t:Bs)(k:Nat)(hk:k<t.length)(h:(t.take k).all isD=true)(h1:¬ ((t[k]'hk).toNat:Int)<48)(h2:¬ 57<((t[k]'hk).toNat:Int)):(t.take (k+1)).all isD=true:=by
 rw[Mo hk,OI,h];simp only[NH,List.all_nil,Qn,Oq];exact DG (by omega) (by omega)
theorem uZ(t:Bs)(k:Nat)(hk:¬ k<t.length)(h:(t.take k).all isD=true):t.all isD=true:=by
 rw[Mv (by omega)]at h;exact h
theorem td(b:Bool)(t:Bs)(h:t.all isD=true):negT b t=(b && !(noZeros t).isEmpty):=by unfold negT;rw[magT_good t h]
theorem AD(l:Bs)(k:Nat)(hk:¬ k<l.length)(h:(l.take k).all isN=true):l.all isN=true:=by
 rw[Mv (by omega)]at h;exact h
theorem mV(l:Bs)(h:l.all isN=true):isName l=(decide (1<=l.length) && decide (l.length<=16)):=by
 unfold isName;rw[h,Qn]
theorem AE(r:List Nat)(g:Nat):lowT (r++[g])=pad9 g++lowT r:=by unfold lowT;simp
theorem pQ:∀(r:List Nat),(∀g ∈ r,g<B9)->natOf (lowT r)=gval r
 |[],_=>rfl
 |g :: r,h=>by
  rw[lowT_cons,natOf_append,pad9_len (h g (by simp)),pad9_val,pQ r (fun x hx=>h x (by simp[hx]))];show _=g+B9*gval r;rw[show(10:Nat) ^ 9=B9 from rfl,MF];omega
theorem AF(b:Bool)(gs:List Nat)(h:∀g ∈ gs,g<B9):canon (if b then 45 :: lowT gs else lowT gs)=ofI (if b then -(gval gs:Int) else gval gs):=by
 rw[canon_ofI]
 cases b
 ·rw[Mj (by decide),Mj (by decide),valI_dig (lowT_all gs),pQ gs h]
 ·rw[Mq rfl,Mq rfl,valI_min (lowT_all gs),pQ gs h]
def dW(n:Nat):Nat->Bs | 0=>[]|j+1=>UInt8.ofNat (48+n / 10 ^ j % 10) :: dW n j
theorem nK(n j:Nat):(dW n j).length=j:=by induction j with|zero=>rfl|succ j ih=>simp[dW,ih]
theorem FZ(n:Nat):isD (UInt8.ofNat (48+n % 10))=true:=(dig_of _ (NV _ (by decide))).1
theorem AG(n j:Nat):(dW n j).all isD=true:=by
 induction j with
 |zero=>rfl
 |succ j ih=>rw[dW,NH,ih,Qn];exact FZ _
theorem AH(n j:Nat):natOf (dW n j)=n % 10 ^ j:=by
 induction j with
 |zero=>simp[dW,natOf,Nat.mod_one]
 |succ j ih =>
  have e:natOf (dW n (j+1))=natOf [UInt8.ofNat (48+n / 10 ^ j % 10)]*10 ^ (dW n j).length+natOf (dW n j):=natOf_append [_] (dW n j)
  have e2:natOf [UInt8.ofNat (48+n / 10 ^ j % 10)]=n / 10 ^ j % 10:=by
   show 10*0+dval _=_;rw[dval_dig (NV _ (by decide))];omega
  rw[e,e2,nK,ih,Nf,Nat.mod_mul,MF];omega
theorem F0:∀ {a b:Bs},a.all isD=true->b.all isD=true->a.length=b.length->natOf a=natOf b->a=b:=by
 intro a;induction a using snocInd with
 |h0=>intro b _ _ hl _;exact(My.1 hl.symm).symm
 |h1 a x ih =>
  intro b ha hb hl hv;have hne:b≠[]:=by intro h;subst h;simp at hl
  obtain⟨b',y,rfl⟩:∃b' y,b=b'++[y]:=⟨b.dropLast,b.getLast hne,(QG hne).symm⟩;rw[OI,MJ]at ha hb;rw[natOf_snoc,natOf_snoc]at hv;have hx:isD x=true:=by simpa using ha.2
  have hy:isD y=true:=by simpa using hb.2
  have h1:=dval_lt hx;have h2:=dval_lt hy;have h3:dval x=dval y:=by omega
  have h4:natOf a=natOf b':=by omega
  rw[ih ha.1 hb.1 (by simpa using hl) h4];have hx':=(isD_iff x).1 hx;have hy':=(isD_iff y).1 hy;have:x=y:=Po.1 (by unfold dval at h3;omega);rw[this]
theorem yw(h:g<B9):dW g 9=pad9 g:=by
 refine F0 (AG g 9) (pad9_all g) (by rw[nK,pad9_len h]) ?_;rw[AH,pad9_val];exact O3 h
theorem qO(m:Bs)(k:Nat)(h:k<m.length):natOf (m.take (k+1))=10*natOf (m.take k)+dval (m[k]'h):=by
 rw[Mo h,natOf_snoc]
end
section
open Go.RowKit
attribute [local go_sem] size_bs toList_bs extract_bs get_bs append_bs lit_append append_lit
theorem sf(l t:Bs)(b:Bool)(w:World)(hs:(t.length:Int)<=1000000000000)(hcase:(l=45 :: t∧b=true)∨(t=l∧b=false∧isMin t=false)) :
  Calls prog 196 #[.string (bs l)] w fun e w'=>e = .returned (.tuple #[.string (bs (magT t)),.bool (negT b t)])∧w=w':=by
 have key:(l=45 :: t∧b=true)∨(t=l∧b=false∧∃h0:0<t.length,((t[0].toNat:Int) == 45)=false)∨(t=l∧b=false∧¬ 0<t.length):=by
  rcases hcase with h | ⟨rfl,rfl,hm⟩
  ·exact .inl h
  ·cases t with
   |nil=>exact .inr (.inr ⟨rfl,rfl,by simp⟩)
   |cons c r=>exact .inr (.inl ⟨rfl,rfl,by simp,by have:=byte_ne (c:=c) (d:=45) (by simpa[isMin] using hm);simpa using this⟩)
 clear hcase;rcases key with ⟨rfl,rfl⟩ | ⟨rfl,rfl,h0,h1⟩ | ⟨rfl,rfl,h0⟩
 all_goals
  go_enter func196,ntmps196;go_wp2
  go_loop [6] (fun i=>∃k:Nat,k<=t.length∧i = .int .i64 k∧(t.take k).all isD=true) (fun i=>t.length-(intOf i).toNat)
  case atStart=>exact⟨0,Om _,rfl,rfl⟩
  case round =>
   obtain⟨k,hk,rfl,hd⟩:=hrel;have HD:=qh hd;clear hd;by_cases hlt:k<t.length
   ·by_cases hA:(t[k].toNat:Int)<48
    ·go_wp2
     go_ret2;exact⟨by rw[pP t k hlt (by left;exact_mod_cast hA),uY _ t k hlt (by left;exact_mod_cast hA)];rfl,rfl⟩
    ·by_cases hB:57<(t[k].toNat:Int)
     ·go_wp2
      go_ret2;exact⟨by rw[pP t k hlt (by right;exact_mod_cast hB),uY _ t k hlt (by right;exact_mod_cast hB)];rfl,rfl⟩
     ·go_wp2
      go_round
      case rel=>exact⟨k+1,by omega,by go_num,tj t k hlt HD.out (by omega) (by omega)⟩
      case measure=>simp[intOf];omega
   ·have hall:=qh (uZ t k hlt HD.out);go_wp2
    go_loop [4] (fun v=>∃r:Bs,v = .string (bs r)∧r.length<=t.length∧noZeros r=noZeros t) (fun v=>AC v)
    case atStart=>exact⟨t,rfl,Mn _,rfl⟩
    case round =>
     obtain⟨r,rfl,hrl,hz⟩:=hrel;have HZ:=qh hz;clear hz
     cases r with
     |nil =>
      go_wp2
      go_ret2;exact⟨by rw[magT_good t hall.out,td _ t hall.out,←HZ.out];simp[noZeros],rfl⟩
     |cons c q =>
      by_cases hc:c=48
      ·subst hc;go_wp2
       go_round
       case rel=>exact⟨q,rfl,by simp at hrl;omega,HZ.out⟩
       case measure=>simp[AC,size_bs]
      ·have hcb:((c.toNat:Int) == 48)=false:=by have:=byte_ne (c:=c) (d:=48) hc;simpa using this
       go_wp2
       go_ret2;exact⟨by rw[magT_good t hall.out,td _ t hall.out,←HZ.out];simp[noZeros,hc],rfl⟩
theorem fV(l:Bs)(w:World)(hs:l.length<=1000000000) :
  Calls prog 196 #[.string (bs l)] w fun e w'=>e = .returned (.tuple #[.string (bs (mag l)),.bool (neg l)])∧w=w':=by
 have hl:=strip_le l;refine sf l (strip l) (isMin l) w (by omega) ?_;unfold strip
 cases l with
 |nil=>exact .inr ⟨rfl,rfl,rfl⟩
 |cons c r =>
  by_cases h:c=45
  ·left;simp[isMin,h]
  ·right;simp[isMin,h]
theorem kS(l:Bs)(w:World)(hs:l.length<=1000000000) :
  Calls prog 195 #[.string (bs l)] w fun e w'=>e = .returned (.string (bs (canon l)))∧w=w':=by
 have hm:=mag_le l;go_enter func195,ntmps195;go_wp2_with fail;refine(fV l _ hs).mono ?_;rintro e w1⟨rfl,rfl⟩;by_cases hn:neg l=true
 ·go_wp2_with fail;go_ret;exact⟨by unfold canon;rw[Mq hn];rfl,rfl⟩
 ·have hnb:neg l=false:=by simpa using hn
  go_wp2_with fail;go_ret;exact⟨by unfold canon;rw[Mj hn];rfl,rfl⟩
theorem AI(l:Bs)(w:World)(hs:l.length<=1000000000) :
  Calls prog 117 #[.string (bs l)] w fun e w'=>e = .returned (.int .i64 (checkI l))∧w=w':=by
 have HS:=qh hs;clear hs;go_enter func117,ntmps117;go_wp2_with fail;refine(kS l _ HS.out).mono ?_;rintro e w1⟨rfl,rfl⟩;by_cases hn:canon l=l
 ·have hb:(canon l == l)=true:=Np.2 hn;have HN:=qh hn;clear hn;go_wp2_with fail;go_ret;exact⟨by unfold checkI;rw[Mq HN.out];rfl,rfl⟩
 ·have hb:(canon l == l)=false:=Mt.2 hn;have HN:=qh hn;clear hn;go_wp2_with fail;go_ret;exact⟨by unfold checkI;rw[Mj HN.out];rfl,rfl⟩
theorem qP(n:Nat)(h:n<128):Utf8.encode (n:Int)=bs [UInt8.ofNat n]:=by
 unfold Utf8.encode;have hv:Utf8.valid (n:Int)=true:=by simp[Utf8.valid];omega
 rw[hv];simp only[if_true,NP];rw[Mq h];rfl
theorem qQ(q:Nat):Utf8.encode (48+(q:Int) % 10)=bs [UInt8.ofNat (48+q % 10)]:=by
 have:(48+(q:Int) % 10)=((48+q % 10:Nat):Int):=by omega
 rw[this];exact qP _ (by omega)
theorem qR{n:Nat}(h0:q≠0)(h:dig10 q++l=dig10 n):dig10 (q / 10)++(UInt8.ofNat (48+q % 10) :: l)=dig10 n:=by
 rw[←h,dig10_pos h0];simp
theorem xh{c:UInt8}(h:isD c=true):48<=(c.toNat:Int)∧(c.toNat:Int)<=57∧(dval c:Int)=(c.toNat:Int)-48:=by
 have:=(isD_iff c).1 h;unfold dval;omega
theorem AJ(n:Nat)(hn:n<=4000000000000000000)(w:World) :
  Calls prog 191 #[.int .i64 (n:Int)] w fun e w'=>e = .returned (.string (bs (ofI n)))∧w=w':=by
 by_cases h0:n=0
 ·subst h0;go_enter func191,ntmps191;go_wp2_with fail;go_ret;exact⟨by rw[show ofI ((0:Nat):Int)=[] from(ofI_nil_iff 0).2 rfl];rfl,rfl⟩
 ·have hb:((n:Int) == 0)=false:=by rw[Mt];omega
  have hng:¬ ((n:Int)<0):=by omega
  have HO:Hid (dig10 n=ofI (n:Int)):=qh (by unfold ofI;rw[Mj (by omega),NL]);have HLN:Hid ((dig10 n).length<=19):=qh (dig10_len (by omega));clear h0;go_enter func191,ntmps191;go_wp2_with fail;go_loop [3,4,5] (fun t v _=>∃(q:Nat) (l:Bs),q<=n∧v = .int .i64 (q:Int)∧t = .string (bs l)∧dig10 q++l=dig10 n) (fun _ v _=>(intOf v).toNat)
  case atStart=>exact⟨n,[],Mn _,rfl,rfl,by simp⟩
  case round =>
   obtain⟨q,l,hq,rfl,rfl,hl⟩:=hrel;have hll:l.length<=19:=by have h1:=M6 List.length hl;have h2:=HLN.out;rw[Mp]at h1;omega
   by_cases hz:q=0
   ·subst hz;have HL:Hid (l=ofI (n:Int)):=qh (by rw[dig10_zero,ML]at hl;rw[hl];exact HO.out);clear hl;go_wp2_with fail;go_ret;exact⟨by rw[HL.out];rfl,rfl⟩
   ·have HL:=qh (qR hz hl);have hqb:((q:Int) == 0)=false:=by rw[Mt];omega
    have hqb2:((q:Int) != 0)=true:=by rw[Nc];omega
    have hd:¬ ((q:Int) % 10<0):=by omega
    have he:=qQ q;clear hl;have hcv:∀W:World,(convert 21 9 (.int .i32 (48+(q:Int) % 10))).run prog W = .ok (.string (bs [UInt8.ofNat (48+q % 10)])) W:=fun W=>by rw[Rv W _ _ _ _ (by rw[underlying21];rfl) Nd,he]
    clear he;generalize hdd:UInt8.ofNat (48+q % 10)=dd at *;clear hdd;go_wp2_with fail;go_round
    case rel=>exact⟨q / 10,_,by omega,by go_num,rfl,HL.out⟩
    case measure=>simp[intOf];omega
theorem DH(q:Nat):(-(q:Int)).tmod 10 = -((q % 10:Nat):Int):=by
 rw[Int.neg_tmod];rfl
theorem DI(q:Nat):(-(q:Int)).tdiv 10 = -((q / 10:Nat):Int):=by
 rw[Int.neg_tdiv];rfl
theorem AK(n:Nat)(h0:n≠0)(hn:n<=4000000000000000000)(w:World) :
  Calls prog 191 #[.int .i64 (-(n:Int))] w fun e w'=>e = .returned (.string (bs (ofI (-(n:Int)))))∧w=w':=by
 have hb:(-(n:Int) == 0)=false:=by rw[Mt];omega
 have hng : -(n:Int)<0:=by omega
 have HO:Hid (45 :: dig10 n=ofI (-(n:Int))):=qh (by unfold ofI;rw[Mq (by omega),Rj,NL]);have HLN:Hid ((dig10 n).length<=19):=qh (dig10_len (by omega));clear h0;go_enter func191,ntmps191;go_wp2_with fail;go_loop [3,4,5] (fun t v _=>∃(q:Nat) (l:Bs),q<=n∧v = .int .i64 (-(q:Int))∧t = .string (bs l)∧dig10 q++l=dig10 n) (fun _ v _=>(- intOf v).toNat)
 case atStart=>exact⟨n,[],Mn _,rfl,rfl,by simp⟩
 case round =>
  obtain⟨q,l,hq,rfl,rfl,hl⟩:=hrel;have hll:l.length<=19:=by have h1:=M6 List.length hl;have h2:=HLN.out;rw[Mp]at h1;omega
  by_cases hz:q=0
  ·subst hz;have HL:Hid (45 :: l=ofI (-(n:Int))):=qh (by rw[dig10_zero,ML]at hl;rw[hl];exact HO.out);clear hl;go_wp2_with fail;go_ret;exact⟨by rw[←HL.out];rfl,rfl⟩
  ·have HL:=qh (qR hz hl);have hqb:(-(q:Int) == 0)=false:=by rw[Mt];omega
   have hqb2:(-(q:Int) != 0)=true:=by rw[Nc];omega
   have hr:=DH q;have ht:=DI q;have hr9:q % 10<10:=NV _ (by decide);have htq:q / 10<q:=by omega
   have HQ:Hid (q / 10<=n):=qh (by omega);clear hl;generalize q % 10=r at *
   have he:Utf8.encode (48+(r:Int))=bs [UInt8.ofNat (48+r)]:=by
    have:(48+(r:Int))=((48+r:Nat):Int):=by omega
    rw[this];exact qP _ (by omega)
   have hcv:∀W:World,(convert 21 9 (.int .i32 (48+(r:Int)))).run prog W = .ok (.string (bs [UInt8.ofNat (48+r)])) W:=fun W=>by rw[Rv W _ _ _ _ (by rw[underlying21];rfl) Nd,he]
   clear he;by_cases hr0:r=0
   focus
    subst hr0;have hr':(-(q:Int)).tmod 10=0:=hr;have hcv':∀W:World,(convert 21 9 (.int .i32 48)).run prog W = .ok (.string (bs [UInt8.ofNat (48+0)])) W:=fun W=>hcv W
    clear hr hcv;generalize hdd:UInt8.ofNat (48+0)=dd at *
   rotate_left
   focus
    have hneg : -(r:Int)<0:=by omega
    have hr1:(r:Int)<10:=by omega
    generalize hdd:UInt8.ofNat (48+r)=dd at *
   all_goals
    clear hdd;generalize q / 10=p at *;go_wp2_with fail;go_round
    case rel=>exact⟨p,_,HQ.out,by go_num,rfl,HL.out⟩
    case measure=>simp[intOf];omega
theorem DK(z:Int)(h1 : -4000000000000000000<=z)(h2:z<=4000000000000000000)(w:World) :
  Calls prog 191 #[.int .i64 z] w fun e w'=>e = .returned (.string (bs (ofI z)))∧w=w':=by
 by_cases h:0<=z
 ·obtain⟨n,rfl⟩:=Int.eq_ofNat_of_zero_le h;exact AJ n (by omega) w
 ·obtain⟨n,rfl⟩:∃n:Nat,z = -(n:Int):=⟨z.natAbs,by omega⟩;exact AK n (by omega) (by omega) w
theorem jT{m:Bs}(hd:m.all isD=true)(hl:m.length<=17)(k:Nat):natOf (m.take k)<100000000000000000:=by
 have h1:=natOf_lt (l:=m.take k) (all_take hd k);have h2:(m.take k).length<=17:=by rw[Mu];omega
 exact M5 h1 (Mx (NW (by decide) h2) (by decide))
theorem AL{m:Bs}(h:m.all isD=true)(hk:k<m.length):isD (m[k]'hk)=true:=List.all_eq_true.1 h _ (Ml hk)
theorem mW(l:Bs)(w:World)(hs:l.length<=1000000000)(hl:(mag l).length<=17) :
  Calls prog 190 #[.string (bs l)] w fun e w'=>e = .returned (.tuple #[.int .i64 (valI l),.bool true])∧w=w':=by
 have HDIG:=qh (fun w=>fV l w hs);have HD:=qh (mag_all l);have HV:Hid (valI l=if neg l then -(natOf (mag l):Int) else natOf (mag l)):=qh rfl;generalize valI l=z at *;generalize mag l=m at *;generalize neg l=b at *;clear hs;have HL:=qh hl;have hlb:¬ (17<(m.length:Int)):=by omega
 clear hl;go_enter func190,ntmps190;go_wp2_with fail;refine(HDIG.out _).mono ?_;rintro e w1⟨rfl,rfl⟩;go_wp2_with fail;go_loop [6,7] (fun v i=>∃k:Nat,k<=m.length∧i = .int .i64 k∧v = .int .i64 (natOf (m.take k):Nat)) (fun _ i=>m.length-(intOf i).toNat)
 case atStart=>exact⟨0,Om _,rfl,rfl⟩
 case round =>
  obtain⟨k,hk,rfl,rfl⟩:=hrel;by_cases hlt:k<m.length
  ·have hv:=jT HD.out HL.out k;have HS:=qh (qO m k hlt);obtain⟨hc1,hc2,hc3⟩:=xh (AL HD.out hlt);have HC:=qh hc3;clear hc3;generalize natOf (m.take k)=p at *;go_wp2_with fail;go_round
   case rel=>exact⟨k+1,by omega,by go_num,by rw[HS.out];have:=HC.out;congr 1;omega⟩
   case measure=>simp[intOf];omega
  ·have hv:=jT HD.out HL.out k;have HT:Hid (natOf (m.take k)=natOf m):=qh (by rw[Mv (by omega)]);generalize natOf (m.take k)=p at *
   cases b
   all_goals
    go_wp2_with fail;go_ret2;exact⟨by rw[HV.out,←HT.out];rfl,rfl⟩
theorem jz(l:Bs)(w:World)(hs:l.length<=1000000000)(hl:¬ (mag l).length<=17) :
  Calls prog 190 #[.string (bs l)] w fun e w'=>e = .returned (.tuple #[.int .i64 0,.bool false])∧w=w':=by
 have HDIG:=qh (fun w=>fV l w hs);generalize mag l=m at *;generalize neg l=b at *;clear hs;have hlb:17<(m.length:Int):=by omega
 clear hl;go_enter func190,ntmps190;go_wp2_with fail;refine(HDIG.out _).mono ?_;rintro e w1⟨rfl,rfl⟩;go_wp2_with fail;go_ret2;exact⟨rfl,rfl⟩
theorem F6(l:Bs):ofI (-(valI l))=if neg l=true∨mag l=[] then mag l else 45 :: mag l:=by
 have hd:=dig10_natOf (mag_all l) (mag_lead l);by_cases h:neg l=true
 ·have h0:=neg_mag h;have hv:valI l = -(natOf (mag l):Int):=by unfold valI;rw[Mq h]
  rw[Mq (NB h),hv,Int.neg_neg];unfold ofI;rw[Mj (by omega),NL,hd]
 ·have hv:valI l=(natOf (mag l):Int):=by unfold valI;rw[Mj h]
  by_cases hm:mag l=[]
  ·rw[Mq (Or.inr hm),hv,hm];exact(ofI_nil_iff 0).2 rfl
  ·have hp:natOf (mag l)≠0:=by rw[Ne,natOf_zero (mag_all l) (mag_lead l)];exact hm
   have hno:¬ (neg l=true∨mag l=[]):=fun x=>x.elim h hm
   rw[Mj hno,hv];unfold ofI;rw[Mq (by omega),Rj,NL,hd]
theorem IU(l:Bs)(w:World)(hs:l.length<=1000000000) :
  Calls prog 173 #[.string (bs l)] w fun e w'=>e = .returned (.string (bs (ofI (-(valI l)))))∧w=w':=by
 have HDIG:=qh (fun w=>fV l w hs);have HO:=qh (F6 l);have HML:Hid ((mag l).length<=1000000000):=qh (Mx (mag_le l) hs);generalize ofI (-(valI l))=r at *;generalize mag l=m at *;generalize neg l=b at *;clear hs;by_cases h:b=true∨m=[]
 ·have HR:Hid (r=m):=qh (by rw[HO.out,Mq h]);clear HO;rcases h with h|h
  ·subst h;go_enter func173,ntmps173;go_wp2_with fail;refine(HDIG.out _).mono ?_;rintro e w1⟨rfl,rfl⟩;go_wp2_with fail;go_ret;exact⟨by rw[HR.out];rfl,rfl⟩
  ·subst h;go_enter func173,ntmps173;go_wp2_with fail;refine(HDIG.out _).mono ?_;rintro e w1⟨rfl,rfl⟩
   cases b
   all_goals
    go_wp2_with fail;go_ret;exact⟨by rw[HR.out];rfl,rfl⟩
 ·have HR:Hid (r=45 :: m):=qh (by rw[HO.out,Mj h]);clear HO;have hb:b=false:=by cases b;rfl;exact absurd (.inl rfl) h
  have hm:m≠[]:=fun e=>h (.inr e)
  subst hb;have hmb:m.isEmpty=false:=by simpa using hm
  have hmb2:(m == [])=false:=by simpa using hm
  have hml:=HML.out;clear h hm;go_enter func173,ntmps173;go_wp2_with fail;refine(HDIG.out _).mono ?_;rintro e w1⟨rfl,rfl⟩;go_wp2_with fail;go_ret;exact⟨by rw[HR.out];rfl,rfl⟩
end
section
open Go.RowKit
attribute [local go_sem] size_bs toList_bs
theorem RdI.take{gs:List Nat}(h:RdI w A gs)(n:Nat):RdI w A (gs.take n):=by
 refine⟨by simp[icells],fun hn=>?_⟩;have h0:0<gs.length:=by rw[Mu]at hn;omega
 obtain⟨b,o,rfl,hb,hc⟩:=h.2 h0;refine⟨b,o,rfl,hb,fun j u hu=>hc j u ?_⟩;unfold icells at hu ⊢;rw[Sb,O7]at hu;split at hu
 ·exact hu
 ·cases hu
theorem xk(gs:List Nat)(A:Option Addr)(c:Nat)(w:World)(hA:RdI w A gs)(hc:gs.length<=c)(hm:c<=maxLen)(hb:∀g ∈ gs,g<B9) :
  Calls prog 332 #[.slice A gs.length c] w fun e w'=>e = .returned (.slice A (cutL gs).length c)∧w=w':=by
 have HA:=qh hA;have HB:=qh hb;unfold maxLen at hm;clear hA hb;go_enter func332,ntmps332;go_wp2_with fail;go_loop [0] (fun v=>∃k:Nat,k<=gs.length∧v = .slice A k c∧cutL (gs.take k)=cutL gs) (fun v=>tp v)
 case atStart=>exact⟨gs.length,Mn _,rfl,by rw[MK]⟩
 case round =>
  obtain⟨k,hk,rfl,hz⟩:=hrel;have HZ:=qh hz;clear hz;rcases MB k with h0|h0
  ·subst h0;have HL:Hid ((cutL gs).length=0):=qh (by rw[←HZ.out];rfl);go_wp2_with fail;go_ret;exact⟨by rw[HL.out];rfl,rfl⟩
  ·obtain⟨j,rfl⟩:∃j,k=j+1:=⟨k-1,by omega⟩;have hj:j<gs.length:=by omega
   obtain⟨b,o,rfl,hbw,hcell⟩:=HA.out.at_ hj;have hts:gs.take (j+1)=gs.take j++[gs[j]]:=Mo hj;have HTS:=qh hts;clear hts;by_cases hg:gs[j]=0
   ·have HN:Hid (cutL (gs.take j)=cutL gs):=qh (by rw[←HZ.out,HTS.out,hg,cutL_snoc_zero]);rw[hg]at hcell;clear hg;go_wp2_with fail;go_round
    case rel=>exact⟨j,by omega,rfl,HN.out⟩
    case measure=>simp[tp]
   ·have HL:Hid ((cutL gs).length=j+1):=qh (by rw[←HZ.out,HTS.out,cutL_snoc _ hg];simp;omega);have hgb:((gs[j]:Int) == 0)=false:=by rw[Mt];omega
    clear hg;generalize (gs[j]'hj)=g at *;go_wp2_with fail;go_ret;exact⟨by rw[HL.out];rfl,rfl⟩
theorem pR(gs:List Nat)(A:Option Addr)(c k:Nat)(w:World)(hA:RdI w A gs)(_hn:gs.length<=1000000) :
  Calls prog 331 #[.slice A gs.length c,.int .i64 (k:Int)] w fun e w'=>e = .returned (.int .i64 (at0 gs k:Nat))∧w=w':=by
 have HA:=qh hA;clear hA;by_cases h:k<gs.length
 focus obtain⟨b,o,rfl,hb,hcell⟩:=HA.out.at_ h;have HV:=qh (at0_lt h);generalize gs[k]'h=g at *
 rotate_left
 focus have HV:=qh (at0_ge (l:=gs) (k:=k) (by omega))
 all_goals
  go_enter func331,ntmps331;go_wp2_with fail;go_ret;exact⟨by rw[HV.out];rfl,rfl⟩
theorem DL(x y:Nat)(A A':Option Addr)(c c':Nat)(w:World)(hA:RdI w A (gr x))(hA':RdI w A' (gr y))(hn:(gr x).length<=1000000)(_hn':(gr y).length<=1000000) :
  Calls prog 274 #[.slice A (gr x).length c,.slice A' (gr y).length c'] w (wk x y w):=by
 have HA:=qh hA;have HA':=qh hA';clear hA hA';by_cases hl:(gr x).length=(gr y).length
 ·have HLL:=qh hl;have hbl:(((gr x).length:Int) != ((gr y).length:Int))=false:=by rw[OV];omega
  have HLS:=qh (fun k (a:k<(gr x).length) (b:k<(gr y).length) he h=>gr_less (x:=x) (y:=y) (k:=k) hl a b he h);have HGT:=qh (fun k (a:k<(gr y).length) (b:k<(gr x).length) he h=>gr_less (x:=y) (y:=x) (k:=k) hl.symm a b he h);have HEQ:Hid (gr x=gr y->x=y):=qh gr_inj;generalize gr x=gx at *;generalize gr y=gy at *;clear hl;go_enter func274,ntmps274;go_wp2_with fail;go_loopw [5,31,40] (fun z _ _ wr=>∃k:Nat,k<=gx.length∧z = .int .i64 ((k:Int)-1)∧(∀(j:Nat) (h1:j<gx.length) (h2:j<gy.length),k<=j->gx[j]=gy[j])∧Ext w wr) (fun z _ _ _=>(intOf z+1).toNat)
  case atStart=>exact⟨gx.length,Mn _,rfl,fun j h1 _ hj=>absurd h1 (by omega),iD _⟩
  case round =>
   obtain⟨k,hk,rfl,hz,hx⟩:=hrel;have HZ:=qh hz;have HX:=qh hx;clear hz hx;rcases MB k with h0|h0
   ·subst h0;have HY:Hid (x=y):=qh (HEQ.out (Oi HLL.out (fun j h1 h2=>HZ.out j h1 h2 (by omega))));go_wp2_with fail;go_ret;exact⟨HX.out,0,rfl,.inr (.inl ⟨rfl,HY.out⟩)⟩
   ·obtain⟨j,rfl⟩:∃j,k=j+1:=⟨k-1,by omega⟩;have hj:j<gx.length:=by omega
    have hj':j<gy.length:=by have:=HLL.out;omega
    obtain⟨b,o,rfl,hbw,hcell⟩:=(HA.out.ext HX.out).at_ hj;obtain⟨b',o',rfl,hbw',hcell'⟩:=(HA'.out.ext HX.out).at_ hj';have e0:((j+1:Nat):Int)-1=(j:Int):=by omega
    rw[e0];clear e0;rcases Rl (gx[j]'hj) (gy[j]'hj') with h|h|h
    ·have HY:Hid (x<y):=qh (HLS.out j hj hj' (fun i h1 h2 hi=>HZ.out i h1 h2 (by omega)) h);generalize (gx[j]'hj)=p at *;generalize (gy[j]'hj')=q at *;go_wp2_with fail;go_quiet (fail);go_wp2_with fail;go_ret;exact⟨HX.out.drewN _, -1,rfl,.inl ⟨by decide,HY.out⟩⟩
    ·have HNX:=qh (fun i (h1:i<gx.length) (h2:i<gy.length) (hi:j<=i)=>(by
      rcases Nw j i with h' | h'
      ·exact HZ.out i h1 h2 (by omega)
      ·obtain rfl:i=j:=by omega
       exact h:gx[i]=gy[i]))
     rw[←h]at hcell';generalize (gx[j]'hj)=p at *;clear h;go_wp2_with fail;go_quiet (fail);go_wp2_with fail;go_quiet (fail);go_wp2_with fail;go_roundw
     case rel=>exact⟨j,by omega,rfl,HNX.out,HX.out.drewN _⟩
     case measure=>simp[intOf]
    ·have HY:Hid (y<x):=qh (HGT.out j hj' hj (fun i h1 h2 hi=>(HZ.out i h2 h1 (by omega)).symm) h);have hb1:¬ (gx[j]'hj)<(gy[j]'hj'):=by omega
     generalize (gx[j]'hj)=p at *;generalize (gy[j]'hj')=q at *;go_wp2_with fail;go_quiet (fail);go_wp2_with fail;go_quiet (fail);go_wp2_with fail;go_ret;exact⟨(HX.out.drewN _).drewN _,1,rfl,.inr (.inr ⟨by decide,HY.out⟩)⟩
 ·have hbl:(((gr x).length:Int) != ((gr y).length:Int))=true:=by rw[Nc];omega
  rcases Nw (gr x).length (gr y).length with h|h
  ·have HY:Hid (x<y):=qh (gr_shorter h);generalize gr x=gx at *;generalize gr y=gy at *;clear hl;go_enter func274,ntmps274;go_wp2_with fail;go_ret;exact⟨iD _, -1,rfl,.inl ⟨by decide,HY.out⟩⟩
  ·have HY:Hid (y<x):=qh (gr_shorter (by omega));have h':¬ (gr x).length<(gr y).length:=by omega
   generalize gr x=gx at *;generalize gr y=gy at *;clear hl;go_enter func274,ntmps274;go_wp2_with fail;go_ret;exact⟨iD _,1,rfl,.inr (.inr ⟨by decide,HY.out⟩)⟩
end
section
open Go.RowKit Go.Shelf
attribute [local go_sem] size_bs toList_bs extract_bs get_bs append_bs lit_append append_lit
theorem ja{fn:Func}{a:Tmp}(h:fn.results=#[.cell a 232])(tmps:Array Value)(w:World)(g:Nat)(x y:Value)(ha:tmps.getD a undef = .pointer (some ⟨g,0,none⟩))(hb:Blk w g 232 #[x,y]) :
  (results fn tmps).run prog w = .ok (.agg #[x,y]) w:=by
 have h0:=hb.cell 0;have h1:=hb.cell 1;simp only[Mk,Mm,Ms]at h0 h1;unfold results;rw[h];simp only[Ob,OG,OO,ha];go_simp
def DM(neg:Bool)(gs:List Nat)(w:World)(e:Ending)(w':World):Prop :=
 ∃A c,e = .returned (.agg #[.bool neg,.slice A gs.length c])∧RdI w' A gs∧Ext w w'∧gs.length<=c∧c<=maxLen
def F7(m:Bs)(N:Nat)(ng:Bool)(w:World)(z:Value)(wr:World):Prop :=
 ∃(y:Int) (done:List Nat) (v:Value),z = .int .i64 y ∧ -9<y∧y<=m.length∧wr.ownsRow (w.heap.size+2) 3 1 v done.length (icells done)∧done++groupsOf (m.take y.toNat)=gr N∧Ext w wr∧Blk wr w.heap.size 232 #[.bool false,.slice none 0 0]∧Blk wr (w.heap.size+1) 232 #[.bool ng,v]
theorem AM(m:Bs)(a k:Nat)(ha:a<=k)(hk:k<m.length):natOf ((m.take (k+1)).drop a)=10*natOf ((m.take k).drop a)+dval (m[k]'hk):=by
 rw[Mo hk,QC (by rw[Mu];omega),natOf_snoc]
theorem xl{m:Bs}(hd:m.all isD=true)(a k:Nat)(h:k<=a+9):natOf ((m.take k).drop a)<1000000000:=by
 have h1:=natOf_lt (l:=(m.take k).drop a) (all_drop (all_take hd k) a);have h2:((m.take k).drop a).length<=9:=by rw[MU,Mu];omega
 exact M5 h1 (Mx (NW (by decide) h2) (by decide))
theorem vf(l:Bs)(w:World)(hs:l.length<=1000000) :
  Calls prog 194 #[.string (bs l)] w (DM (neg l) (gr (natOf (mag l))) w):=by
 obtain⟨i0,hI,hz0,hz1,hz2⟩:=Ny i64Info;have hml:=mag_le l;have HG:=qh (groupsOf_gr (mag l) (mag_all l) (mag_lead l));have HD:=qh (mag_all l);have HGL:Hid ((gr (natOf (mag l))).length<=1000000):=qh (by rw[←groupsOf_gr (mag l) (mag_all l) (mag_lead l)];have:=groupsOf_len (mag l);omega);have HI:=qh hI;have HS:=qh (Mx hml hs);have HDIG:=qh (fun w=>fV l w (by omega));clear hI hml;generalize hm:mag l=m at *;generalize hN:natOf m=N at *;generalize hng:neg l=ng at *;clear hm hng hs hN;have HX0:Hid (Ext w ((w.alloc (.cells #[.bool false,.slice none 0 0] 232)).alloc (.cells #[.bool ng,.slice none 0 0] 232))):=qh ((Id _ _).alloc _);have HB0:Hid (Blk ((w.alloc (.cells #[.bool false,.slice none 0 0] 232)).alloc (.cells #[.bool ng,.slice none 0 0] 232)) w.heap.size 232 #[.bool false,.slice none 0 0]):=qh ((blk_at w _ _ w.heap.size rfl).alloc _);have HB1:Hid (Blk ((w.alloc (.cells #[.bool false,.slice none 0 0] 232)).alloc (.cells #[.bool ng,.slice none 0 0] 232)) (w.heap.size+1) 232 #[.bool ng,.slice none 0 0]):=qh (blk_at (w.alloc (.cells #[.bool false,.slice none 0 0] 232)) _ _ (w.heap.size+1) (by simp));go_enter func194,ntmps194;go_wp2_with fail;refine(HDIG.out _).mono ?_;rintro e w1⟨rfl,rfl⟩;clear HDIG;have hsm:=HS.out;go_wp2_with fail;go_loopw [6,7,8] (fun z _ _ wr=>F7 m N ng w z wr) (fun z _ _ _=>(intOf z).toNat)
 case atStart=>exact⟨m.length,[],.slice none 0 0,rfl,by omega,by omega,⟨rfl,.inl ⟨rfl,rfl⟩⟩,by rw[NP,Mv (Mn _),ML];exact HG.out,HX0.out,HB0.out,HB1.out⟩
 case round =>
  clear HX0 HB0 HB1;obtain⟨z,done,v,rfl,hz1',hz2',hown,hsum,hx,hb0,hb1⟩:=hrel;have HOWN:=qh hown;have HSUM:=qh hsum;have HX:=qh hx;have HBR:=qh hb0;have HBO:=qh hb1;clear hown hsum hx hb0 hb1;by_cases hpos:0<z
  ·obtain⟨e,rfl⟩:∃e:Nat,z=(e:Int):=⟨z.toNat,by omega⟩;have hel:e<=m.length:=by omega
   have he0:0<e:=by omega
   have HST:=qh (groups_step he0 hel)
   have HLN:Hid (done.length<=1000000):=qh (by
    have h1:=M6 List.length HSUM.out;rw[Mp]at h1;have h2:=HGL.out;omega)
   have HNX:Hid (done++[natOf ((m.take e).drop (e-9))]++groupsOf (m.take (e-9))=gr N):=qh (by
    rw[←HSUM.out,NP,HST.out];simp)
   have hmx:max (0:Int) ((e:Int)-9)=((e-9:Nat):Int):=by omega
   have ha9:e-9<=e:=by omega
   have ha10:e<=(e-9)+9:=by omega
   have HEA:Hid (((e:Int)-9).toNat=e-9):=qh (by omega);clear HST;generalize hea:e-9=a at *;go_wp2_with fail;clear hmx;go_loop [7,8] (fun nv iv=>∃k:Nat,a<=k∧k<=e∧iv = .int .i64 k∧nv = .int .i64 (natOf ((m.take k).drop a):Nat)) (fun _ iv=>e-(intOf iv).toNat)
   case atStart=>exact⟨a,Mn _,ha9,rfl,by rw[List.drop_eq_nil_of_le (by rw[Mu];omega)];rfl⟩
   case round =>
    obtain⟨k,hak,hke,rfl,rfl⟩:=hrel;by_cases hlt:k<e
    ·have hkm:k<m.length:=by omega
     have hv:=xl HD.out a k (by omega);have HDS:=qh (AM m a k hak hkm);obtain⟨hc1,hc2,hc3⟩:=xh (AL HD.out hkm);have HC:=qh hc3;clear hc3;generalize natOf ((m.take k).drop a)=p at *;go_wp2_with fail;go_round
     case rel=>exact⟨k+1,by omega,by omega,by go_num,by rw[HDS.out];have:=HC.out;congr 1;omega⟩
     case measure=>simp[intOf];omega
    ·obtain rfl:k=e:=by omega
     have hv:=xl HD.out a k ha10;generalize natOf ((m.take k).drop a)=p at *;have hln:=HLN.out;have q1:=HBO.out.cell 1;simp only[Mk,Mm,Ms]at q1;go_wp2_with (at_builtin;refine OK _ rfl (.tmp 39) (.tmp 41) 165 rfl (w.heap.size+2) 3 i0 _ 1 8 Qt HI.out hz0 hz1 hz2 rfl (by decide) _ done.length (icells done) rfl (own_ext2 HOWN.out (Id _ _)) ⟨wr.heap.size,0,none⟩ 1 1 [.int .i64 p] rfl rfl (M7 (M4 wr _)) (by simp[Value.oneCell']) (by omega) (by simp only[maxLen];omega) (by omega) (by have:=HBO.out.lt;simp;omega) _ rfl ?_;intro g' cap' w' hown hgrow hat hlt';have HGR:=qh hgrow;have HON:=qh hown;have hbo:=(hgrow.block (w.heap.size+1) (by have:=HBO.out.lt;simp;omega) (fun e=>by have:=own_base HOWN.out (w.heap.size+1) e.symm;omega)).trans (HBO.out.alloc _);have HBO2:Hid (Blk w' (w.heap.size+1) 232 #[.bool ng,v]):=qh hbo;have HBR2:Hid (Blk w' w.heap.size 232 #[.bool false,.slice none 0 0]):=qh ((hgrow.block w.heap.size (by have:=HBR.out.lt;simp;omega) (fun e=>by have:=own_base HOWN.out w.heap.size e.symm;omega)).trans (HBR.out.alloc _));have HX2:Hid (Ext w w'):=qh (Ext.grown (HX.out.trans (Id _ _)) hgrow (fun k hk=>by have:=own_base HOWN.out k hk;omega));have r1:=HBO2.out.cell 1;have f1:=HBO2.out.frozen 1;simp only[Mk,Mm,Ms]at r1;clear hown hgrow hat hbo);refine⟨⟨(k:Int)-9,done++[p],.slice (some ⟨g',0,none⟩) (done.length+1) cap',rfl,by omega,by omega,?_,?_,?_,?_,?_⟩,by simp[intOf];omega⟩
     ·have hnb:(Value.slice (some ⟨g',0,none⟩) (done.length+1) cap').ownBlock≠some (w.heap.size+1):=fun h=>by have:=own_base HON.out _ h;omega
      simpa[icells] using fW HON.out hnb (i:=1) (.slice (some ⟨g',0,none⟩) (done.length+1) cap')
     ·rw[HEA.out];exact HNX.out
     ·exact HX2.out.setCell (p:=⟨w.heap.size+1,1,none⟩) (QQ _) _
     ·exact HBR2.out.far (p:=⟨w.heap.size+1,1,none⟩) (by show w.heap.size≠w.heap.size+1;omega) _
     ·exact HBO2.out.set_ 1 _
  ·have HDN:Hid (done=gr N):=qh (by have:=HSUM.out;rw[show z.toNat=0 by omega,PJ,groupsOf_nil,N0]at this;exact this);obtain⟨A,c,rfl⟩:=aF HOWN.out;have q0:=HBO.out.cell 0;have q1:=HBO.out.cell 1;have r0:=HBR.out.cell 0;have r1:=HBR.out.cell 1;have f0:=HBR.out.frozen 0;have f1:=HBR.out.frozen 1;simp only[Mk,Mm,Ms]at q0 q1 r0 r1;go_wp2_with fail;have hnb:(Value.slice A done.length c).ownBlock≠some w.heap.size:=fun h=>by have:=own_base HOWN.out _ h;omega
   have hfin:=fW (fW HOWN.out hnb (i:=0) (.bool ng)) hnb (i:=1) (.slice A done.length c);refine MI (ja rfl _ _ w.heap.size (.bool ng) (.slice A done.length c) rfl ((HBR.out.set_ 0 (.bool ng)).set_ 1 (.slice A done.length c))) rfl ?_;have hcp:=own_cap hfin;rw[HDN.out]at hfin hcp ⊢;exact⟨A,c,rfl,Reads.own hfin,(HX.out.setCell (p:=⟨w.heap.size,0,none⟩) (Mn _) _).setCell (p:=⟨w.heap.size,1,none⟩) (Mn _) _,hcp.1,hcp.2⟩
theorem yx(g q:Nat)(l:Bs):dW g (q+1)++l=UInt8.ofNat (48+g / 10 ^ q % 10) :: (dW g q++l):=rfl
theorem AN(b:Bool)(gs:List Nat)(h:∀g ∈ gs,g<B9):canon (if b then 45 :: lowT gs else lowT gs)=ofI (sgn b (gval gs)):=AF b gs h
theorem DN(b:Bool)(gs:List Nat)(A:Option Addr)(c:Nat)(w:World)(hA:RdI w A gs)(hn:gs.length<=1000000)(hb:∀g ∈ gs,g<B9) :
  Calls prog 192 #[.agg #[.bool b,.slice A gs.length c]] w fun e w'=>e = .returned (.string (bs (ofI (sgn b (gval gs)))))∧Ext w w':=by
 have HC:=qh (AN b gs hb);generalize ofI (sgn b (gval gs))=r at *;have HA:=qh (hA.ext (Id w (.cells #[.bool b,.slice A gs.length c] 232)));have HB:=qh hb;have HTL:=qh (fun k=>(show(lowT (gs.take k)).length<=9*gs.length from by rw[lowT_len _ (fun g hg=>hb g (Ng hg)),Mu];omega));clear hA hb;go_enter func192,ntmps192;go_wp2_with fail;go_loop [3,4,5,6] (fun t i _ _=>∃k:Nat,k<=gs.length∧i = .int .i64 k∧t = .string (bs (lowT (gs.take k)))) (fun _ i _ _=>gs.length-(intOf i).toNat)
 case atStart=>exact⟨0,Om _,rfl,rfl⟩
 case round =>
  obtain⟨k,hk,rfl,rfl⟩:=hrel;have hlt9:=HTL.out k;by_cases hlt:k<gs.length
  ·obtain⟨ab,ao,rfl,hab,hcell⟩:=HA.out.at_ hlt;have hg:=HB.out _ (Ml hlt)
   have HNX:Hid (dW (gs[k]'hlt) 9++lowT (gs.take k)=lowT (gs.take (k+1))):=qh (by
    rw[yw hg,Mo hlt,AE])
   generalize gs[k]'hlt=g at *;generalize lowT (gs.take k)=low at *;have hg':g<1000000000:=hg;clear hg;go_wp2_with fail;clear hcell;go_loop [3,5,6] (fun t v j=>∃q:Nat,q<=9∧j = .int .i64 q∧v = .int .i64 (g / 10 ^ q:Nat)∧t = .string (bs (dW g q++low))) (fun _ _ j=>9-(intOf j).toNat)
   case atStart=>exact⟨0,Om _,rfl,by rw[Nat.pow_zero,Nat.div_one],rfl⟩
   case round =>
    obtain⟨q,hq,rfl,rfl,rfl⟩:=hrel;by_cases hq9:q<9
    ·have HS:=qh (yx g q low);have HV:Hid (g / 10 ^ q / 10=g / 10 ^ (q+1)):=qh (by rw[Nf,Nat.div_div_eq_div_mul]);have hvl:g / 10 ^ q<=g:=Sx _ _;have hll:(dW g q++low).length<=9+9*gs.length:=by rw[Mp,nK];omega
     generalize dW g q++low=t at *;generalize g / 10 ^ q=v at *;have hcv:∀W:World,(convert 21 9 (.int .i32 (48+(v:Int) % 10))).run prog W = .ok (.string (bs [UInt8.ofNat (48+v % 10)])) W:=fun W=>by rw[Rv W _ _ _ _ (by rw[underlying21];rfl) Nd,qQ]
     generalize UInt8.ofNat (48+v % 10)=dd at *;go_wp2_with fail;go_round
     case rel=>exact⟨q+1,by omega,by go_num,by rw[←HV.out] <;> go_num,by rw[HS.out]⟩
     case measure=>simp[intOf];omega
    ·obtain rfl:q=9:=by omega
     rw[HNX.out];generalize g / 10 ^ 9=v at *;go_wp2_with fail;go_round
     case rel=>exact⟨k+1,by omega,by go_num,rfl⟩
     case measure=>simp[intOf];omega
  ·have HT:Hid (lowT (gs.take k)=lowT gs):=qh (by rw[Mv (by omega)])
   cases b
   focus have HC':Hid (canon (lowT gs)=r):=qh HC.out;rw[←HT.out]at HC';clear HT HC;generalize lowT (gs.take k)=t at *;go_wp2_with fail;refine(kS t _ (by omega)).mono ?_
   rotate_left
   focus have HC':Hid (canon (45 :: lowT gs)=r):=qh HC.out;rw[←HT.out]at HC';clear HT HC;generalize lowT (gs.take k)=t at *;go_wp2_with fail;refine(kS (45 :: t) _ (by rw[MG];omega)).mono ?_
   all_goals
    rintro e w1⟨rfl,rfl⟩;go_wp2_with fail;go_ret;exact⟨by rw[HC'.out];rfl,Id _ _⟩
end
section
open Go.RowKit Go.Shelf
attribute [local go_sem] size_bs toList_bs
def vh(n:Nat)(w:World)(e:Ending)(w':World):Prop :=
 ∃A c,e = .returned (.slice A (gr n).length c)∧RdI w' A (gr n)∧Ext w w'∧(gr n).length<=c∧c<=maxLen
theorem RdI.cut{gs:List Nat}(h:RdI w A gs):RdI w A (cutL gs):=by rw[cutL_prefix];exact h.take _
theorem we(l:List Nat)(x:Nat)(z:Int)(h:z=(x:Int)):icells (l++[x])=icells l++[.int .i64 z]:=by subst h;simp[icells]
def EB(f g:Nat->Nat)(L:Nat)(w:World)(v cv z:Value)(wr:World):Prop :=
 ∃k:Nat,k<=L∧z = .int .i64 k∧cv = .int .i64 (g k:Nat)∧wr.ownsRow w.heap.size 3 1 v k (icells ((List.range k).map f))∧Ext w wr
theorem pS{c:Nat}{f:Nat->Nat}{z:Int}(h:w.ownsRow base e 1 (.slice (some ⟨g,0,none⟩) (k+1) c) (k+1) (icells ((List.range k).map f)++[.int .i64 z]))(hz:z=(f k:Nat)):w.ownsRow base e 1 (.slice (some ⟨g,0,none⟩) (k+1) c) (k+1) (icells ((List.range (k+1)).map f)):=by
 rw[Sw,Pp,MQ,Qh,we _ _ _ hz];exact h
theorem DP{x:Nat}(h1:(gr x).length<=k)(h2:(gr y).length<=k)(hc:cy (at0 (gr x)) (at0 (gr y)) k=0):cutL ((List.range k).map (pl (at0 (gr x)) (at0 (gr y))))=gr (x+y):=by
 rw[cutL_gr (by intro g hg;obtain⟨j,_,rfl⟩:=MH.1 hg;exact pl_lt _ _ _),gval_range];have h:=plus_sum (at0 (gr x)) (at0 (gr y)) k;rw[hc,O6,Nj,←gval_gsum (gr x) k h1,←gval_gsum (gr y) k h2,gval_gr,gval_gr]at h;rw[h]
theorem F8(x y:Nat)(A A':Option Addr)(c c':Nat)(w:World)(hA:RdI w A (gr x))(hA':RdI w A' (gr y))(hn:(gr x).length<=1000000)(hn':(gr y).length<=1000000) :
  Calls prog 273 #[.slice A (gr x).length c,.slice A' (gr y).length c'] w (vh (x+y) w):=by
 obtain⟨i0,hI,hz0,hz1,hz2⟩:=Ny i64Info;have HI:=qh hI;have HA:=qh hA;have HA':=qh hA';have HFIN:=qh (fun k=>DP (x:=x) (y:=y) (k:=k));have HL1:=qh (fun k=>at0_bd (gr_lt x) k);have HL2:=qh (fun k=>at0_bd (gr_lt y) k);have HCY:=qh (fun k=>cy_le (HL1.out) (HL2.out) k);have HZA:=qh (fun k h=>at0_ge (l:=gr x) (k:=k) h);have HZB:=qh (fun k h=>at0_ge (l:=gr y) (k:=k) h);clear hI hA hA';generalize gr x=gx at *;generalize gr y=gy at *;go_enter func273,ntmps273;go_wp2_with fail;go_loopw [5,6,7,8] (fun v cv z _ wr=>EB (pl (at0 gx) (at0 gy)) (cy (at0 gx) (at0 gy)) (max gx.length gy.length+1) w v cv z wr) (fun _ _ z _ _=>max gx.length gy.length+2-(intOf z).toNat)
 case atStart=>exact⟨0,by omega,rfl,rfl,⟨rfl,.inr ⟨w.heap.size,0,#[],rfl,Mn _,M4 w _,Mn _,by decide,rfl,rfl⟩⟩,Id _ _⟩
 case round =>
  obtain⟨k,hk,rfl,rfl,hown,hx⟩:=hrel;have HOWN:=qh hown;have HX:=qh hx;clear hown hx;have hpk:=HL1.out k;have hqk:=HL2.out k;have hck:=HCY.out k;have hkk:k<=1000001:=by omega
  by_cases hgo:k<gx.length∨k<gy.length∨0<cy (at0 gx) (at0 gy) k
  ·have hkL:k<=max gx.length gy.length:=by
    rcases Nw (max gx.length gy.length) k with h|h
    ·exfalso
     obtain⟨j,rfl⟩:∃j,k=j+1:=⟨k-1,by omega⟩;have e1:=HZA.out j (by omega);have e2:=HZB.out j (by omega);have h3:=HCY.out j;have e3:cy (at0 gx) (at0 gy) (j+1)=(at0 gx j+at0 gy j+cy (at0 gx) (at0 gy) j) / B9:=rfl;rw[e1,e2]at e3;have e4:(0+0+cy (at0 gx) (at0 gy) j) / B9=0:=O5 (by show _<1000000000;omega);omega
    ·exact h
   have HP:Hid ((((at0 gx k:Nat):Int)+(at0 gy k:Nat)+(cy (at0 gx) (at0 gy) k:Nat)) % 1000000000=(pl (at0 gx) (at0 gy) k:Nat)):=qh (by show _=(((at0 gx k+at0 gy k+cy (at0 gx) (at0 gy) k) % 1000000000:Nat):Int);omega);have HQ:Hid ((((at0 gx k:Nat):Int)+(at0 gy k:Nat)+(cy (at0 gx) (at0 gy) k:Nat)) / 1000000000=(cy (at0 gx) (at0 gy) (k+1):Nat)):=qh (by show _=(((at0 gx k+at0 gy k+cy (at0 gx) (at0 gy) k) / 1000000000:Nat):Int);omega);have hpk':at0 gx k<1000000000:=hpk;have hqk':at0 gy k<1000000000:=hqk;clear hpk hqk;have HG1:=qh (fun W h=>pR gx A c k W h hn);have HG2:=qh (fun W h=>pR gy A' c' k W h hn');have hcases:k<gx.length∨(¬ k<gx.length∧k<gy.length)∨(¬ k<gx.length∧¬ k<gy.length∧0<cy (at0 gx) (at0 gy) k):=by omega
   generalize at0 gx k=p at *;generalize at0 gy k=q at *;generalize cy (at0 gx) (at0 gy) k=cc at *;clear hgo;rcases hcases with h1 | ⟨h1,h2⟩ | ⟨h1,h2,h3⟩
   all_goals
    go_wp2_with fail;refine(HG1.out _ (HA.out.ext HX.out)).mono ?_;rintro e w1⟨rfl,rfl⟩;go_wp2_with fail;refine(HG2.out _ (HA'.out.ext HX.out)).mono ?_;rintro e w1⟨rfl,rfl⟩;go_wp2_with (at_builtin;refine OK _ rfl (.tmp 35) (.tmp 38) 165 rfl w.heap.size 3 i0 _ 1 8 Qt HI.out hz0 hz1 hz2 rfl (by decide) _ k (icells ((List.range k).map (pl (at0 gx) (at0 gy)))) rfl (own_ext2 HOWN.out (Id _ _)) ⟨wr.heap.size,0,none⟩ 1 1 [.int .i64 (((p:Int)+(q:Int)+(cc:Int)) % 1000000000)] rfl rfl (M7 (M4 wr _)) (by simp[Value.oneCell']) (by omega) (by simp only[maxLen];omega) (by omega) (by have:=HX.out.size;simp;omega) _ rfl ?_;intro g' cap' w' hown hgrow hat hlt';have HX2:Hid (Ext w w'):=qh (Ext.grown (HX.out.trans (Id _ _)) hgrow (fun k hk=>own_base HOWN.out k hk));have HON:=qh (pS hown HP.out);clear hown hgrow hat);refine⟨⟨k+1,by omega,by go_num,by rw[←HQ.out],HON.out,HX2.out⟩,by simp[intOf];omega⟩
  ·have h1:¬ k<gx.length:=by omega
   have h2:¬ k<gy.length:=by omega
   have h3:cy (at0 gx) (at0 gy) k=0:=by omega
   have HF:=qh (HFIN.out k (by omega) (by omega) h3);rw[h3];clear hgo h3 hck hpk hqk HFIN;obtain⟨A1,c1,rfl⟩:=aF HOWN.out;have hcp:=own_cap HOWN.out;have hlen:((List.range k).map (pl (at0 gx) (at0 gy))).length=k:=by simp
   have HRD:Hid (RdI wr A1 ((List.range k).map (pl (at0 gx) (at0 gy)))):=qh (by
    have:=Reads.own HOWN.out;unfold RdI;rw[hlen];exact this)
   have HTR:=qh (xk ((List.range k).map (pl (at0 gx) (at0 gy))) A1 c1 wr HRD.out (by rw[hlen];exact hcp.1) hcp.2 (by intro g hg;obtain⟨j,_,rfl⟩:=MH.1 hg;exact pl_lt _ _ _));rw[hlen,HF.out]at HTR;have HRC:Hid (RdI wr A1 (gr (x+y))):=qh (by rw[←HF.out];exact HRD.out.cut);have HCL:Hid ((gr (x+y)).length<=c1∧c1<=maxLen):=qh ⟨by rw[←HF.out];have:=cutL_le ((List.range k).map (pl (at0 gx) (at0 gy)));omega,hcp.2⟩;clear hlen hcp;go_wp2_with fail;refine HTR.out.mono ?_;rintro e w1⟨rfl,rfl⟩;go_wp2_with fail;go_ret;exact⟨A1,c1,rfl,HRC.out,HX.out,HCL.out.1,HCL.out.2⟩
theorem qS{P:Program}{f:FuncId}{args:Array Value}{n:Nat}
  (h:Calls P f args (w.drewN n) fun e w'=>e = .returned v∧w.drewN n=w'):Calls P f args (w.drewN n) fun e w''=>e = .returned v∧∃m,w''=w.drewN m :=
 h.mono fun _ _ ⟨he,hm⟩=>⟨he,n,hm.symm⟩
theorem tf{size n:Nat}{xs:List Value}(h:w.ownsRow base e size v n xs)(k:Nat):(w.drewN k).ownsRow base e size v n xs:=own_ext2 h ((iD w).drewN k)
theorem vj(x y:Nat)(hle:y<=x)(A A':Option Addr)(c c':Nat)(w:World)(hA:RdI w A (gr x))(hA':RdI w A' (gr y))(hn:(gr x).length<=1000000)(hn':(gr y).length<=1000000) :
  Calls prog 275 #[.slice A (gr x).length c,.slice A' (gr y).length c'] w (vh (x-y) w):=by
 obtain⟨i0,hI,hz0,hz1,hz2⟩:=Ny i64Info;have HI:=qh hI;have HA:=qh hA;have HA':=qh hA';have HFIN:=qh (sq hle);have HL1:=qh (fun k=>at0_bd (gr_lt x) k);have HL2:=qh (fun k=>at0_bd (gr_lt y) k);have HMI:=qh (fun k=>mi_lt (HL1.out) (HL2.out) k);have HV1:=qh (fun k (h:k<(gr x).length)=>at0_lt h);clear hI hA hA' hle;generalize gr x=gx at *;generalize gr y=gy at *;go_enter func275,ntmps275;go_wp2_with fail;go_loopw [5,6,7,8] (fun v cv z _ wr=>EB (mi (at0 gx) (at0 gy)) (bw (at0 gx) (at0 gy)) gx.length w v cv z wr) (fun _ _ z _ _=>gx.length-(intOf z).toNat)
 case atStart=>exact⟨0,by omega,rfl,rfl,⟨rfl,.inr ⟨w.heap.size,0,#[],rfl,Mn _,M4 w _,Mn _,by decide,rfl,rfl⟩⟩,Id _ _⟩
 case round =>
  obtain⟨k,hk,rfl,rfl,hown,hx⟩:=hrel;have HOWN:=qh hown;have HX:=qh hx;clear hown hx;by_cases hlt:k<gx.length
  ·have hpk:at0 gx k<1000000000:=HL1.out k;have hqk:at0 gy k<1000000000:=HL2.out k;have hbk:bw (at0 gx) (at0 gy) k<=1:=bw_le _ _ k;obtain⟨ab,ao,rfl,hab,hcell⟩:=(HA.out.ext HX.out).at_ hlt;rw[←HV1.out k hlt]at hcell;have HG2:=qh (fun W h=>pR gy A' c' k W h hn')
   have HM1:Hid (at0 gx k<at0 gy k+bw (at0 gx) (at0 gy) k->((at0 gx k:Nat):Int)-(at0 gy k:Nat)-(bw (at0 gx) (at0 gy) k:Nat)+1000000000=(mi (at0 gx) (at0 gy) k:Nat)∧bw (at0 gx) (at0 gy) (k+1)=1):=qh (fun h=>by
    have e1:mi (at0 gx) (at0 gy) k=at0 gx k+1000000000-(at0 gy k+bw (at0 gx) (at0 gy) k):=by unfold mi;rw[Mq h];rfl
    have e2:bw (at0 gx) (at0 gy) (k+1)=1:=by show(if _ then 1 else 0)=1;rw[Mq h]
    exact⟨by omega,e2⟩)
   have HM2:Hid (¬ at0 gx k<at0 gy k+bw (at0 gx) (at0 gy) k->((at0 gx k:Nat):Int)-(at0 gy k:Nat)-(bw (at0 gx) (at0 gy) k:Nat)=(mi (at0 gx) (at0 gy) k:Nat)∧bw (at0 gx) (at0 gy) (k+1)=0):=qh (fun h=>by
    have e1:mi (at0 gx) (at0 gy) k=at0 gx k-(at0 gy k+bw (at0 gx) (at0 gy) k):=by unfold mi;rw[Mj h]
    have e2:bw (at0 gx) (at0 gy) (k+1)=0:=by show(if _ then 1 else 0)=0;rw[Mj h]
    exact⟨by omega,e2⟩)
   generalize at0 gx k=p at *;generalize at0 gy k=q at *;generalize bw (at0 gx) (at0 gy) k=bb at *;have hw1:IntKind.i64.wrap ((p:Int)-(q:Int))=(p:Int)-q:=Nl _ (by omega);have hw2:IntKind.i64.wrap ((p:Int)-(q:Int)-(bb:Int))=(p:Int)-q-bb:=Nl _ (by omega);by_cases hbo:p<q+bb
   focus
    obtain⟨he1,he2⟩:=HM1.out hbo;have HP:=qh he1;have HQ:=qh he2;have hneg:(p:Int)-(q:Int)-(bb:Int)<0:=by omega
    clear HM1 HM2 he1 he2;go_wp2_with fail;go_quiet ((go_at_call 331;exact qS (HG2.out _ (HA'.out.ext (HX.out.drewN _)))));clear hw1 hw2;go_wp2_with (at_builtin;refine OK _ rfl (.tmp 30) (.tmp 32) 165 rfl w.heap.size 3 i0 _ 1 8 Qt HI.out hz0 hz1 hz2 rfl (by decide) _ k (icells ((List.range k).map (mi (at0 gx) (at0 gy)))) rfl (own_ext2 (tf HOWN.out _) (Id _ _)) ⟨wr.heap.size,0,none⟩ 1 1 [.int .i64 ((p:Int)-(q:Int)-(bb:Int)+1000000000)] rfl rfl (M7 (M4 _ _)) (by simp[Value.oneCell']) (by omega) (by simp only[maxLen];omega) (by omega) (by have:=HX.out.size;simp;omega) _ rfl ?_;intro g' cap' w' hown hgrow hat hlt';have HX2:Hid (Ext w w'):=qh (Ext.grown ((HX.out.drewN _).trans (Id _ _)) hgrow (fun k hk=>own_base HOWN.out k hk));have HON:=qh (pS hown HP.out);clear hown hgrow hat)
   rotate_left
   focus
    obtain⟨he1,he2⟩:=HM2.out hbo;have HP:=qh he1;have HQ:=qh he2;have hneg:¬ (p:Int)-(q:Int)-(bb:Int)<0:=by omega
    clear HM1 HM2 he1 he2;go_wp2_with fail;go_quiet ((go_at_call 331;exact qS (HG2.out _ (HA'.out.ext (HX.out.drewN _)))));clear hw1 hw2;go_wp2_with (at_builtin;refine OK _ rfl (.tmp 30) (.tmp 32) 165 rfl w.heap.size 3 i0 _ 1 8 Qt HI.out hz0 hz1 hz2 rfl (by decide) _ k (icells ((List.range k).map (mi (at0 gx) (at0 gy)))) rfl (own_ext2 (tf HOWN.out _) (Id _ _)) ⟨wr.heap.size,0,none⟩ 1 1 [.int .i64 ((p:Int)-(q:Int)-(bb:Int))] rfl rfl (M7 (M4 _ _)) (by simp[Value.oneCell']) (by omega) (by simp only[maxLen];omega) (by omega) (by have:=HX.out.size;simp;omega) _ rfl ?_;intro g' cap' w' hown hgrow hat hlt';have HX2:Hid (Ext w w'):=qh (Ext.grown ((HX.out.drewN _).trans (Id _ _)) hgrow (fun k hk=>own_base HOWN.out k hk));have HON:=qh (pS hown HP.out);clear hown hgrow hat)
   all_goals
    refine⟨⟨k+1,by omega,by go_num,by rw[HQ.out];rfl,HON.out,HX2.out⟩,by simp[intOf];omega⟩
  ·obtain rfl:k=gx.length:=by omega
   generalize bw (at0 gx) (at0 gy) gx.length=bb at *;obtain⟨A1,c1,rfl⟩:=aF HOWN.out;have hcp:=own_cap HOWN.out;have hlen:((List.range gx.length).map (mi (at0 gx) (at0 gy))).length=gx.length:=by simp
   have HRD:Hid (RdI wr A1 ((List.range gx.length).map (mi (at0 gx) (at0 gy)))):=qh (by
    have:=Reads.own HOWN.out;unfold RdI;rw[hlen];exact this)
   have HTR:=qh (xk ((List.range gx.length).map (mi (at0 gx) (at0 gy))) A1 c1 wr HRD.out (by rw[hlen];exact hcp.1) hcp.2 (by intro g hg;obtain⟨j,_,rfl⟩:=MH.1 hg;exact HMI.out _));rw[hlen,HFIN.out]at HTR;have HRC:Hid (RdI wr A1 (gr (x-y))):=qh (by rw[←HFIN.out];exact HRD.out.cut);have HCL:Hid ((gr (x-y)).length<=c1∧c1<=maxLen):=qh ⟨by rw[←HFIN.out];have:=cutL_le ((List.range gx.length).map (mi (at0 gx) (at0 gy)));omega,hcp.2⟩;clear hlen hcp;go_wp2_with fail;refine HTR.out.mono ?_;rintro e w1⟨rfl,rfl⟩;go_wp2_with fail;go_ret;exact⟨A1,c1,rfl,HRC.out,HX.out,HCL.out.1,HCL.out.2⟩
end
section
open Go.RowKit
attribute [local go_sem] size_bs toList_bs
theorem RdI.box{gs:List Nat}(h:RdI w A gs){t:TypeId}{x:Bool}{n c:Nat}(hb:Blk w g t #[.bool x,.slice B n c]):0<gs.length->∀b o,A=some ⟨b,o,none⟩->b≠g:=by
 intro hn b o e hbg;subst e;subst hbg;have h0:=Reads.cell h (j:=0) (u := .int .i64 (gs[0]'hn)) (by simp[icells,hn]);rw[Nj,hb.cell o]at h0;match o,h0 with
 |0,h0=>simp at h0
 |1,h0=>simp at h0
 |o+2,h0=>simp at h0
def pT(z:Int)(w:World)(e:Ending)(w':World):Prop :=
 ∃b n A c,e = .returned (.agg #[.bool b,.slice A (gr n).length c])∧sgn b n=z∧RdI w' A (gr n)∧Ext w w'∧(gr n).length<=c∧c<=maxLen
theorem wg(b:Bool)(x y:Nat)(A A':Option Addr)(c c':Nat)(w:World)(hA:RdI w A (gr x))(hA':RdI w A' (gr y))(hn:(gr x).length<=1000000)(hn':(gr y).length<=1000000) :
  Calls prog 193 #[.agg #[.bool b,.slice A (gr x).length c],.agg #[.bool b,.slice A' (gr y).length c']] w (pT (sgn b x+sgn b y) w):=by
 have HA:=qh hA;have HA':=qh hA';have HPL:=qh (fun W h1 h2=>F8 x y A A' c c' W h1 h2 hn hn');have HS:Hid (sgn b (x+y)=sgn b x+sgn b y):=qh (by unfold sgn;cases b <;> simp;omega);generalize gr x=gx at *;generalize gr y=gy at *;clear hA hA';have HX0:Hid (Ext w (((w.alloc (.cells #[.bool b,.slice A gx.length c] 232)).alloc (.cells #[.bool b,.slice A' gy.length c'] 232)).alloc (.cells #[.bool false,.slice none 0 0] 232))):=qh (((Id _ _).alloc _).alloc _);have HBR:=qh (blk_at ((w.alloc (.cells #[.bool b,.slice A gx.length c] 232)).alloc (.cells #[.bool b,.slice A' gy.length c'] 232)) 232 #[.bool false,.slice none 0 0] (w.heap.size+1+1) (by simp));have HBX:=qh (((blk_at w 232 #[.bool b,.slice A gx.length c] w.heap.size rfl).alloc (.cells #[.bool b,.slice A' gy.length c'] 232)).alloc (.cells #[.bool false,.slice none 0 0] 232));have HBY:=qh ((blk_at (w.alloc (.cells #[.bool b,.slice A gx.length c] 232)) 232 #[.bool b,.slice A' gy.length c'] (w.heap.size+1) (by simp)).alloc (.cells #[.bool false,.slice none 0 0] 232));have hn1:w.heap.size≠w.heap.size+1+1:=by omega
 have hn2:w.heap.size+1+1≠w.heap.size:=by omega
 have hn3:¬ (w.heap.size=w.heap.size+1+1):=by omega
 go_enter func193,ntmps193;go_wp2_with fail;have HXW:=HX0;have HBRW:=HBR;have HBXW:=HBX;have HBYW:=HBY;skip
 go_region_held3 (fun w'=>w'.cell? ⟨w.heap.size,0,none⟩=some (.bool b)∧w'.cell? ⟨w.heap.size,1,none⟩=some (.slice A gx.length c)∧w'.cell? ⟨w.heap.size+1,1,none⟩=some (.slice A' gy.length c'))
  (go_keep)
  (first
   |(go_at_call 273;refine(HPL.out _ (HA.out.ext HXW.out.drew) (HA'.out.ext HXW.out.drew)).mono ?_;rintro e w2⟨A1,c1,rfl,hrd,hx2,hc1,hc2⟩;have hbr:=HBRW.out.drew.ext hx2;have q0:=hbr.cell 0;have q1:=hbr.cell 1;have f0:=hbr.frozen 0;have f1:=hbr.frozen 1;have hba:=HBXW.out.drew.ext hx2;have u0:=hba.cell 0;have u1:=hba.cell 1;have hbb:=HBYW.out.drew.ext hx2;have v1:=hbb.cell 1;simp only[Mk,Mm,Ms]at q0 q1 u0 u1 v1;have HBR2:=qh hbr;have HX2:=qh (HXW.out.drew.trans hx2);have HRD:=qh hrd;have HC:=qh (MC hc1 hc2);clear hbr hba hbb hx2 hrd hc1 hc2))
 all_goals
  go_wp2_with fail;refine MI (ja rfl _ _ (w.heap.size+1+1) (.bool b) (.slice A1 (gr (x+y)).length c1) rfl ((HBR2.out.set_ 0 (.bool b)).set_ 1 (.slice A1 (gr (x+y)).length c1))) rfl ?_;have hne:=HRD.out.box HBR2.out;exact⟨b,x+y,A1,c1,rfl,HS.out,(HRD.out.far (.bool b) hne).far _ hne,(HX2.out.setCell (p:=⟨w.heap.size+1+1,0,none⟩) (by show w.heap.size<=w.heap.size+1+1;omega) _).setCell (p:=⟨w.heap.size+1+1,1,none⟩) (by show w.heap.size<=w.heap.size+1+1;omega) _,HC.out.1,HC.out.2⟩
theorem wh(b:Bool)(x y:Nat)(A A':Option Addr)(c c':Nat)(w:World)(hA:RdI w A (gr x))(hA':RdI w A' (gr y))(hn:(gr x).length<=1000000)(hn':(gr y).length<=1000000) :
  Calls prog 193 #[.agg #[.bool b,.slice A (gr x).length c],.agg #[.bool (!b),.slice A' (gr y).length c']] w (pT (sgn b x+sgn (!b) y) w):=by
 have HA:=qh hA;have HA':=qh hA';have HCP:=qh (fun W h1 h2=>DL x y A A' c c' W h1 h2 hn hn');have HM1:=qh (fun h W h1 h2=>vj x y h A A' c c' W h1 h2 hn hn');have HM2:=qh (fun h W h1 h2=>vj y x h A' A c' c W h1 h2 hn' hn);have HS1:Hid (y<=x->sgn b (x-y)=sgn b x+sgn (!b) y):=qh (by intro h;unfold sgn;cases b <;> simp <;> omega);have HS2:Hid (x<=y->sgn (!b) (y-x)=sgn b x+sgn (!b) y):=qh (by intro h;unfold sgn;cases b <;> simp <;> omega);generalize gr x=gx at *;generalize gr y=gy at *;clear hA hA';have hbb:(b == !b)=false:=by cases b <;> rfl
 generalize hnb:(!b)=nb at *;clear hnb;have HX0:Hid (Ext w (((w.alloc (.cells #[.bool b,.slice A gx.length c] 232)).alloc (.cells #[.bool nb,.slice A' gy.length c'] 232)).alloc (.cells #[.bool false,.slice none 0 0] 232))):=qh (((Id _ _).alloc _).alloc _);have HBR:=qh (blk_at ((w.alloc (.cells #[.bool b,.slice A gx.length c] 232)).alloc (.cells #[.bool nb,.slice A' gy.length c'] 232)) 232 #[.bool false,.slice none 0 0] (w.heap.size+1+1) (by simp));have HBX:=qh (((blk_at w 232 #[.bool b,.slice A gx.length c] w.heap.size rfl).alloc (.cells #[.bool nb,.slice A' gy.length c'] 232)).alloc (.cells #[.bool false,.slice none 0 0] 232));have HBY:=qh ((blk_at (w.alloc (.cells #[.bool b,.slice A gx.length c] 232)) 232 #[.bool nb,.slice A' gy.length c'] (w.heap.size+1) (by simp)).alloc (.cells #[.bool false,.slice none 0 0] 232));have hn1:w.heap.size≠w.heap.size+1+1:=by omega
 have hn2:w.heap.size+1+1≠w.heap.size:=by omega
 have hn3:¬ (w.heap.size=w.heap.size+1+1):=by omega
 go_enter func193,ntmps193;go_wp2_with fail;refine(HCP.out _ (HA.out.ext HX0.out) (HA'.out.ext HX0.out)).mono ?_;rintro e w1⟨hx1,r,rfl,hcase⟩;have hbx:=HBX.out.ext hx1;have hby:=HBY.out.ext hx1;have hbr:=HBR.out.ext hx1;have x0:=hbx.cell 0;have x1:=hbx.cell 1;have y0:=hby.cell 0;have y1:=hby.cell 1;simp only[Mk,Mm,Ms]at x0 x1 y0 y1;have HXW:=HX0.qt hx1;have HBXW:=qh hbx;have HBYW:=qh hby;have HBRW:=qh hbr;clear hbx hby hbr hx1 HX0 HBX HBY HBR;by_cases hr:r<0
 ·have hle:x<=y:=by omega
  have HM:=qh (HM2.out hle);have HS:=qh (HS2.out hle);have hr':¬ 0<=r:=by omega
  clear hcase hle;go_wp2_with fail
  go_region_held3 (fun w'=>w'.cell? ⟨w.heap.size+1,0,none⟩=some (.bool nb)∧w'.cell? ⟨w.heap.size+1,1,none⟩=some (.slice A' gy.length c')∧w'.cell? ⟨w.heap.size,1,none⟩=some (.slice A gx.length c))
   (go_keep)
   (first
    |(go_at_call 275;refine(HM.out _ (HA'.out.ext HXW.out.drew) (HA.out.ext HXW.out.drew)).mono ?_;rintro e w2⟨A1,c1,rfl,hrd,hx2,hc1,hc2⟩;have hbr:=HBRW.out.drew.ext hx2;have q0:=hbr.cell 0;have q1:=hbr.cell 1;have f0:=hbr.frozen 0;have f1:=hbr.frozen 1;have hba:=HBYW.out.drew.ext hx2;have u0:=hba.cell 0;have u1:=hba.cell 1;have hbb:=HBXW.out.drew.ext hx2;have v1:=hbb.cell 1;simp only[Mk,Mm,Ms]at q0 q1 u0 u1 v1;have HBR2:=qh hbr;have HX2:=qh (HXW.out.drew.trans hx2);have HRD:=qh hrd;have HC:=qh (MC hc1 hc2);clear hbr hba hbb hx2 hrd hc1 hc2))
  all_goals
   go_wp2_with fail;refine MI (ja rfl _ _ (w.heap.size+1+1) (.bool nb) (.slice A1 (gr (y-x)).length c1) rfl ((HBR2.out.set_ 0 (.bool nb)).set_ 1 (.slice A1 (gr (y-x)).length c1))) rfl ?_;have hne:=HRD.out.box HBR2.out;exact⟨nb,y-x,A1,c1,rfl,HS.out,(HRD.out.far (.bool nb) hne).far _ hne,(HX2.out.setCell (p:=⟨w.heap.size+1+1,0,none⟩) (by show w.heap.size<=w.heap.size+1+1;omega) _).setCell (p:=⟨w.heap.size+1+1,1,none⟩) (by show w.heap.size<=w.heap.size+1+1;omega) _,HC.out.1,HC.out.2⟩
 ·have hle:y<=x:=by omega
  have HM:=qh (HM1.out hle);have HS:=qh (HS1.out hle);have hr':0<=r:=by omega
  clear hcase hle;go_wp2_with fail
  go_region_held3 (fun w'=>w'.cell? ⟨w.heap.size,0,none⟩=some (.bool b)∧w'.cell? ⟨w.heap.size,1,none⟩=some (.slice A gx.length c)∧w'.cell? ⟨w.heap.size+1,1,none⟩=some (.slice A' gy.length c'))
   (go_keep)
   (first
    |(go_at_call 275;refine(HM.out _ (HA.out.ext HXW.out.drew) (HA'.out.ext HXW.out.drew)).mono ?_;rintro e w2⟨A1,c1,rfl,hrd,hx2,hc1,hc2⟩;have hbr:=HBRW.out.drew.ext hx2;have q0:=hbr.cell 0;have q1:=hbr.cell 1;have f0:=hbr.frozen 0;have f1:=hbr.frozen 1;have hba:=HBXW.out.drew.ext hx2;have u0:=hba.cell 0;have u1:=hba.cell 1;have hbb:=HBYW.out.drew.ext hx2;have v1:=hbb.cell 1;simp only[Mk,Mm,Ms]at q0 q1 u0 u1 v1;have HBR2:=qh hbr;have HX2:=qh (HXW.out.drew.trans hx2);have HRD:=qh hrd;have HC:=qh (MC hc1 hc2);clear hbr hba hbb hx2 hrd hc1 hc2))
  all_goals
   go_wp2_with fail;refine MI (ja rfl _ _ (w.heap.size+1+1) (.bool b) (.slice A1 (gr (x-y)).length c1) rfl ((HBR2.out.set_ 0 (.bool b)).set_ 1 (.slice A1 (gr (x-y)).length c1))) rfl ?_;have hne:=HRD.out.box HBR2.out;exact⟨b,x-y,A1,c1,rfl,HS.out,(HRD.out.far (.bool b) hne).far _ hne,(HX2.out.setCell (p:=⟨w.heap.size+1+1,0,none⟩) (by show w.heap.size<=w.heap.size+1+1;omega) _).setCell (p:=⟨w.heap.size+1+1,1,none⟩) (by show w.heap.size<=w.heap.size+1+1;omega) _,HC.out.1,HC.out.2⟩
theorem F9(b b':Bool)(x y:Nat)(A A':Option Addr)(c c':Nat)(w:World)(hA:RdI w A (gr x))(hA':RdI w A' (gr y))(hn:(gr x).length<=1000000)(hn':(gr y).length<=1000000) :
  Calls prog 193 #[.agg #[.bool b,.slice A (gr x).length c],.agg #[.bool b',.slice A' (gr y).length c']] w (pT (sgn b x+sgn b' y) w):=by
 by_cases h:b'=b
 ·subst h;exact wg b' x y A A' c c' w hA hA' hn hn'
 ·have e:b'=!b:=by cases b <;> cases b' <;> simp_all
  subst e;exact wh b x y A A' c c' w hA hA' hn hn'
theorem qT(h:(mag l).length<=17) : -1000000000000000000<=valI l∧valI l<=1000000000000000000:=by
 have h1:natOf (mag l)<100000000000000000:=by
  have:=jT (mag_all l) h (mag l).length;rwa[Mv (Mn _)]at this
 unfold valI;split <;> omega
theorem lP(a b:Bs)(w:World)(ha:a.length<=100000)(hb:b.length<=100000)(m n:Int)(is also:Bool)(hno:(is && also)=false)
  (h1:∀w,Calls prog 190 #[.string (bs a)] w fun e w'=>e = .returned (.tuple #[.int .i64 m,.bool is])∧w=w')
  (h2:∀w,Calls prog 190 #[.string (bs b)] w fun e w'=>e = .returned (.tuple #[.int .i64 n,.bool also])∧w=w') :
  Calls prog 113 #[.string (bs a),.string (bs b)] w fun e w'=>e = .returned (.string (bs (ofI (valI a+valI b))))∧Ext w w':=by
 have HR1:=qh (fun W=>vf a W (by omega));have HR2:=qh (fun W=>vf b W (by omega));obtain⟨L,hLa,hLb,hL⟩:∃L:Nat,a.length<=L∧b.length<=L∧L<=100000:=⟨max a.length b.length,by omega,by omega,by omega⟩;have HL1:Hid ((gr (natOf (mag a))).length<=1000000):=qh (by have:=bM (be a hLa);omega);have HL2:Hid ((gr (natOf (mag b))).length<=1000000):=qh (by have:=bM (be b hLb);omega);have HP1:=qh (be a hLa);have HP2:=qh (be b hLb);have HV:Hid (valI a+valI b=sgn (neg a) (natOf (mag a))+sgn (neg b) (natOf (mag b))):=qh rfl;generalize valI a+valI b=z at *;generalize natOf (mag a)=x at *;generalize natOf (mag b)=y at *;generalize neg a=ba at *;generalize neg b=bb at *;have H1:=qh h1;have H2:=qh h2;clear h1 h2 ha hb hLa hLb;have hcase:(is=true∧also=false)∨is=false:=by cases is <;> cases also <;> simp_all
 clear hno;rcases hcase with ⟨rfl,rfl⟩|rfl
 all_goals
  go_enter func113,ntmps113;go_wp2_with fail;refine(H1.out _).mono ?_;rintro e w1⟨rfl,rfl⟩;go_wp2_with fail;refine(H2.out _).mono ?_;rintro e w1⟨rfl,rfl⟩;go_wp2_with fail;refine(HR1.out _).mono ?_;rintro e w2⟨A,c,rfl,hrd1,hx1,_,_⟩;go_wp2_with fail;refine(HR2.out _).mono ?_;rintro e w3⟨A',c',rfl,hrd2,hx2,_,_⟩;have HD1:=qh (hrd1.ext hx2);have HD2:=qh hrd2;have HX:=qh (hx1.trans hx2);clear hrd1 hrd2 hx1 hx2;go_wp2_with fail;refine(F9 ba bb x y A A' c c' _ HD1.out HD2.out HL1.out HL2.out).mono ?_;rintro e w4⟨bs',n',A1,c1,rfl,hs,hrd,hx,_,_⟩;have HS:=qh hs;have HD:=qh hrd;have HX4:=HX.qt hx;have HLN:Hid ((gr n').length<=1000000):=qh (by have:=qX hs HP1.out HP2.out;omega);clear hs hrd hx;have HW:=qh (DN bs' (gr n') A1 c1 w4 HD.out HLN.out (gr_lt n'));rw[gval_gr,HS.out,←HV.out]at HW;go_wp2_with fail;refine HW.out.mono ?_;rintro e w5⟨rfl,hx5⟩;go_wp2_with fail;go_ret;exact⟨rfl,HX4.out.trans hx5⟩
theorem AO(a b:Bs)(w:World)(ha:a.length<=100000)(hb:b.length<=100000) :
  Calls prog 113 #[.string (bs a),.string (bs b)] w fun e w'=>e = .returned (.string (bs (ofI (valI a+valI b))))∧Ext w w':=by
 by_cases h1:(mag a).length<=17
 ·by_cases h2:(mag b).length<=17
  ·have HS1:=qh (fun w=>mW a w (by omega) h1);have HS2:=qh (fun w=>mW b w (by omega) h2);obtain⟨p1,p2⟩:=qT h1;obtain⟨q1,q2⟩:=qT h2;have HOF:=qh (fun w=>DK (valI a+valI b) (by omega) (by omega) w);clear h1 h2 ha hb;generalize valI a=m at *;generalize valI b=n at *;go_enter func113,ntmps113;go_wp2_with fail;refine(HS1.out _).mono ?_;rintro e w1⟨rfl,rfl⟩;go_wp2_with fail;refine(HS2.out _).mono ?_;rintro e w1⟨rfl,rfl⟩;go_wp2_with fail;refine(HOF.out _).mono ?_;rintro e w1⟨rfl,rfl⟩;go_wp2_with fail;go_ret;exact⟨rfl,iD _⟩
  ·exact lP a b w ha hb _ _ true false rfl (fun w=>mW a w (by omega) h1) (fun w=>jz b w (by omega) h2)
 ·by_cases h2:(mag b).length<=17
  ·exact lP a b w ha hb _ _ false true rfl (fun w=>jz a w (by omega) h1) (fun w=>mW b w (by omega) h2)
  ·exact lP a b w ha hb _ _ false false rfl (fun w=>jz a w (by omega) h1) (fun w=>jz b w (by omega) h2)
theorem DQ(l:Bs):(valI l).natAbs<10 ^ l.length:=by
 have:=m7 l;unfold valI;split <;> omega
theorem IV(a b:Bs)(w:World)(ha:a.length<=90000)(hb:b.length<=90000) :
  Calls prog 90 #[.string (bs a),.string (bs b)] w fun e w'=>e = .returned (.string (bs (ofI (valI a-valI b))))∧Ext w w':=by
 have HN:=qh (fun w=>IU b w (by omega))
 have HA:=qh (fun w=>AO a (ofI (-(valI b))) w (by omega) (by
  have h1:=DQ b;have h2:(ofI (-(valI b))).length<=b.length+1:=qY (by rwa[Rj]);omega))
 rw[valI_ofI,←Int.sub_eq_add_neg]at HA;clear ha hb;generalize ofI (-(valI b))=c at *;generalize ofI (valI a-valI b)=r at *;go_enter func90,ntmps90;go_wp2_with fail;refine(HN.out _).mono ?_;rintro e w1⟨rfl,rfl⟩;go_wp2_with fail;refine(HA.out _).mono ?_;rintro e w2⟨rfl,hx⟩;go_wp2_with fail;go_ret;exact⟨rfl,hx⟩
end
section
open Go.RowKit
theorem LZ:∀(a b:Bs),lt a b=true->lt b a=false:=by
 intro a;induction a with
 |nil=>intro b _;unfold lt;cases b <;> rfl
 |cons c r ih =>
  intro b h;cases b with
  |nil=>simp[lt,Op.bytesLess]at h
  |cons d s =>
   simp only[lt,Op.bytesLess,Qo,MW,MJ,Np]at h;simp only[lt,Op.bytesLess,PW,Mi,QL];rcases h with h | ⟨rfl,h⟩
   ·exact⟨by rw[PQ]at h ⊢;omega,.inl (by rw[Mt];intro e;subst e;rw[PQ]at h;omega)⟩
   ·exact⟨by rw[PQ];omega,.inr (ih s h)⟩
theorem DS:∀(a b:Bs),lt a b=false->lt b a=false->a=b:=by
 intro a;induction a with
 |nil=>intro b h _;cases b with|nil=>rfl|cons d s=>simp[lt,Op.bytesLess]at h
 |cons c r ih =>
  intro b h k;cases b with
  |nil=>simp[lt,Op.bytesLess]at k
  |cons d s =>
   simp only[lt,Op.bytesLess,PW,Mi,QL]at h k
   have e:c=d:=by
    apply Po.1;have h1:=h.1;have k1:=k.1;rw[PQ]at h1 k1;omega
   subst e;have h2:Op.bytesLess r s=false:=by rcases h.2 with h|h;simp at h;exact h
   have k2:Op.bytesLess s r=false:=by rcases k.2 with h|h;simp at h;exact h
   rw[ih s h2 k2]
theorem nL:∀ {a b:Bs},a.all isD=true->b.all isD=true->a.length=b.length->(lt a b=true↔natOf a<natOf b)
 |[],[],_,_,_=>by simp[lt,Op.bytesLess,natOf]
 |[],_ :: _,_,_,h=>by simp at h
 |_ :: _,[],_,_,h=>by simp at h
 |c :: r,d :: s,ha,hb,hl=>by
  simp only[NH,MJ]at ha hb;have hl':r.length=s.length:=by simpa using hl
  have ih:=nL ha.2 hb.2 hl';rw[mu,mu,hl'];have h1:=natOf_lt ha.2;have h2:=natOf_lt hb.2;rw[hl']at h1;have hc:=tF ha.1;have hd:=tF hb.1;simp only[lt,Op.bytesLess,Qo,MW,MJ,Np];rw[PQ];have hp:0<10 ^ s.length:=Pf (by decide);constructor
  ·rintro(h | ⟨rfl,h⟩)
   ·have:(dval c+1)*10 ^ s.length<=dval d*10 ^ s.length:=MO _ (by omega);rw[MY,OJ]at this;omega
   ·have:=ih.1 h;omega
  ·intro h;rcases Rl (dval c) (dval d) with h3|h3|h3
   ·left;omega
   ·right
    have e:c=d:=Po.1 (by omega);subst e;exact⟨rfl,ih.2 (by omega)⟩
   ·exfalso
    have:(dval d+1)*10 ^ s.length<=dval c*10 ^ s.length:=MO _ (by omega);rw[MY,OJ]at this;omega
theorem qU{t:Bs}(hs:s.all isD=true)(ht:t.all isD=true)(hl:Lead t)(h:s.length<t.length):natOf s<natOf t:=by
 have h1:=natOf_lt hs;have h2:=wm ht hl (by rintro rfl;simp at h);have h3:10 ^ s.length<=10 ^ (t.length-1):=NW (by decide) (by omega);omega
end
section
open Go.RowKit
attribute [local go_sem] size_bs toList_bs extract_bs get_bs append_bs lit_append append_lit
theorem si(l:Bs)(w:World)(hs:l.length<=1000000000) :
  Calls prog 115 #[.string (bs l)] w fun e w'=>e = .returned (.bool (isName l))∧w=w':=by
 go_enter func115,ntmps115;go_wp2_with fail;go_loop [3] (fun i=>∃k:Nat,k<=l.length∧i = .int .i64 k∧(l.take k).all isN=true) (fun i=>l.length-(intOf i).toNat)
 case atStart=>exact⟨0,Om _,rfl,rfl⟩
 case round =>
  obtain⟨k,hk,rfl,hd⟩:=hrel;have HD:=qh hd;clear hd;by_cases hlt:k<l.length
  ·by_cases h95:((l[k]'hlt).toNat:Int)=95
   ·have h95a:((l[k]'hlt).toNat:Int)<=95:=by omega
    have h95c:95<=((l[k]'hlt).toNat:Int):=by omega
    have h95b:(((l[k]'hlt).toNat:Int) != 95)=false:=by rw[OV];exact h95
    clear h95;go_wp2_with fail
    all_goals
     go_round
     case rel=>exact⟨k+1,by omega,by go_num,takeN_succ l k hlt HD.out (isN_good (by omega))⟩
     case measure=>simp[intOf];omega
   ·have h95b:(((l[k]'hlt).toNat:Int) != 95)=true:=by rw[Nc];exact h95
    go_wp2_with fail
    all_goals first
     |(go_ret
       exact⟨by rw[isName_bad l k hlt (isN_bad (by omega))];rfl,rfl⟩)
     |(go_round
       case rel=>exact⟨k+1,by omega,by go_num,takeN_succ l k hlt HD.out (isN_good (by omega))⟩
       case measure=>simp[intOf];omega)
  ·have hall:=qh (AD l k hlt HD.out);by_cases h1:1<=l.length
   ·by_cases h2:l.length<=16
    ·have h1b:decide (1<=(l.length:Int))=true:=by simp;omega
     have h2b:decide ((l.length:Int)<=16)=true:=by simp;omega
     go_wp2_with fail;go_ret;exact⟨by rw[mV l hall.out];simp[h1,h2],rfl⟩
    ·have h1b:decide (1<=(l.length:Int))=true:=by simp;omega
     have h2b:decide ((l.length:Int)<=16)=false:=by simp;omega
     go_wp2_with fail;go_ret;exact⟨by rw[mV l hall.out];simp[h2],rfl⟩
   ·have h1b:decide (1<=(l.length:Int))=false:=by simp;omega
    go_wp2_with fail;go_ret;exact⟨by rw[mV l hall.out];simp[h1],rfl⟩
end
section
open Go.RowKit
attribute [local go_sem] size_bs toList_bs
theorem vm{m:Bool}{x:Nat}(h:x<y):cmpI (sgn m x) (sgn m y)=if m then 1 else -1:=by
 unfold cmpI sgn;cases m <;> simp <;> omega
theorem vo{m:Bool}{x:Nat}(h:y<x):cmpI (sgn m x) (sgn m y)=if m then -1 else 1:=by
 unfold cmpI sgn;cases m <;> simp <;> omega
theorem DU(x:Int):cmpI x x=0:=by unfold cmpI;simp
theorem AP{m n:Bool}{x:Nat}(hm:m=true->0<x)(hn:n=true->0<y)(h:m≠n):cmpI (sgn m x) (sgn n y)=if m then -1 else 1:=by
 unfold cmpI sgn
 cases m <;> cases n <;> simp at h hm hn <;> simp <;> omega
theorem AQ(a b:Bs)(w:World)(ha:a.length<=1000000000)(hb:b.length<=1000000000) :
  Calls prog 119 #[.string (bs a),.string (bs b)] w fun e w'=>e = .returned (.int .i64 (cmpI (valI a) (valI b)))∧w=w':=by
 have HD1:=qh (fun w=>fV a w ha);have HD2:=qh (fun w=>fV b w hb);have hla:(mag a).length<=1000000000:=Mx (mag_le a) ha;have hlb:(mag b).length<=1000000000:=Mx (mag_le b) hb;have HAP:=qh (AP (m:=neg a) (n:=neg b) (x:=natOf (mag a)) (y:=natOf (mag b)) nW nW);have HS1:=qh (fun h=>qU (mag_all a) (mag_all b) (mag_lead b) h);have HS2:=qh (fun h=>qU (mag_all b) (mag_all a) (mag_lead a) h);have HE1:=qh (fun h=>(nL (mag_all a) (mag_all b) h).1);have HE2:=qh (fun h=>(nL (mag_all b) (mag_all a) h).1);have HV:Hid (valI a=sgn (neg a) (natOf (mag a))∧valI b=sgn (neg b) (natOf (mag b))):=qh ⟨rfl,rfl⟩;rw[HV.out.1,HV.out.2];clear HV ha hb;generalize neg a=m at *;generalize neg b=n at *;generalize mag a=s at *;generalize mag b=t at *;by_cases hmn:m=n
 ·subst hmn;clear HAP;rcases Rl s.length t.length with h|h|h
  ·have HC:=qh (vm (m:=m) (HS1.out h));generalize cmpI (sgn m (natOf s)) (sgn m (natOf t))=z at *;have hne:((s.length:Int) != (t.length:Int))=true:=by rw[Nc];omega
   cases m
   all_goals
    go_enter func119,ntmps119;go_wp2_with fail;refine(HD1.out _).mono ?_;rintro e w1⟨rfl,rfl⟩;go_wp2_with fail;refine(HD2.out _).mono ?_;rintro e w1⟨rfl,rfl⟩;go_wp2_with fail;go_ret;exact⟨by rw[HC.out];rfl,rfl⟩
  ·have hne:((s.length:Int) != (t.length:Int))=false:=by rw[OV];omega
   by_cases h1:Op.bytesLess s t=true
   ·have HC:=qh (vm (m:=m) (HE1.out h h1));generalize cmpI (sgn m (natOf s)) (sgn m (natOf t))=z at *
    cases m
    all_goals
     go_enter func119,ntmps119;go_wp2_with fail;refine(HD1.out _).mono ?_;rintro e w1⟨rfl,rfl⟩;go_wp2_with fail;refine(HD2.out _).mono ?_;rintro e w1⟨rfl,rfl⟩;go_wp2_with fail;go_ret;exact⟨by rw[HC.out];rfl,rfl⟩
   ·have h1f:Op.bytesLess s t=false:=by simpa using h1
    by_cases h2:Op.bytesLess t s=true
    focus
     have HC:=qh (vo (m:=m) (HE2.out h.symm h2))
     have hst:(s == t)=false:=by
      rw[Mt];intro e;subst e;rw[h1f]at h2;cases h2
     generalize cmpI (sgn m (natOf s)) (sgn m (natOf t))=z at *
    rotate_left
    focus
     have h2f:Op.bytesLess t s=false:=by simpa using h2
     have est:s=t:=DS s t h1f h2f;have HC:Hid (cmpI (sgn m (natOf s)) (sgn m (natOf t))=0):=qh (by rw[est,DU]);generalize cmpI (sgn m (natOf s)) (sgn m (natOf t))=z at *;have hst:(s == t)=true:=by rw[est];simp
     clear est
    all_goals
     cases m
     all_goals
      go_enter func119,ntmps119;go_wp2_with fail;refine(HD1.out _).mono ?_;rintro e w1⟨rfl,rfl⟩;go_wp2_with fail;refine(HD2.out _).mono ?_;rintro e w1⟨rfl,rfl⟩;go_wp2_with fail;go_ret;exact⟨by rw[HC.out];rfl,rfl⟩
  ·have HC:=qh (vo (m:=m) (HS2.out h));generalize cmpI (sgn m (natOf s)) (sgn m (natOf t))=z at *;have hne:((s.length:Int) != (t.length:Int))=true:=by rw[Nc];omega
   cases m
   all_goals
    go_enter func119,ntmps119;go_wp2_with fail;refine(HD1.out _).mono ?_;rintro e w1⟨rfl,rfl⟩;go_wp2_with fail;refine(HD2.out _).mono ?_;rintro e w1⟨rfl,rfl⟩;go_wp2_with fail;go_ret;exact⟨by rw[HC.out];rfl,rfl⟩
 ·have HC:=qh (HAP.out hmn);generalize cmpI (sgn m (natOf s)) (sgn n (natOf t))=z at *;clear HAP
  cases m <;> cases n <;> simp at hmn
  all_goals
   go_enter func119,ntmps119;go_wp2_with fail;refine(HD1.out _).mono ?_;rintro e w1⟨rfl,rfl⟩;go_wp2_with fail;refine(HD2.out _).mono ?_;rintro e w1⟨rfl,rfl⟩;go_wp2_with fail;go_ret;exact⟨by rw[HC.out];rfl,rfl⟩
theorem AU:valI []=0:=by decide
theorem Ga(a:Bs)(w:World)(ha:a.length<=1000000000) :
  Calls prog 118 #[.string (bs a)] w fun e w'=>e = .returned (.int .i64 (cmpI (valI a) 0))∧w=w':=by
 have HC:=qh (AQ a [] w ha (by simp));rw[AU]at HC;generalize cmpI (valI a) 0=z at *;go_enter func118,ntmps118;go_wp2_with fail;refine HC.out.mono ?_;rintro e w1⟨rfl,rfl⟩;go_wp2_with fail;go_ret;exact⟨rfl,rfl⟩
theorem yy(a b:Bs)(ha:a.length<=100000)(hb:b.length<=100000):jw 113 #[.string (bs a),.string (bs b)] (.string (bs (ofI (valI a+valI b)))):=fun W=>AO a b W ha hb
theorem IW(a b:Bs)(ha:a.length<=90000)(hb:b.length<=90000):jw 90 #[.string (bs a),.string (bs b)] (.string (bs (ofI (valI a-valI b)))):=fun W=>IV a b W ha hb
theorem kg{f:FuncId}{args:Array Value}(h:Calls prog f args W fun e w'=>e = .returned v∧W=w'):Calls prog f args W fun e w'=>e = .returned v∧Ext W w' :=
 h.mono fun _ _ ⟨h1,h2⟩=>⟨h1,h2 ▸ iD _⟩
theorem IX(a b:Bs)(ha:a.length<=100000)(hb:b.length<=100000):jw 119 #[.string (bs a),.string (bs b)] (.int .i64 (cmpI (valI a) (valI b))):=fun W=>kg (AQ a b W (by omega) (by omega))
end
section
open Go.RowKit
attribute [local go_sem] size_bs toList_bs extract_bs get_bs append_bs lit_append append_lit
theorem yz(l:Bs)(k:Nat)(hlt:k<l.length)(h:(l.take k).all isD=true)(hk:isD (l[k]'hlt)=true):(l.take (k+1)).all isD=true:=by
 rw[Mo hlt,OI,h];simp[hk]
theorem nM(l:Bs)(k:Nat)(hlt:k<l.length)(hk:isD (l[k]'hlt)=false):numOK l=false:=by
 unfold numOK
 have:l.all isD=false:=by
  rw[Sg];exact⟨_,Ml hlt,by rw[hk];simp⟩
 rw[this];simp
theorem DV(l:Bs)(k:Nat)(hlt:k<l.length)(h:∀x ∈ l.take k,x≠47)(hk:l[k]'hlt=47):cut47 l=(l.take k,l.drop (k+1)):=by
 induction l generalizing k with
 |nil=>simp at hlt
 |cons c r ih =>
  cases k with
  |zero=>simp only[Ps]at hk;unfold cut47;simp[hk]
  |succ k =>
   have hc:c≠47:=h c (by simp);unfold cut47;rw[Mj hc,ih k (by simpa using hlt) (fun x hx=>h x (by simp[hx])) (by simpa using hk)];simp
theorem yA(l:Bs)(h:∀x ∈ l,x≠47):cut47 l=(l,[]):=by
 induction l with
 |nil=>rfl
 |cons c r ih=>unfold cut47;rw[Mj (h c (by simp)),ih (fun x hx=>h x (by simp[hx]))]
end
section
open Go.RowKit Go.Shelf
def aZ(f:GainV->Bs)(gs:List GainV):Int:=(gs.map (fun g=>valI (f g))).sum
theorem iG{f:GainV->Bs}{gs:List GainV}(h:k<gs.length):aZ f (gs.take (k+1))=aZ f (gs.take k)+valI (f (gs[k]'h)):=by
 unfold aZ;rw[Mo h,Pp,Sz];simp
theorem jt{f:GainV->Bs}{gs:List GainV}{L:Nat}(hs:∀g ∈ gs,(f g).length<=L)(hn:gs.length<=100000)(k:Nat):(ofI (aZ f (gs.take k))).length<=L+7:=by
 have e:aZ f (gs.take k)=aV ((gs.take k).map f):=by unfold aZ aV;rw[OH];rfl
 rw[e];refine jD L _ ?_ (by rw[Nb,Mu];omega);intro x hx;obtain⟨g,hg,rfl⟩:=MH.1 hx;exact hs g (Ng hg)
end
section
open Go.RowKit Go.Shelf
attribute [local go_sem] size_bs toList_bs
theorem DW(kf:Nat)(cb:Array Value)(ek:∀args w,(callFunc kf args).run prog w = .ok (.enter kf args) w)(p:GainV->Bool)(ls:List GainV)(A:Option Addr)(c:Nat)(w:World)(hA:dM w A ls)(hn:ls.length<=1000000)
  (hF:∀x ∈ ls,∀W,Ext w W->Calls prog kf (#[kB x]++cb) W fun e w'=>e = .returned (.bool (p x))∧Ext W w') :
  Calls prog 102 #[.slice A ls.length c,.func (.func kf) #[] cb] w fun e w'=>e = .returned (.int .i64 (bO p ls))∧Ext w w':=by
 have HA:=qh hA;have HF:=qh hF;clear hA hF;go_enter func102,ntmps102;go_wp2_with fail;go_loopw [8,5] (fun i _ wr=>∃k:Nat,k<=ls.length∧i = .int .i64 k∧(∀x ∈ ls.take k,p x=false)∧Ext w wr) (fun i _ _=>ls.length-(intOf i).toNat)
 case atStart=>exact⟨0,by omega,rfl,by simp,iD _⟩
 case round =>
  obtain⟨k,hk,rfl,hz,hx⟩:=hrel;have HZ:=qh hz;have HX:=qh hx;clear hz hx;by_cases hlt:k<ls.length
  ·obtain⟨b,o,rfl,hb,c0,c1,c2,c3,c4,c5,c6,c7,c8,c9⟩:=(HA.out.ext HX.out).at_ hlt;have HC:=qh (HF.out (ls[k]'hlt) (Ml _));have HN:Hid (p (ls[k]'hlt)=false->∀x ∈ ls.take (k+1),p x=false):=qh (fun h=>kG hlt HZ.out h);have HI:Hid (p (ls[k]'hlt)=true->bO p ls=k):=qh (fun h=>lV hlt HZ.out h);generalize (ls[k]'hlt)=x at *;go_wp2_with fail;refine(HC.out _ HX.out).mono ?_;rintro e w1⟨rfl,hx1⟩;replace HX:=HX.qt hx1;clear hx1
   cases hp:p x
   ·have HN1:=qh (HN.out hp);clear hp;go_wp2_with fail;go_roundw
    case rel=>exact⟨k+1,by omega,by go_num,HN1.out,HX.out⟩
    case measure=>simp[intOf];omega
   ·have HI1:=qh (HI.out hp);clear hp;go_wp2_with fail;go_ret;exact⟨by rw[HI1.out];rfl,HX.out⟩
  ·have HI:Hid (bO p ls = -1):=qh (kF (by have:=HZ.out;rwa[Mv (by omega)]at this));go_wp2_with fail;go_ret;exact⟨by rw[HI.out];rfl,HX.out⟩
theorem AV(kf:Nat)(cb:Array Value)(ek:∀args w,(callFunc kf args).run prog w = .ok (.enter kf args) w)(p:GainV->Bool)(ls:List GainV)(A:Option Addr)(c:Nat)(w:World)(hA:dM w A ls)(hn:ls.length<=1000000)
  (hF:∀x ∈ ls,∀W,Ext w W->Calls prog kf (#[kB x]++cb) W fun e w'=>e = .returned (.bool (p x))∧Ext W w') :
  Calls prog 31 #[.slice A ls.length c,.func (.func kf) #[] cb] w fun e w'=>e = .returned (.bool (ls.any p))∧Ext w w':=by
 have HI:=qh (DW kf cb ek p ls A c w hA hn hF);have HZ:Hid (decide (0<=bO p ls)=ls.any p):=qh (nX p ls);generalize ls.any p=b at *;generalize bO p ls=z at *;clear hA hF;go_enter func31,ntmps31;go_wp2_with fail;refine HI.out.mono ?_;rintro e w1⟨rfl,hx1⟩;have HX:=qh hx1;clear hx1;go_wp2_with fail;go_ret;exact⟨by rw[←HZ.out];rfl,HX.out⟩
end
end Go.Proofs.YtaegjkllenlfpaaGreatDoor
