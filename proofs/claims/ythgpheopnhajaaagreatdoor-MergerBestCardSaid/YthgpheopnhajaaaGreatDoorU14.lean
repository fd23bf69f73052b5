/- The seat's texts, part U14. -/
import Derived.Test.YthgpheopnhajaaaGreatDoorU0
import Derived.Test.YthgpheopnhajaaaGreatDoorU4
import Derived.Test.YthgpheopnhajaaaGreatDoorU9
import Derived.Lib.ItoaNum
import Derived.Lib.AtoiAll
import Derived.Test.YthgpheopnhajaaaGreatDoorProg
import Derived.Lib.SplitLaws
import Derived.WideMake
set_option maxRecDepth 100000
set_option maxHeartbeats 8000000
namespace Go.Proofs.YthgpheopnhajaaaGreatDoor
section
open Go.RowKit
def isN (c:UInt8):Bool:=(decide (97≤c.toNat) && decide (c.toNat≤122)) || (decide (48≤c.toNat) && decide (c.toNat≤57)) || decide (c.toNat=95)
def isName (l:Bs):Bool:=decide (1≤l.length) && decide (l.length≤16) && l.all isN
theorem isName_bad (l:Bs) (k:Nat) (hk:k<l.length) (h:isN (l[k]'hk)=false):isName l=false:=by
 have:l.all isN=false:=by rw [List.all_eq_false];exact ⟨_,List.getElem_mem hk,by simp [h]⟩
 simp [isName,this]
theorem takeN_succ (l:Bs) (k:Nat) (hk:k<l.length) (h:(l.take k).all isN=true) (hc:isN (l[k]'hk)=true):(l.take (k+1)).all isN=true:=by
 rw [List.take_succ_eq_append_getElem hk,List.all_append,h];simp [hc]
theorem isName_good (l:Bs) (k:Nat) (hk:¬ k<l.length) (h:(l.take k).all isN=true) (h1:1≤l.length) (h2:l.length≤16):isName l=true:=by
 rw [List.take_of_length_le (by omega)] at h
 unfold isName;rw [h];simp [h1,h2]
theorem isN_good {c:UInt8} (h:((97≤(c.toNat:Int)∧(c.toNat:Int)≤122)∨(48≤(c.toNat:Int)∧(c.toNat:Int)≤57))∨(95≤(c.toNat:Int)∧(c.toNat:Int)≤95)):isN c=true:=by
 unfold isN;rcases h with (h | h) | h
 ·have h1:97≤c.toNat:=by omega
  have h2:c.toNat≤122:=by omega
  simp [h1,h2]
 ·have h1:48≤c.toNat:=by omega
  have h2:c.toNat≤57:=by omega
  simp [h1,h2]
 ·have h1:c.toNat=95:=by omega
  simp [h1]
theorem isN_bad {c:UInt8} (h:¬ (((97≤(c.toNat:Int)∧(c.toNat:Int)≤122)∨(48≤(c.toNat:Int)∧(c.toNat:Int)≤57))∨(95≤(c.toNat:Int)∧(c.toNat:Int)≤95))):isN c=false:=by
 cases hn:isN c with
 |false=>rfl
 |true =>
  exfalso;apply h;unfold isN at hn
  simp only [Bool.or_eq_true,Bool.and_eq_true,decide_eq_true_eq] at hn
  omega
theorem takeN_end (l:Bs) (k:Nat) (hk:¬ k<l.length) (h:(l.take k).all isN=true):l.all isN=true:=by
 rw [List.take_of_length_le (by omega)] at h;exact h
theorem isName_all (l:Bs) (h:l.all isN=true):isName l=(decide (1≤l.length) && decide (l.length≤16)):=by
 unfold isName;rw [h,Bool.and_true]
end
section
open Go.RowKit
structure LotV where
 id:Bs
 ins:Bs
 acq:Int
 opn:Int
 q:Bs
 c:Bs
 u:Bs
instance:Inhabited LotV:=⟨⟨[],[],0,0,[],[],[]⟩⟩
def lotCells (x:LotV):List Value:=[.string (bs x.id),.string (bs x.ins),.int .i64 x.acq,.int .i64 x.opn,.string (bs x.q),.string (bs x.c),.string (bs x.u)]
def cut47:Bs→Bs × Bs
 |[]=>([],[])
 |x :: r=>if x=47 then ([],r) else (x :: (cut47 r).1,(cut47 r).2)
def numOK (t:Bs):Bool:=decide (1≤t.length) && decide (t.length≤4) && !(t.headD 48 == 48) && t.all isD
def isId (l:Bs):Bool:=isName (cut47 l).1 && numOK (cut47 l).2
theorem lead_of_head {t:Bs} (h:(!(t.headD 48 == 48))=true):Lead t:=by
 intro c r e;subst e;simpa using h
theorem numOK_iff {t:Bs}:numOK t=true↔∃ n:Nat,1≤n∧n≤9999∧t=dig10 n:=by
 constructor
 ·intro h
  simp only [numOK,Bool.and_eq_true,decide_eq_true_eq] at h
  obtain ⟨⟨⟨h1,h2⟩,h3⟩,h4⟩:=h
  have hl:=lead_of_head h3
  have hlt:=natOf_lt h4
  have hp:10 ^ t.length≤10 ^ 4:=Nat.pow_le_pow_right (by decide) h2
  refine ⟨natOf t,?_,by omega,(dig10_natOf h4 hl).symm⟩
  rcases Nat.eq_zero_or_pos (natOf t) with h0 | h0
  ·have:=(natOf_zero h4 hl).1 h0
   subst this;simp at h1
  ·exact h0
 ·rintro ⟨n,h1,h2,rfl⟩
  have hlen:=dig10_len (g:=n) (L:=4) (by omega)
  have hne:=dig10_ne (n:=n) (by omega)
  have hlead:Lead (dig10 n):=by
   have:∀ m,m≠0→Lead (dig10 m):=by
    intro m
    induction m using Nat.strongRecOn with
    |ind m ih =>
     intro hm
     rw [dig10_pos hm]
     by_cases h10:m / 10=0
     ·rw [h10,dig10_zero]
      intro c r e
      simp only [List.nil_append,List.cons.injEq] at e
      rw [← e.1]
      intro e2
      have:=congrArg UInt8.toNat e2
      rw [UInt8.toNat_ofNat_of_lt' (by show _<256;omega)] at this
      have h48:(48:UInt8).toNat=48:=rfl
      omega
     ·have hl:=ih (m / 10) (by omega) h10
      have hn:=dig10_ne h10
      intro c r e
      obtain ⟨c',r',e'⟩:=List.exists_cons_of_ne_nil hn
      rw [e'] at e
      simp only [List.cons_append,List.cons.injEq] at e
      rw [← e.1]
      exact hl c' r' e'
   exact this n (by omega)
  obtain ⟨c,r,e⟩:=List.exists_cons_of_ne_nil hne
  have hc:=hlead c r e
  simp only [numOK,Bool.and_eq_true,decide_eq_true_eq]
  refine ⟨⟨⟨by rw [e];simp,hlen⟩,?_⟩,dig10_all n⟩
  rw [e];simpa using hc
theorem decDigits_dig10 (n:Nat) (h:1≤n):Lib.decDigits n=dig10 n:=by
 induction n using Nat.strongRecOn with
 |ind n ih =>
  rw [Lib.decDigits,dig10_pos (by omega)]
  split
  ·rename_i h10
   rw [show n / 10=0 by omega,dig10_zero,show n % 10=n by omega];rfl
  ·rw [ih (n / 10) (by omega) (by omega)]
theorem parse_dig:∀ (l:Bs) (acc:Nat),l.all isD=true→acc*10 ^ l.length+natOf l<1000000000000→Lib.parseUint10 acc l = .ok (acc*10 ^ l.length+natOf l)
 |[],acc,_,_=>by simp [Lib.parseUint10,natOf]
 |c :: r,acc,h,hb=>by
  simp only [List.all_cons,Bool.and_eq_true] at h
  have hc:=(isD_iff c).1 h.1
  have e:natOf (c :: r)=dval c*10 ^ r.length+natOf r:=by
   have:=natOf_append [c] r
   rw [show natOf [c]=dval c by show 10*0+dval c=_;omega] at this
   exact this
  have hd:dval c=c.toNat-48:=rfl
  have e2:acc*10 ^ (c :: r).length+natOf (c :: r)=(acc*10+(c.toNat-48))*10 ^ r.length+natOf r:=by
   rw [List.length_cons,Nat.pow_succ,e,hd,Nat.add_mul,Nat.mul_comm (10 ^ r.length) 10,← Nat.mul_assoc];omega
  have hp:0<10 ^ r.length:=Nat.pow_pos (by decide)
  have hle:acc*10+(c.toNat-48)≤(acc*10+(c.toNat-48))*10 ^ r.length:=Nat.le_mul_of_pos_right _ hp
  rw [e2] at hb ⊢
  have ih:=parse_dig r (acc*10+(c.toNat-48)) h.2 hb
  rw [Lib.parseUint10,if_pos hc,if_neg (by omega),if_neg (by omega),ih]
theorem atoi_num {t:Bs} (h:numOK t=true):∃ n:Nat,1≤n∧n≤9999∧t=dig10 n∧Lib.atoiAll t = .ok (n:Int):=by
 obtain ⟨n,h1,h2,rfl⟩:=numOK_iff.1 h
 refine ⟨n,h1,h2,rfl,?_⟩
 have hne:=dig10_ne (n:=n) (by omega)
 have hall:=dig10_all n
 have hval:=natOf_dig10 n
 generalize dig10 n=t at *
 obtain ⟨c,r,rfl⟩:=List.exists_cons_of_ne_nil hne
 have hc:isD c=true:=by simp only [List.all_cons,Bool.and_eq_true] at hall;exact hall.1
 have hc2:=(isD_iff c).1 hc
 have hp:=parse_dig (c :: r) 0 hall (by omega)
 rw [Nat.zero_mul,Nat.zero_add,hval] at hp
 unfold Lib.atoiAll
 simp only
 rw [if_neg (by omega),Lib.parseMag,if_neg (by simp),hp]
 simp only
 rw [if_neg (by omega),if_neg (by omega),if_neg (by omega)]
theorem numOK_prog {t:Bs} {v:Int} (h:Lib.atoiAll t = .ok v):numOK t=(decide (1≤v) && decide (v≤9999) && (Lib.itoa v == t)):=by
 rw [Bool.eq_iff_iff]
 constructor
 ·intro k
  obtain ⟨n,h1,h2,rfl,h3⟩:=atoi_num k
  rw [h] at h3
  injection h3 with h3
  subst h3
  simp only [Bool.and_eq_true,decide_eq_true_eq,beq_iff_eq]
  refine ⟨⟨by omega,by omega⟩,?_⟩
  unfold Lib.itoa
  rw [if_neg (by omega),Int.toNat_natCast,decDigits_dig10 n h1]
 ·intro k
  simp only [Bool.and_eq_true,decide_eq_true_eq,beq_iff_eq] at k
  refine numOK_iff.2 ⟨v.toNat,by omega,by omega,?_⟩
  rw [← k.2]
  unfold Lib.itoa
  rw [if_neg (by omega),decDigits_dig10 _ (by omega)]
theorem numOK_bad {t:Bs} (h:∀ v,Lib.atoiAll t ≠ .ok v):numOK t=false:=by
 cases k:numOK t with
 |false=>rfl
 |true=>obtain ⟨n,_,_,_,h3⟩:=atoi_num k;exact absurd h3 (h _)
def dayOK (d:Int):Bool:=decide (-25567≤d) && decide (d≤84005)
def checkL (x:LotV):Int :=
 if !(isId x.id) || !(isName x.ins) then 23 else if !(dayOK x.acq) || !(dayOK x.opn) then 13 else if x.opn<x.acq then 8
 else if checkI x.q≠0∨checkI x.c≠0∨checkI x.u≠0 then 1
 else if valI x.q≤0∨valI x.c<0∨(x.u≠[]∧x.u≠x.q) then 2 else 0
def goAll (seen:List Bs):List LotV→Int
 |[]=>0
 |x :: r=>if checkL x≠0 then checkL x else if x.id ∈ seen then 5 else goAll (seen++[x.id]) r
def checkAllL (ls:List LotV):Int:=if 1000<ls.length then 4 else goAll [] ls
def findL:List LotV→Bs→Option Nat
 |[],_=>none
 |x :: r,id=>if x.id=id then some 0 else (findL r id).map (·+1)
def SmallL (x:LotV):Prop:=x.id.length≤1000∧x.ins.length≤1000∧x.q.length≤1000∧x.c.length≤1000∧x.u.length≤1000
def ofL (ls:List LotV) (ins:Bs):List LotV:=ls.filter (fun x=>decide (x.ins=ins))
def totQ (ls:List LotV) (ins:Bs):Int:=((ofL ls ins).map (fun x=>valI x.q)).sum
def totC (ls:List LotV) (ins:Bs):Int:=((ofL ls ins).map (fun x=>valI x.c)).sum
end
section
open Go.RowKit
attribute [local go_sem] size_bs toList_bs extract_bs get_bs append_bs lit_append append_lit
theorem insName (l:Bs) (w:World) (hs:l.length≤1000000000) :
  Calls Tryz.prog 87 #[.string (bs l)] w fun e w'=>e = .returned (.bool (isName l))∧Ext w w':=by
 by_cases h0:l.length=0
 ·obtain rfl:l=[]:=List.eq_nil_of_length_eq_zero h0
  go_enter Tryz.func87,Tryz.ntmps87
  go_wp2_with fail
  go_ret
  exact ⟨rfl,Ext.refl _⟩
 have h0b:((l.length:Int) == 0)=false:=by rw [beq_eq_false_iff_ne];omega
 by_cases h1:16<l.length
 ·have h1b:decide (16<(l.length:Int))=true:=by simp;omega
  clear h0
  go_enter Tryz.func87,Tryz.ntmps87
  go_wp2_with fail
  go_ret
  exact ⟨by simp [isName];omega,Ext.refl _⟩
 have h1b:decide (16<(l.length:Int))=false:=by simp;omega
 obtain ⟨cap,w1,hrun,hx,hsz,hcell⟩:=conv_bytes (P:=Tryz.prog) w 9 191 5 l Tryz.underlying9 Tryz.underlying191 Tryz.underlying5
 have HC:=Lib.hid hcell
 have HN:Hid (1≤l.length):=Lib.hid (by omega)
 clear hcell hsz h0
 go_enter Tryz.func87,Tryz.ntmps87
 go_wp2_with fail
 go_loop [16] (fun i=>∃ k:Nat,k≤l.length∧i = .int .i64 k∧(l.take k).all isN=true) (fun i=>l.length-(intOf i).toNat)
 case atStart=>exact ⟨0,Nat.zero_le _,rfl,rfl⟩
 case round =>
  obtain ⟨k,hk,rfl,hd⟩:=hrel
  have HD:=Lib.hid hd
  clear hd hrun
  by_cases hlt:k<l.length
  ·have hc:=HC.out k hlt
   by_cases h95:((l[k]'hlt).toNat:Int)=95
   ·have h95a:((l[k]'hlt).toNat:Int)≤95:=by omega
    have h95c:95≤((l[k]'hlt).toNat:Int):=by omega
    have h95b:(((l[k]'hlt).toNat:Int) != 95)=false:=by rw [bne_eq_false_iff_eq];exact h95
    clear h95
    go_wp2_with fail
    all_goals
     go_round
     case rel=>exact ⟨k+1,by omega,by go_num,takeN_succ l k hlt HD.out (isN_good (by omega))⟩
     case measure=>simp [intOf];omega
   ·have h95b:(((l[k]'hlt).toNat:Int) != 95)=true:=by rw [bne_iff_ne];exact h95
    go_wp2_with fail
    all_goals first
     |(go_ret
       exact ⟨by rw [isName_bad l k hlt (isN_bad (by omega))];rfl,hx⟩)
     |(go_round
       case rel=>exact ⟨k+1,by omega,by go_num,takeN_succ l k hlt HD.out (isN_good (by omega))⟩
       case measure=>simp [intOf];omega)
  ·go_wp2_with fail
   go_ret
   exact ⟨by rw [isName_good l k hlt HD.out HN.out (by omega)];rfl,hx⟩
theorem refName (l:Bs) (w:World) (hs:l.length≤1000000000) :
  Calls Tryz.prog 103 #[.string (bs l)] w fun e w'=>e = .returned (.bool (isName l))∧w=w':=by
 go_enter Tryz.func103,Tryz.ntmps103
 go_wp2_with fail
 go_loop [3] (fun i=>∃ k:Nat,k≤l.length∧i = .int .i64 k∧(l.take k).all isN=true) (fun i=>l.length-(intOf i).toNat)
 case atStart=>exact ⟨0,Nat.zero_le _,rfl,rfl⟩
 case round =>
  obtain ⟨k,hk,rfl,hd⟩:=hrel
  have HD:=Lib.hid hd
  clear hd
  by_cases hlt:k<l.length
  ·by_cases h95:((l[k]'hlt).toNat:Int)=95
   ·have h95a:((l[k]'hlt).toNat:Int)≤95:=by omega
    have h95c:95≤((l[k]'hlt).toNat:Int):=by omega
    have h95b:(((l[k]'hlt).toNat:Int) != 95)=false:=by rw [bne_eq_false_iff_eq];exact h95
    clear h95
    go_wp2_with fail
    all_goals
     go_round
     case rel=>exact ⟨k+1,by omega,by go_num,takeN_succ l k hlt HD.out (isN_good (by omega))⟩
     case measure=>simp [intOf];omega
   ·have h95b:(((l[k]'hlt).toNat:Int) != 95)=true:=by rw [bne_iff_ne];exact h95
    go_wp2_with fail
    all_goals first
     |(go_ret
       exact ⟨by rw [isName_bad l k hlt (isN_bad (by omega))];rfl,rfl⟩)
     |(go_round
       case rel=>exact ⟨k+1,by omega,by go_num,takeN_succ l k hlt HD.out (isN_good (by omega))⟩
       case measure=>simp [intOf];omega)
  ·have hall:=Lib.hid (takeN_end l k hlt HD.out)
   by_cases h1:1≤l.length
   ·by_cases h2:l.length≤16
    ·have h1b:decide (1≤(l.length:Int))=true:=by simp;omega
     have h2b:decide ((l.length:Int)≤16)=true:=by simp;omega
     go_wp2_with fail
     go_ret
     exact ⟨by rw [isName_all l hall.out];simp [h1,h2],rfl⟩
    ·have h1b:decide (1≤(l.length:Int))=true:=by simp;omega
     have h2b:decide ((l.length:Int)≤16)=false:=by simp;omega
     go_wp2_with fail
     go_ret
     exact ⟨by rw [isName_all l hall.out];simp [h2],rfl⟩
   ·have h1b:decide (1≤(l.length:Int))=false:=by simp;omega
    go_wp2_with fail
    go_ret
    exact ⟨by rw [isName_all l hall.out];simp [h1],rfl⟩
end
section
open Go.RowKit Go.Shelf
attribute [local go_sem] size_bs toList_bs
theorem cut_slash (l:Bs):(Lib.cut l [47]).1=(cut47 l).1∧(Lib.cut l [47]).2.1=(cut47 l).2:=by
 unfold Lib.cut
 rw [Lib.index_one]
 have key:∀ l:Bs,(Lib.indexByte l 47 = -1∧cut47 l=(l,[]))∨∃ k:Nat,Lib.indexByte l 47=(k:Int)∧cut47 l=(l.take k,l.drop (k+1)):=by
  intro l
  induction l with
  |nil=>left;exact ⟨rfl,rfl⟩
  |cons x r ih =>
   by_cases h:x=47
   ·right;refine ⟨0,by simp [Lib.indexByte,h],by simp [cut47,h]⟩
   ·rcases ih with ⟨h1,h2⟩ | ⟨k,h1,h2⟩
    ·left;exact ⟨by simp [Lib.indexByte,h,h1],by simp [cut47,h,h2]⟩
    ·right
     have:¬ ((k:Nat):Int) = -1:=by omega
     exact ⟨k+1,by simp [Lib.indexByte,h,h1,this],by simp [cut47,h,h2]⟩
 rcases key l with ⟨h1,h2⟩ | ⟨k,h1,h2⟩
 ·rw [h1,h2];exact ⟨rfl,rfl⟩
 ·rw [h1,h2,if_pos (by omega),Int.toNat_natCast];exact ⟨rfl,rfl⟩
theorem cut47_len (l:Bs):(cut47 l).1.length≤l.length∧(cut47 l).2.length≤l.length:=by
 induction l with
 |nil=>exact ⟨Nat.le_refl _,Nat.le_refl _⟩
 |cons x r ih =>
  unfold cut47
  split
  ·simp
  ·simp only [List.length_cons];omega
theorem cutSlash (l:Bs) (w:World) (hl:l.length≤1000000) (hE:Env w) :
  Calls Tryz.prog 214 #[.string (bs l),.string { data:=#[47] }] w fun e w'=>(∃ b,e = .returned (.tuple #[.string (bs (cut47 l).1),.string (bs (cut47 l).2),.bool b]))∧Ext w w':=by
 obtain ⟨m,hm⟩:=hE.len
 refine (Tryz.strings_Cut (bs l) (bs [47]) m w (by rw [size_bs];omega) hm).mono ?_
 rintro e w' ⟨rfl,n,rfl⟩
 refine ⟨⟨(Lib.cut l [47]).2.2,?_⟩,(Ext.refl w).drewN n⟩
 have h:=cut_slash l
 rw [data_bs,data_bs,← h.1,← h.2];rfl
theorem ext_bytes (w:World) (t:TypeId) (b:ByteArray):Ext w (Lib.bytesWorld w t b) :=
 ⟨rfl,rfl,rfl,by rw [Lib.bytesWorld_size];omega,fun k hk=>Lib.bytesWorld_at_old w t b k hk⟩
theorem atoi_ok (t:Bs) (v:Int) (h:Lib.atoiAll t = .ok v) (ht:t.length≤1000000) (w:World) :
  Calls Tryz.prog 215 #[.string (bs t)] w fun e w'=>e = .returned (.tuple #[.int .i64 v,.nilIface])∧Ext w w':=by
 refine (Tryz.strconv_Atoi_ok (bs t) (by rw [size_bs];omega) v (by rw [data_bs];exact h) w).mono ?_
 rintro e w' ⟨rfl,rfl | ⟨q,rfl⟩⟩
 ·exact ⟨rfl,Ext.refl _⟩
 ·exact ⟨rfl,ext_bytes _ _ _⟩
theorem atoi_no (t:Bs) (h:∀ v,Lib.atoiAll t ≠ .ok v) (ht:t.length≤1000000) (w:World) (hE:Env w) :
  Calls Tryz.prog 215 #[.string (bs t)] w fun e w'=>(∃ n p,e = .returned (.tuple #[.int .i64 n,.iface 275 p]))∧Ext w w':=by
 cases k:Lib.atoiAll t
 ·exact absurd k (h _)
 ·obtain ⟨ev,hv,hev⟩:=hE.syn
  have hs:Calls Tryz.prog 215 #[.string (bs t)] w fun e w'=>∃ N,e = .returned (.tuple #[.int .i64 0,.iface 275 (.pointer (some ⟨N,0,none⟩))])∧w.heap.size≤N∧w'.heap[N]? = some (.cells #[.string ⟨#[65,116,111,105]⟩,.string (bs t),ev] 305 (0,0))∧Below w.heap.size w w' :=
   Go.Proofs.Any.strconv_Atoi_syntax Tryz.laysC172 (bs t) (by rw [size_bs];omega) (by rw [data_bs];exact k) ev w hv hev
  refine hs.mono ?_
  rintro e w' ⟨N,rfl,_,_,hb⟩
  exact ⟨⟨_,_,rfl⟩,hb⟩
 ·obtain ⟨ev,hv,hev⟩:=hE.rng
  refine (Tryz.strconv_Atoi_range (bs t) (by rw [size_bs];omega) (by rw [data_bs];exact k) ev w hv hev).mono ?_
  rintro e w' ⟨N,rfl,_,_,hb⟩
  exact ⟨⟨_,_,rfl⟩,hb⟩
theorem lotIsId (l:Bs) (hl:l.length≤100000):Pure 146 #[.string (bs l)] (.bool (isId l)):=by
 intro w hE
 have HE:=Lib.hid hE
 have hcl:=cut47_len l
 have HC:=Lib.hid (fun W h=>cutSlash l W (by omega) h)
 have HN:=Lib.hid (fun W=>insName (cut47 l).1 W (by omega))
 unfold isId
 rcases Classical.em (∃ v,Lib.atoiAll (cut47 l).2 = .ok v) with ⟨v,hk⟩ | hk
 ·have HA:=Lib.hid (fun W=>atoi_ok (cut47 l).2 v hk (by omega) W)
  have HP:=Lib.hid (numOK_prog hk)
  rw [HP.out]
  generalize (cut47 l).1=nm at *
  generalize (cut47 l).2=nu at *
  generalize isName nm=ok at *
  clear hk hcl hE HP
  by_cases h1:1≤v
  ·by_cases h2:v≤9999
   ·have HI:=Lib.hid (fun W h=>itoa_any v W (by omega) (by omega) h)
    generalize Lib.itoa v=it at *
    have g1:decide (1≤v)=true:=by simpa using h1
    have g2:decide (v≤9999)=true:=by simpa using h2
    by_cases h3:it=nu
    ·have g3:(it == nu)=true:=by simpa using h3
     have H3:Hid (ok=(ok && (decide (1≤v) && decide (v≤9999) && (it == nu)))):=Lib.hid (by rw [g1,g2,g3];simp)
     rw [← H3.out]
     clear h3
     go_enter Tryz.func146,Tryz.ntmps146
     go_wp2_with fail
     refine (HC.out _ HE.out).mono ?_
     rintro e w1 ⟨⟨b,rfl⟩,hx1⟩
     have HX:=Lib.hid hx1
     clear hx1
     go_wp2_with fail
     refine (HA.out _).mono ?_
     rintro e w2 ⟨rfl,hx1⟩
     replace HX:=Lib.hid (HX.out.trans hx1)
     clear hx1
     go_wp2_with fail
     refine (HI.out _ (HE.out.ext HX.out)).mono ?_
     rintro e w3 ⟨rfl,hx1⟩
     replace HX:=Lib.hid (HX.out.trans hx1)
     clear hx1
     go_wp2_with fail
     refine (HN.out _).mono ?_
     rintro e w4 ⟨rfl,hx1⟩
     replace HX:=Lib.hid (HX.out.trans hx1)
     clear hx1
     go_wp2_with fail
     go_ret
     exact ⟨rfl,HX.out⟩
    ·have g3:(it == nu)=false:=by simpa using h3
     have H3:Hid (false=(ok && (decide (1≤v) && decide (v≤9999) && (it == nu)))):=Lib.hid (by rw [g1,g2,g3];simp)
     rw [← H3.out]
     clear h3
     go_enter Tryz.func146,Tryz.ntmps146
     go_wp2_with fail
     refine (HC.out _ HE.out).mono ?_
     rintro e w1 ⟨⟨b,rfl⟩,hx1⟩
     have HX:=Lib.hid hx1
     clear hx1
     go_wp2_with fail
     refine (HA.out _).mono ?_
     rintro e w2 ⟨rfl,hx1⟩
     replace HX:=Lib.hid (HX.out.trans hx1)
     clear hx1
     go_wp2_with fail
     refine (HI.out _ (HE.out.ext HX.out)).mono ?_
     rintro e w3 ⟨rfl,hx1⟩
     replace HX:=Lib.hid (HX.out.trans hx1)
     clear hx1
     go_wp2_with fail
     go_ret
     exact ⟨rfl,HX.out⟩
   ·have g1:decide (1≤v)=true:=by simpa using h1
    have g2:decide (v≤9999)=false:=by simpa using h2
    generalize Lib.itoa v=it at *
    have H3:Hid (false=(ok && (decide (1≤v) && decide (v≤9999) && (it == nu)))):=Lib.hid (by rw [g1,g2];simp)
    rw [← H3.out]
    go_enter Tryz.func146,Tryz.ntmps146
    go_wp2_with fail
    refine (HC.out _ HE.out).mono ?_
    rintro e w1 ⟨⟨b,rfl⟩,hx1⟩
    have HX:=Lib.hid hx1
    clear hx1
    go_wp2_with fail
    refine (HA.out _).mono ?_
    rintro e w2 ⟨rfl,hx1⟩
    replace HX:=Lib.hid (HX.out.trans hx1)
    clear hx1
    go_wp2_with fail
    go_ret
    exact ⟨rfl,HX.out⟩
  ·have g1:decide (1≤v)=false:=by simpa using h1
   generalize Lib.itoa v=it at *
   have H3:Hid (false=(ok && (decide (1≤v) && decide (v≤9999) && (it == nu)))):=Lib.hid (by rw [g1];simp)
   rw [← H3.out]
   go_enter Tryz.func146,Tryz.ntmps146
   go_wp2_with fail
   refine (HC.out _ HE.out).mono ?_
   rintro e w1 ⟨⟨b,rfl⟩,hx1⟩
   have HX:=Lib.hid hx1
   clear hx1
   go_wp2_with fail
   refine (HA.out _).mono ?_
   rintro e w2 ⟨rfl,hx1⟩
   replace HX:=Lib.hid (HX.out.trans hx1)
   clear hx1
   go_wp2_with fail
   go_ret
   exact ⟨rfl,HX.out⟩
 ·have hk':∀ v,Lib.atoiAll (cut47 l).2 ≠ .ok v:=fun v h=>hk ⟨v,h⟩
  have HA:=Lib.hid (fun W h=>atoi_no (cut47 l).2 hk' (by omega) W h)
  rw [numOK_bad hk',Bool.and_false]
  generalize (cut47 l).1=nm at *
  generalize (cut47 l).2=nu at *
  clear hk hk' hcl hE HN
  go_enter Tryz.func146,Tryz.ntmps146
  go_wp2_with fail
  refine (HC.out _ HE.out).mono ?_
  rintro e w1 ⟨⟨b,rfl⟩,hx1⟩
  have HX:=Lib.hid hx1
  clear hx1
  go_wp2_with fail
  refine (HA.out _ (HE.out.ext HX.out)).mono ?_
  rintro e w2 ⟨⟨n,p,rfl⟩,hx1⟩
  replace HX:=Lib.hid (HX.out.trans hx1)
  clear hx1
  go_wp2_with fail
  go_ret
  exact ⟨rfl,HX.out⟩
theorem lotValid (d:Int) (w:World):Calls Tryz.prog 147 #[.int .i64 d] w fun e w'=>e = .returned (.bool (dayOK d))∧w=w':=by
 unfold dayOK
 by_cases h : -25567≤d
 ·have g:decide (-25567≤d)=true:=by simpa using h
  rw [g,Bool.true_and]
  go_enter Tryz.func147,Tryz.ntmps147
  go_wp2_with fail
  go_ret
  exact ⟨rfl,rfl⟩
 ·have g:decide (-25567≤d)=false:=by simpa using h
  rw [g,Bool.false_and]
  go_enter Tryz.func147,Tryz.ntmps147
  go_wp2_with fail
  go_ret
  exact ⟨rfl,rfl⟩
end
section
open Go.RowKit Go.Shelf
attribute [local go_sem] size_bs toList_bs
abbrev lv (x:LotV):Value := .agg #[.string (bs x.id),.string (bs x.ins),.int .i64 x.acq,.int .i64 x.opn,.string (bs x.q),.string (bs x.c),.string (bs x.u)]
abbrev lc (x:LotV):Array Value:=#[.string (bs x.id),.string (bs x.ins),.int .i64 x.acq,.int .i64 x.opn,.string (bs x.q),.string (bs x.c),.string (bs x.u)]
theorem lotBlk {w w':World} {g:Nat} {x:LotV} (h:Blk w g 71 (lc x)) (hx:Ext w w'):w'.cell? ⟨g,0,none⟩=some (.string (bs x.id))∧w'.cell? ⟨g,1,none⟩=some (.string (bs x.ins))∧w'.cell? ⟨g,2,none⟩=some (.int .i64 x.acq)∧w'.cell? ⟨g,3,none⟩=some (.int .i64 x.opn)∧w'.cell? ⟨g,4,none⟩=some (.string (bs x.q))∧w'.cell? ⟨g,5,none⟩=some (.string (bs x.c))∧w'.cell? ⟨g,6,none⟩=some (.string (bs x.u)):=by
 have k:=h.ext hx
 have h0:=k.cell 0
 have h1:=k.cell 1
 have h2:=k.cell 2
 have h3:=k.cell 3
 have h4:=k.cell 4
 have h5:=k.cell 5
 have h6:=k.cell 6
 simp only [List.getElem?_toArray,List.getElem?_cons_zero,List.getElem?_cons_succ] at h0 h1 h2 h3 h4 h5 h6
 exact ⟨h0,h1,h2,h3,h4,h5,h6⟩
structure CkL (x:LotV) (r:Int):Prop where
 k1:isId x.id=false→r=23
 k2:isId x.id=true→isName x.ins=false→r=23
 k3:isId x.id=true→isName x.ins=true→dayOK x.acq=false→r=13
 k4:isId x.id=true→isName x.ins=true→dayOK x.acq=true→dayOK x.opn=false→r=13
 k5:isId x.id=true→isName x.ins=true→dayOK x.acq=true→dayOK x.opn=true→x.opn<x.acq→r=8
 k6:isId x.id=true→isName x.ins=true→dayOK x.acq=true→dayOK x.opn=true→¬ x.opn<x.acq→(checkI x.q≠0∨checkI x.c≠0∨checkI x.u≠0)→r=1
 k7:isId x.id=true→isName x.ins=true→dayOK x.acq=true→dayOK x.opn=true→¬ x.opn<x.acq→¬ (checkI x.q≠0∨checkI x.c≠0∨checkI x.u≠0)→(valI x.q≤0∨valI x.c<0∨(x.u≠[]∧x.u≠x.q))→r=2
 k8:isId x.id=true→isName x.ins=true→dayOK x.acq=true→dayOK x.opn=true→¬ x.opn<x.acq→¬ (checkI x.q≠0∨checkI x.c≠0∨checkI x.u≠0)→¬ (valI x.q≤0∨valI x.c<0∨(x.u≠[]∧x.u≠x.q))→r=0
theorem ckL (x:LotV):CkL x (checkL x):=by
 unfold checkL
 constructor
 ·intro h;simp [h]
 ·intro h1 h2;simp [h1,h2]
 ·intro h1 h2 h3;simp [h1,h2,h3]
 ·intro h1 h2 h3 h4;simp [h1,h2,h3,h4]
 ·intro h1 h2 h3 h4 h5;simp [h1,h2,h3,h4,h5]
 ·intro h1 h2 h3 h4 h5 h6;rw [if_neg (by simp [h1,h2]),if_neg (by simp [h3,h4]),if_neg h5,if_pos h6]
 ·intro h1 h2 h3 h4 h5 h6 h7;rw [if_neg (by simp [h1,h2]),if_neg (by simp [h3,h4]),if_neg h5,if_neg h6,if_pos h7]
 ·intro h1 h2 h3 h4 h5 h6 h7;rw [if_neg (by simp [h1,h2]),if_neg (by simp [h3,h4]),if_neg h5,if_neg h6,if_neg h7]
theorem sl3 {w w':World} {g:Nat} {a b c:Value} (h:Blk w g 24 #[a,b,c]) (hx:Ext w w'):w'.cell? ⟨g,0,none⟩=some a∧w'.cell? ⟨g,1,none⟩=some b∧w'.cell? ⟨g,2,none⟩=some c:=by
 have k:=h.ext hx
 have h0:=k.cell 0
 have h1:=k.cell 1
 have h2:=k.cell 2
 simp only [List.getElem?_toArray,List.getElem?_cons_zero,List.getElem?_cons_succ] at h0 h1 h2
 exact ⟨h0,h1,h2⟩
theorem lotCheck (x:LotV) (hs:SmallL x):Pure 84 #[lv x] (.int .i64 (checkL x)):=by
 intro w hE
 obtain ⟨s1,s2,s3,s4,s5⟩:=hs
 have HE:=Lib.hid hE
 have HK:=Lib.hid (ckL x)
 generalize checkL x=r at *
 have H1:=Lib.hid (lotIsId x.id (by omega))
 have H2:=Lib.hid (fun W=>insName x.ins W (by omega))
 have H3:=Lib.hid (checkP x.q (by omega))
 have H4:=Lib.hid (checkP x.c (by omega))
 have H5:=Lib.hid (checkP x.u (by omega))
 have H6:=Lib.hid (cmp0P x.q (by omega))
 have H7:=Lib.hid (cmp0P x.c (by omega))
 clear hE s1 s2 s3 s4 s5
 have HB:=Lib.hid (Blk.new w 71 (lc x))
 have HX:Hid (Ext w (w.alloc (.cells (lc x) 71))):=Lib.hid (Ext.new _ _)
 obtain ⟨xi,xn,xa,xo,xq,xc,xu⟩:=x
 simp only at *
 go_enter Tryz.func84,Tryz.ntmps84
 go_wp2_with fail
 refine (H1.out _ (HE.out.ext HX.out)).mono ?_
 rintro e w1 ⟨rfl,hx1⟩
 obtain ⟨p0,p1,p2,p3,p4,p5,p6⟩:=lotBlk HB.out hx1
 replace HB:=Lib.hid (HB.out.ext hx1)
 replace HX:=Lib.hid (HX.out.trans hx1)
 clear hx1
 cases hb1:isId xi
 ·have HR:=Lib.hid (HK.out.k1 hb1)
  clear hb1 HK
  go_wp2_with fail
  go_ret
  exact ⟨by rw [HR.out];rfl,HX.out⟩
 ·have B1:=Lib.hid hb1
  clear hb1
  go_wp2_with fail
  refine (H2.out _).mono ?_
  rintro e w2 ⟨rfl,hx1⟩
  obtain ⟨p0,p1,p2,p3,p4,p5,p6⟩:=lotBlk HB.out hx1
  replace HB:=Lib.hid (HB.out.ext hx1)
  replace HX:=Lib.hid (HX.out.trans hx1)
  clear hx1
  cases hb2:isName xn
  ·have HR:=Lib.hid (HK.out.k2 B1.out hb2)
   clear hb2 HK
   go_wp2_with fail
   go_ret
   exact ⟨by rw [HR.out];rfl,HX.out⟩
  ·have B2:=Lib.hid hb2
   clear hb2
   go_wp2_with fail
   refine (lotValid xa _).mono ?_
   rintro e w3 ⟨rfl,rfl⟩
   cases hb3:dayOK xa
   ·have HR:=Lib.hid (HK.out.k3 B1.out B2.out hb3)
    clear hb3 HK
    go_wp2_with fail
    go_ret
    exact ⟨by rw [HR.out];rfl,HX.out⟩
   ·have B3:=Lib.hid hb3
    clear hb3
    go_wp2_with fail
    refine (lotValid xo _).mono ?_
    rintro e w4 ⟨rfl,rfl⟩
    cases hb4:dayOK xo
    ·have HR:=Lib.hid (HK.out.k4 B1.out B2.out B3.out hb4)
     clear hb4 HK
     go_wp2_with fail
     go_ret
     exact ⟨by rw [HR.out];rfl,HX.out⟩
    ·have B4:=Lib.hid hb4
     clear hb4
     by_cases hb5:xo<xa
     ·have HR:=Lib.hid (HK.out.k5 B1.out B2.out B3.out B4.out hb5)
      have g5:decide (xo<xa)=true:=by simpa using hb5
      clear HK
      go_wp2_with fail
      go_ret
      exact ⟨by rw [HR.out];rfl,HX.out⟩
     ·have B5:=Lib.hid hb5
      have g5:decide (xo<xa)=false:=by simpa using hb5
      have HS:=Lib.hid (Blk.new w2 24 #[.string (bs xq),.string (bs xc),.string (bs xu)])
      go_wp2_with fail
      have HXW:Hid (Ext w2 (w2.alloc (.cells #[.string (bs xq),.string (bs xc),.string (bs xu)] 24))):=Lib.hid (Ext.new _ _)
      replace HB:=Lib.hid (HB.out.ext HXW.out)
      replace HX:=Lib.hid (HX.out.trans HXW.out)
      clear HXW
      generalize hgs:w2.heap.size=gs at *
      generalize w2.alloc (.cells #[.string (bs xq),.string (bs xc),.string (bs xu)] 24)=W2 at *
      clear hgs
      obtain ⟨s0,s1,s2⟩:=sl3 HS.out (Ext.refl W2)
      refine wp_loop_rounds 4 ?_
      rw [rounds_succ]
      go_wp2_with fail
      refine (H3.out _ (HE.out.ext HX.out)).mono ?_
      rintro e w5 ⟨rfl,hx1⟩
      obtain ⟨p0,p1,p2,p3,p4,p5,p6⟩:=lotBlk HB.out hx1
      replace HB:=Lib.hid (HB.out.ext hx1)
      obtain ⟨s0,s1,s2⟩:=sl3 HS.out hx1
      replace HS:=Lib.hid (HS.out.ext hx1)
      replace HX:=Lib.hid (HX.out.trans hx1)
      clear hx1
      by_cases hq:checkI xq=0
      ·rw [hq]
       have Q1:=Lib.hid hq
       clear hq
       go_wp2_with fail
       rw [rounds_succ]
       go_wp2_with fail
       refine (H4.out _ (HE.out.ext HX.out)).mono ?_
       rintro e w6 ⟨rfl,hx1⟩
       obtain ⟨p0,p1,p2,p3,p4,p5,p6⟩:=lotBlk HB.out hx1
       replace HB:=Lib.hid (HB.out.ext hx1)
       obtain ⟨s0,s1,s2⟩:=sl3 HS.out hx1
       replace HS:=Lib.hid (HS.out.ext hx1)
       replace HX:=Lib.hid (HX.out.trans hx1)
       clear hx1
       by_cases hc:checkI xc=0
       ·rw [hc]
        have Q2:=Lib.hid hc
        clear hc
        go_wp2_with fail
        rw [rounds_succ]
        go_wp2_with fail
        refine (H5.out _ (HE.out.ext HX.out)).mono ?_
        rintro e w7 ⟨rfl,hx1⟩
        obtain ⟨p0,p1,p2,p3,p4,p5,p6⟩:=lotBlk HB.out hx1
        replace HB:=Lib.hid (HB.out.ext hx1)
        obtain ⟨s0,s1,s2⟩:=sl3 HS.out hx1
        replace HS:=Lib.hid (HS.out.ext hx1)
        replace HX:=Lib.hid (HX.out.trans hx1)
        clear hx1
        by_cases hu:checkI xu=0
        ·rw [hu]
         have Q3:=Lib.hid hu
         clear hu
         go_wp2_with fail
         rw [rounds_succ]
         have HQ:Hid (¬ (checkI xq≠0∨checkI xc≠0∨checkI xu≠0)):=Lib.hid (by
          rintro (h | h | h)
          ·exact h Q1.out
          ·exact h Q2.out
          ·exact h Q3.out)
         have HK7:=Lib.hid (HK.out.k7 B1.out B2.out B3.out B4.out (Int.not_lt.2 B5.out) HQ.out)
         have HK8:=Lib.hid (HK.out.k8 B1.out B2.out B3.out B4.out (Int.not_lt.2 B5.out) HQ.out)
         clear HK hb5 g5 HQ
         go_wp2_with fail
         refine (H6.out _ (HE.out.ext HX.out)).mono ?_
         rintro e w8 ⟨rfl,hx1⟩
         obtain ⟨p0,p1,p2,p3,p4,p5,p6⟩:=lotBlk HB.out hx1
         replace HB:=Lib.hid (HB.out.ext hx1)
         replace HX:=Lib.hid (HX.out.trans hx1)
         clear hx1
         by_cases hv:valI xq≤0
         ·have g7:decide (cmpI (valI xq) 0≤0)=true:=by
           rw [decide_eq_true_iff];have:=cmpI_pos (x:=valI xq) (y:=0);omega
          have HR:=Lib.hid (HK7.out (.inl hv))
          generalize cmpI (valI xq) 0=cc at *
          clear hv HK7 HK8
          go_wp2_with fail
          go_ret
          exact ⟨by rw [HR.out];rfl,HX.out⟩
         ·have g7:decide (cmpI (valI xq) 0≤0)=false:=by
           rw [decide_eq_false_iff_not];have:=cmpI_pos (x:=valI xq) (y:=0);omega
          generalize cmpI (valI xq) 0=cc at *
          have V1:=Lib.hid hv
          clear hv
          go_wp2_with fail
          refine (H7.out _ (HE.out.ext HX.out)).mono ?_
          rintro e w9 ⟨rfl,hx1⟩
          obtain ⟨p0,p1,p2,p3,p4,p5,p6⟩:=lotBlk HB.out hx1
          replace HB:=Lib.hid (HB.out.ext hx1)
          replace HX:=Lib.hid (HX.out.trans hx1)
          clear hx1
          by_cases hv2:valI xc<0
          ·have g8:decide (cmpI (valI xc) 0<0)=true:=by rw [decide_eq_true_iff,cmpI_neg];exact hv2
           have HR:=Lib.hid (HK7.out (.inr (.inl hv2)))
           generalize cmpI (valI xc) 0=cd at *
           clear hv2 HK7 HK8
           go_wp2_with fail
           go_ret
           exact ⟨by rw [HR.out];rfl,HX.out⟩
          ·have g8:decide (cmpI (valI xc) 0<0)=false:=by rw [decide_eq_false_iff_not,cmpI_neg];exact hv2
           generalize cmpI (valI xc) 0=cd at *
           have V2:=Lib.hid hv2
           clear hv2
           by_cases hu0:xu=[]
           ·have g9:(!xu.isEmpty)=false:=by rw [hu0];rfl
            have HR:=Lib.hid (HK8.out (by
             rintro (h | h | h)
             ·have:=V1.out;omega
             ·have:=V2.out;omega
             ·exact h.1 hu0))
            clear hu0 HK7 HK8
            go_wp2_with fail
            go_ret
            exact ⟨by rw [HR.out];rfl,HX.out⟩
           ·have g9:(!xu.isEmpty)=true:=by simpa using hu0
            by_cases hu1:xu=xq
            ·have g10:(xu != xq)=false:=by rw [bne_eq_false_iff_eq];exact hu1
             have g11:(xu == xq)=true:=by rw [beq_iff_eq];exact hu1
             have HR:=Lib.hid (HK8.out (by
              rintro (h | h | h)
              ·have:=V1.out;omega
              ·have:=V2.out;omega
              ·exact h.2 hu1))
             clear hu0 hu1 HK7 HK8
             go_wp2_with fail
             go_ret
             exact ⟨by rw [HR.out];rfl,HX.out⟩
            ·have g10:(xu != xq)=true:=by rw [bne_iff_ne];exact hu1
             have g11:(xu == xq)=false:=by rw [beq_eq_false_iff_ne];exact hu1
             have HR:=Lib.hid (HK7.out (.inr (.inr ⟨hu0,hu1⟩)))
             clear hu0 hu1 HK7 HK8
             go_wp2_with fail
             go_ret
             exact ⟨by rw [HR.out];rfl,HX.out⟩
        ·have HR:=Lib.hid (HK.out.k6 B1.out B2.out B3.out B4.out (Int.not_lt.2 B5.out) (.inr (.inr hu)))
         have g6:(checkI xu != 0)=true:=by rw [bne_iff_ne];exact hu
         clear HK hu hb5
         go_wp2_with fail
         go_ret
         exact ⟨by rw [HR.out];rfl,HX.out⟩
       ·have HR:=Lib.hid (HK.out.k6 B1.out B2.out B3.out B4.out (Int.not_lt.2 B5.out) (.inr (.inl hc)))
        have g6:(checkI xc != 0)=true:=by rw [bne_iff_ne];exact hc
        clear HK hc hb5
        go_wp2_with fail
        go_ret
        exact ⟨by rw [HR.out];rfl,HX.out⟩
      ·have HR:=Lib.hid (HK.out.k6 B1.out B2.out B3.out B4.out (Int.not_lt.2 B5.out) (.inl hq))
       have g6:(checkI xq != 0)=true:=by rw [bne_iff_ne];exact hq
       clear HK hq hb5
       go_wp2_with fail
       go_ret
       exact ⟨by rw [HR.out];rfl,HX.out⟩
end
section
open Go.RowKit
def scells (ls:List Bs):List Value:=ls.map fun l => .string (bs l)
theorem flat_at {α:Type} (f:α→List Value) (n:Nat) (hf:∀ a,(f a).length=n):∀ (l:List α) (k j:Nat) (h:k<l.length),j<n→(l.flatMap f)[k*n+j]? = (f (l[k]'h))[j]? := by
 intro l;induction l with
 |nil=>intro k j h;simp at h
 |cons a r ih =>
  intro k j h hj
  rw [List.flatMap_cons]
  cases k with
  |zero=>rw [Nat.zero_mul,Nat.zero_add,List.getElem?_append_left (by rw [hf];exact hj)];rfl
  |succ k =>
   rw [List.getElem?_append_right (by rw [hf,Nat.succ_mul];omega),hf,show (k+1)*n+j-n=k*n+j by rw [Nat.succ_mul];omega]
   exact ih k j (by simpa using h) hj
theorem flat_len {α:Type} (f:α→List Value) (n:Nat) (hf:∀ a,(f a).length=n):∀ (l:List α),(l.flatMap f).length=l.length*n:=by
 intro l;induction l with
 |nil=>simp
 |cons a r ih=>rw [List.flatMap_cons,List.length_append,hf,ih,List.length_cons,Nat.succ_mul];omega
def RdS (w:World) (A:Option Addr) (ls:List Bs):Prop:=Reads w 1 A ls.length (scells ls)
theorem RdS.ext {w w':World} {A:Option Addr} {ls:List Bs} (h:RdS w A ls) (he:Ext w w'):RdS w' A ls:=Reads.ext h he
theorem RdS.at_ {w:World} {A:Option Addr} {ls:List Bs} (h:RdS w A ls) {k:Nat} (hk:k<ls.length) :
  ∃ b o,A=some ⟨b,o,none⟩∧b<w.heap.size∧w.cell? ⟨b,o+k,none⟩=some (.string (bs (ls[k]'hk))):=by
 obtain ⟨b,o,rfl,hb⟩:=Reads.at_ h (by omega)
 exact ⟨b,o,rfl,hb,Reads.cell h (by simp [scells,hk])⟩
end
section
open Go.RowKit Go.Shelf
attribute [local go_sem] size_bs toList_bs
theorem lotCells_len (x:LotV):(lotCells x).length=7:=rfl
def RdL (w:World) (A:Option Addr) (ls:List LotV):Prop:=Reads w 7 A ls.length (ls.flatMap lotCells)
theorem RdL.ext {w w':World} {A:Option Addr} {ls:List LotV} (h:RdL w A ls) (he:Ext w w'):RdL w' A ls:=Reads.ext h he
theorem RdL.at_ {w:World} {A:Option Addr} {ls:List LotV} (h:RdL w A ls) {k:Nat} (hk:k<ls.length) :
  ∃ b o,A=some ⟨b,o,none⟩∧b<w.heap.size∧w.cell? ⟨b,o+k*7,none⟩=some (.string (bs (ls[k]'hk).id))∧w.cell? ⟨b,o+k*7+1,none⟩=some (.string (bs (ls[k]'hk).ins))∧w.cell? ⟨b,o+k*7+2,none⟩=some (.int .i64 (ls[k]'hk).acq)∧w.cell? ⟨b,o+k*7+3,none⟩=some (.int .i64 (ls[k]'hk).opn) ∧
    w.cell? ⟨b,o+k*7+4,none⟩=some (.string (bs (ls[k]'hk).q))∧w.cell? ⟨b,o+k*7+5,none⟩=some (.string (bs (ls[k]'hk).c))∧w.cell? ⟨b,o+k*7+6,none⟩=some (.string (bs (ls[k]'hk).u)):=by
 obtain ⟨b,o,rfl,hb⟩:=Reads.at_ h (by omega)
 have key:∀ j (_:j<7),w.cell? ⟨b,o+k*7+j,none⟩=(lotCells (ls[k]'hk))[j]? := fun j hj=>by
  have h1:=flat_at lotCells 7 lotCells_len ls k j hk hj
  have hl:j<(lotCells (ls[k]'hk)).length:=by rw [lotCells_len];exact hj
  rw [List.getElem?_eq_getElem hl] at h1 ⊢
  have h2:=Reads.cell h h1
  rw [← Nat.add_assoc] at h2
  exact h2
 exact ⟨b,o,rfl,hb,key 0 (by decide),key 1 (by decide),key 2 (by decide),key 3 (by decide),key 4 (by decide),key 5 (by decide),key 6 (by decide)⟩
section
variable {P:Program} {w:World}
theorem run_ins (mty kt et:TypeId) (r clock:Nat) (es:Array MapEntry) (s:ByteArray) (val:Value) (hm:P.underlying mty=some (.map kt et)) (hk:P.underlying kt=some .string) (hb:w.heap[r]? = some (.map es clock))
  (hf:Instr.findNow .string (.string s) es.toList 0=some none) :
  (Instr.mapUpdate mty (.map (some r)) (.string s) val).run P w = .ok () (w.putObj r (.map (es.push { key := .string s,val:=val,born:=clock }) (clock+1))):=by
 have hc:(Instr.checkKey false 10000 kt (.string s)).run P w = .ok () w:=MapKept.run_checkKey (k := .string s) hk (by simp [MapKept.IsKey]) false 9999
 simp [Instr.mapUpdate,run_underlying hm,MapKept.run_getObj_map hb,hc,MapKept.run_findKey hk hf,MapKept.run_setObj_map _ hb,Result.andThen,World.putObj]
theorem run_look (mty kt et:TypeId) (r clock:Nat) (es:Array MapEntry) (s:ByteArray) (i:Nat) (val:Value) (hm:P.underlying mty=some (.map kt et)) (hk:P.underlying kt=some .string) (hb:w.heap[r]? = some (.map es clock))
  (hf:Instr.findNow .string (.string s) es.toList 0=some (some (i,val))) :
  (Instr.lookup mty (.map (some r)) (.string s) false).run P w = .ok val w:=by
 have hc:(Instr.checkKey es.isEmpty 10000 kt (.string s)).run P w = .ok () w:=MapKept.run_checkKey (k := .string s) hk (by simp [MapKept.IsKey]) es.isEmpty 9999
 simp [Instr.lookup,run_underlying hm,MapKept.run_getObj_map hb,hc,MapKept.run_findKey hk hf,Result.andThen]
theorem run_look_no (mty kt et:TypeId) (r clock:Nat) (es:Array MapEntry) (s:ByteArray) (z:Value) (hm:P.underlying mty=some (.map kt et)) (hk:P.underlying kt=some .string) (hb:w.heap[r]? = some (.map es clock))
  (hf:Instr.findNow .string (.string s) es.toList 0=some none) (hz:(zeroValue et).run P w = .ok z w) :
  (Instr.lookup mty (.map (some r)) (.string s) false).run P w = .ok z w:=by
 have hc:(Instr.checkKey es.isEmpty 10000 kt (.string s)).run P w = .ok () w:=MapKept.run_checkKey (k := .string s) hk (by simp [MapKept.IsKey]) es.isEmpty 9999
 simp [Instr.lookup,run_underlying hm,MapKept.run_getObj_map hb,hc,MapKept.run_findKey hk hf,hz,Result.andThen]
end
def entsL:List Bs→Nat→List MapEntry
 |[],_=>[]
 |s :: r,i=>{ key := .string (bs s),val := .bool true,born:=i } :: entsL r (i+1)
theorem entsL_snoc (l:List Bs) (s:Bs) (i:Nat):entsL (l++[s]) i=entsL l i++[{ key := .string (bs s),val := .bool true,born:=i+l.length }]:=by
 induction l generalizing i with
 |nil=>rfl
 |cons a r ih=>simp only [List.cons_append,entsL,ih,List.length_cons];rw [show i+1+r.length=i+(r.length+1) by omega]
theorem bs_beq (a b:Bs):((bs a:ByteArray) == bs b)=decide (a=b):=by
 rw [Bool.eq_iff_iff,MapKept.bytes_beq,decide_eq_true_iff]
 constructor
 ·intro h;have:=congrArg (fun b=>b.data.toList) h;simpa [bs] using this
 ·intro h;rw [h]
theorem find_in (s:Bs):∀ (l:List Bs) (i n:Nat),s ∈ l→∃ k,Instr.findNow .string (.string (bs s)) (entsL l i) n=some (some (k,.bool true))
 |[],_,_,h=>by simp at h
 |a :: r,i,n,h=>by
  by_cases e:s=a
  ·exact ⟨n,by simp [entsL,Instr.findNow,Instr.sameNow,bs_beq,e]⟩
  ·obtain ⟨k,hk⟩:=find_in s r (i+1) (n+1) (by simpa [e] using h)
   exact ⟨k,by simp [entsL,Instr.findNow,Instr.sameNow,bs_beq,e,hk]⟩
theorem find_out (s:Bs):∀ (l:List Bs) (i n:Nat),s ∉ l→Instr.findNow .string (.string (bs s)) (entsL l i) n=some none
 |[],_,_,_=>rfl
 |a :: r,i,n,h=>by
  have e:s≠a:=by rintro rfl;simp at h
  have:=find_out s r (i+1) (n+1) (by simp at h;exact h.2)
  simp [entsL,Instr.findNow,Instr.sameNow,bs_beq,e,this]
def IdsAt (W:World) (r:Nat) (ids:List Bs):Prop:=W.heap[r]? = some (.map (entsL ids 0).toArray ids.length)
end
end Go.Proofs.YthgpheopnhajaaaGreatDoor
