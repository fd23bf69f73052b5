/- The seat's texts, part P8. -/
import Derived.Test.YthgpheopnhajaaaGreatDoorP0
import Derived.Test.YthgpheopnhajaaaGreatDoorP2
import Derived.Test.YthgpheopnhajaaaGreatDoorP5
import Derived.Test.YthgpheopnhajaaaGreatDoorP7
import Derived.Test.YthgpheopnhajaaaGreatDoorProg
import Derived.Lib.SplitLaws
import Derived.RangeFuncNested
import Derived.RangeFuncBound
import Derived.RangeFuncCalls
import Derived.RangeFuncLeaves
import Derived.Shelf.Abstract
import Derived.Shelf.RegionOpen
import Derived.OwnWalkIn
import Derived.TacticsInMore
import Derived.LoopNIn
import Derived.LoopIn
set_option maxRecDepth 100000
set_option maxHeartbeats 8000000
namespace Go.Proofs.YthgpheopnhajaaaGreatDoor
section
open Go.RowKit
def cfR(r:List Int)(i k:Fin r.length):Int:=if cmpI r[k] r[i]≠0 then cmpI r[k] r[i] else cmpI (i.val:Int) (k.val:Int)
def ltR(r:List Int)(i k:Fin r.length):Bool:=decide (cfR r i k<0)
theorem cC{x y:Int}:cmpI x y<0↔x<y:=by unfold cmpI;split <;> (try split) <;> omega
theorem eZ{x y:Int}:cmpI x y=0↔x=y:=by unfold cmpI;split <;> (try split) <;> omega
theorem gW{x y:Int}:0<cmpI x y↔y<x:=by unfold cmpI;split <;> (try split) <;> omega
theorem ltR_iff{r:List Int}{i k:Fin r.length}:ltR r i k=true↔r[k]<r[i]∨(r[k]=r[i]∧i.val<k.val):=by
 unfold ltR cfR;rw[decide_eq_true_iff];by_cases h:r[k]=r[i]
 ·rw[if_neg (by rw[Ne,eZ];omega),cC];omega
 ·rw[if_pos (by rw[Ne,eZ];omega),cC];omega
def ordR(r:List Int):List (Fin r.length):=(List.finRange r.length).mergeSort (fun x y=>!ltR r y x)
theorem qM(r:List Int):(ordR r).Perm (List.finRange r.length):=List.mergeSort_perm _ _
theorem ordR_len(r:List Int):(ordR r).length=r.length:=by rw[ordR,List.length_mergeSort,List.length_finRange]
theorem vC(r:List Int):(ordR r).Nodup:=(qM r).nodup_iff.2 (List.nodup_finRange _)
theorem ub(r:List Int):(ordR r).Pairwise (fun x y=>r[y]≤r[x]):=by
 have h:=List.pairwise_mergeSort (le:=fun x y=>!ltR r y x) (by
  intro a b c h1 h2;simp only[Bool.not_eq_true',←Bool.not_eq_true,ltR_iff]at *;omega) (by
  intro a b;simp only[Bool.or_eq_true,Bool.not_eq_true',←Bool.not_eq_true,ltR_iff];omega) (List.finRange r.length)
 refine List.Pairwise.imp ?_ h;intro a b hab;simp only[Bool.not_eq_true',←Bool.not_eq_true,ltR_iff]at hab;omega
def cI(p:List Int)(is:List Nat):List Int:=is.foldl (fun l i=>l.modify i (·+1)) p
theorem lj(p:List Int)(is:List Nat):(cI p is).length=p.length:=by
 unfold cI;induction is generalizing p with
 |nil=>rfl
 |cons i r ih=>rw[List.foldl_cons,ih,List.length_modify]
theorem vD(p:List Int)(i:Nat)(h:i<p.length):(p.modify i (·+1)).sum=p.sum+1:=by
 induction p generalizing i with
 |nil=>simp at h
 |cons a r ih =>
  cases i with
  |zero=>simp;omega
  |succ i=>simp only[List.modify_succ_cons,List.sum_cons];rw[ih i (by simpa using h)];omega
theorem uc(p:List Int)(is:List Nat)(h:∀i ∈ is,i<p.length):(cI p is).sum=p.sum+is.length:=by
 unfold cI;induction is generalizing p with
 |nil=>simp
 |cons i r ih =>
  rw[List.foldl_cons,ih _ (fun k hk=>by rw[List.length_modify];exact h k (by simp[hk])),vD _ _ (h i (by simp)),List.length_cons];omega
theorem lk(p:List Int)(is:List Nat)(hn:is.Nodup)(k:Nat)(hk:k<p.length):(cI p is)[k]? = some (p[k]+if k ∈ is then 1 else 0):=by
 unfold cI;induction is generalizing p with
 |nil=>simp[hk]
 |cons i r ih =>
  rw[List.nodup_cons]at hn;rw[List.foldl_cons,ih _ hn.2 (by rw[List.length_modify];exact hk),List.getElem_modify];congr 1
  by_cases e:i=k
  ·subst e;rw[if_pos rfl,if_neg hn.1,if_pos (by simp)];omega
  ·rw[if_neg e];by_cases hr:k ∈ r
   ·rw[if_pos hr,if_pos (by simp[hr])]
   ·rw[if_neg hr,if_neg (by simp[hr];omega)]
def cu(T:Int)(ws:List Int):List Int:=ws.map (fun x=>T*x / ws.sum)
def cJ(T:Int)(ws:List Int):List Int:=ws.map (fun x=>T*x % ws.sum)
def bV(T:Int)(ws:List Int):Int:=T-(cu T ws).sum
def db(T:Int)(ws:List Int):List Nat:=((ordR (cJ T ws)).take (bV T ws).toNat).map (·.val)
def bA(T:Int)(ws:List Int):List Int:=cI (cu T ws) (db T ws)
def dh(T:Int)(ws:List Int):List Int:=if T<0 then(bA (-T) ws).map (-·) else bA T ws
theorem kn(T:Int)(ws:List Int):(cu T ws).length=ws.length:=List.length_map ..
theorem iZ(T:Int)(ws:List Int):(cJ T ws).length=ws.length:=List.length_map ..
theorem iz(T:Int)(ws:List Int):(bA T ws).length=ws.length:=by rw[bA,lj,kn]
theorem oY(T:Int)(ws:List Int):(dh T ws).length=ws.length:=by
 unfold dh;split
 ·rw[List.length_map,iz]
 ·exact iz _ _
theorem vE(T S:Int)(l:List Int):S*(l.map (fun x=>T*x / S)).sum+(l.map (fun x=>T*x % S)).sum=T*l.sum:=by
 induction l with
 |nil=>simp
 |cons a r ih =>
  simp only[List.map_cons,List.sum_cons];have:=Int.mul_ediv_add_emod (T*a) S;rw[Int.mul_add,Int.mul_add];omega
theorem uE{T:Int}{ws:List Int}:ws.sum*bV T ws=(cJ T ws).sum:=by
 have:=vE T ws.sum ws;have e:(cu T ws).sum=(ws.map (fun x=>T*x / ws.sum)).sum:=rfl;have e2:(cJ T ws).sum=(ws.map (fun x=>T*x % ws.sum)).sum:=rfl;unfold bV;rw[Int.mul_sub,e,e2,Int.mul_comm ws.sum T];omega
theorem oZ{S:Int}(l:List Int)(h:∀x ∈ l,0≤x∧x<S):0≤l.sum∧l.sum≤l.length*(S-1):=by
 induction l with
 |nil=>simp
 |cons a r ih =>
  have h1:=h a (by simp);have h2:=ih (fun x hx=>h x (by simp[hx]));simp only[List.sum_cons,List.length_cons];rw[Int.natCast_add,Int.add_mul];omega
theorem nJ{T:Int}{ws:List Int}(hS:0<ws.sum):∀x ∈ cJ T ws,0≤x∧x<ws.sum:=by
 intro x hx;obtain⟨a,_,rfl⟩:=List.mem_map.1 hx;exact⟨Int.emod_nonneg _ (by omega),Int.emod_lt_of_pos _ hS⟩
theorem gF{T:Int}{ws:List Int}(hS:0<ws.sum):0≤bV T ws∧bV T ws≤ws.length:=by
 have h1:=oZ _ (nJ (T:=T) hS);rw[←uE,iZ]at h1;constructor
 ·have:=Int.le_of_mul_le_mul_left (a:=ws.sum) (b:=0) (c:=bV T ws) (by rw[Int.mul_zero];exact h1.1) hS;exact this
 ·have h2:ws.sum*bV T ws≤ws.sum*ws.length:=by
   refine Int.le_trans h1.2 ?_;rw[Int.mul_sub,Int.mul_one,Int.mul_comm];omega
  exact Int.le_of_mul_le_mul_left h2 hS
theorem sG{T:Int}{ws:List Int}(hS:0<ws.sum):((db T ws).length:Int)=bV T ws:=by
 have:=gF (T:=T) hS;rw[db,List.length_map,List.length_take,ordR_len,iZ];omega
theorem uF{T:Int}{ws:List Int}:∀i ∈ db T ws,i<ws.length:=by
 intro i hi;obtain⟨k,_,rfl⟩:=List.mem_map.1 hi;exact Nat.lt_of_lt_of_eq k.isLt (iZ T ws)
theorem mb{T:Int}{ws:List Int}:(db T ws).Nodup:=by
 unfold db;refine List.pairwise_map.2 (List.Pairwise.imp ?_ ((vC _).sublist (List.take_sublist _ _)));intro a b hab he;exact hab (Fin.ext he)
theorem o7{T:Int}{ws:List Int}(hS:0<ws.sum):(bA T ws).sum=T:=by
 rw[bA,uc _ _ (fun i hi=>by rw[kn];exact uF i hi),sG hS];unfold bV;omega
theorem BV(l:List Int):(l.map (-·)).sum = -l.sum:=by
 induction l with
 |nil=>simp
 |cons a r ih=>simp only[List.map_cons,List.sum_cons];rw[ih];omega
theorem vF{T:Int}{ws:List Int}(hS:0<ws.sum):(dh T ws).sum=T:=by
 unfold dh;split
 ·rw[BV,o7 hS];omega
 ·exact o7 hS
theorem wV{α:Type}(f:α→Int)(a b:List α):((a++b).map f).sum=(a.map f).sum+(b.map f).sum:=by simp
theorem za{α:Type}(f:α→Int){a b:List α}(h:a.Perm b):(a.map f).sum=(b.map f).sum:=by
 induction h with
 |nil=>rfl
 |cons x _ ih=>simp[ih]
 |swap x y l=>simp;omega
 |trans _ _ ih1 ih2=>exact ih1.trans ih2
theorem sH(r:List Int):((List.finRange r.length).map (fun i=>r[i])).sum=r.sum:=by
 congr 1
 apply List.ext_getElem
 ·simp
 ·intro i h1 h2;simp
theorem zb{α:Type}(f:α→Int)(l:List α)(h:∀x ∈ l,f x=0):(l.map f).sum=0:=by
 induction l with
 |nil=>rfl
 |cons a r ih=>simp only[List.map_cons,List.sum_cons];rw[h a (by simp),ih (fun x hx=>h x (by simp[hx]))];rfl
theorem rI{α:Type}{S:Int}(f:α→Int)(l:List α)(h:∀x ∈ l,0≤f x∧f x<S){i:α}(hi:i ∈ l)(h0:f i=0):(l.map f).sum≤(l.length-1)*(S-1):=by
 induction l with
 |nil=>simp at hi
 |cons a r ih =>
  have h1:=h a (by simp);have h2:=fun x hx=>h x (List.mem_cons_of_mem a hx)
  have hb:=oZ (S:=S) (r.map f) (fun x hx=>by obtain⟨y,hy,rfl⟩:=List.mem_map.1 hx;exact h2 y hy);rw[List.length_map]at hb;simp only[List.map_cons,List.sum_cons,List.length_cons];rcases List.mem_cons.1 hi with rfl|hi
  ·rw[h0];rw[Int.natCast_add,show((r.length:Int)+((1:Nat):Int)-1)=r.length by omega];omega
  ·have:=ih h2 hi;rw[Int.natCast_add,show((r.length:Int)+((1:Nat):Int)-1)=(r.length-1)+1 by omega,Int.add_mul];omega
theorem wW{T:Int}{ws:List Int}(hS:0<ws.sum){k:Nat}(hk:k ∈ db T ws)(hl:k<(cJ T ws).length):0<(cJ T ws)[k]:=by
 obtain⟨i,hi,rfl⟩:=List.mem_map.1 hk;have hr:=nJ (T:=T) hS;have hget:∀j:Fin (cJ T ws).length,0≤(cJ T ws)[j]∧(cJ T ws)[j]<ws.sum:=fun j=>hr _ (List.getElem_mem _)
 have hm:=gF (T:=T) hS;have hme:=uE (T:=T) (ws:=ws);have hord:=ub (cJ T ws);have hperm:=qM (cJ T ws);have hlen:=ordR_len (cJ T ws);rcases Int.lt_or_le 0 ((cJ T ws)[i.val]'hl) with h|h
 ·exact h
 ·exfalso
  have h0:(cJ T ws)[i]=0:=by have:=hget i;simp only[Fin.getElem_fin]at *;omega
  generalize hL:ordR (cJ T ws)=L at *;have hsp:L.take (bV T ws).toNat++L.drop (bV T ws).toNat=L:=List.take_append_drop _ _
  have hz:∀x ∈ L.drop (bV T ws).toNat,(cJ T ws)[x]=0:=by
   intro x hx;rw[←hsp,List.pairwise_append]at hord;have:=hord.2.2 i hi x hx;have:=hget x;omega
  have hs:((L.take (bV T ws).toNat).map (fun j=>(cJ T ws)[j])).sum=(cJ T ws).sum:=by
   have e1:=wV (fun j=>(cJ T ws)[j]) (L.take (bV T ws).toNat) (L.drop (bV T ws).toNat);rw[hsp,zb _ _ hz,za _ hperm,sH]at e1;omega
  have hb:=rI (S:=ws.sum) (fun j=>(cJ T ws)[j]) (L.take (bV T ws).toNat) (fun x _=>hget x) hi h0;rw[hs,←hme]at hb
  have hln:((L.take (bV T ws).toNat).length:Int)=bV T ws:=by
   rw[List.length_take,hlen,iZ];omega
  have hpos:0<bV T ws:=by
   rw[←hln];have:=List.length_pos_of_mem hi;omega
  rw[hln]at hb
  have e2:(bV T ws-1)*(ws.sum-1)=ws.sum*bV T ws-bV T ws-ws.sum+1:=by
   rw[Int.sub_mul,Int.mul_sub,Int.mul_comm (bV T ws) ws.sum];omega
  omega
theorem ud{T:Int}{ws:List Int}(hS:0<ws.sum)(k:Nat)(hk:k<ws.length)(hk2:k<(bA T ws).length) :
  -ws.sum<(bA T ws)[k]*ws.sum-T*ws[k]∧(bA T ws)[k]*ws.sum-T*ws[k]<ws.sum:=by
 have hp:k<(cu T ws).length:=by rw[kn];exact hk
 have hr:k<(cJ T ws).length:=by rw[iZ];exact hk
 have hg:=lk (cu T ws) (db T ws) mb k hp
 have e:(bA T ws)[k]=(cu T ws)[k]+if k ∈ db T ws then 1 else 0:=by
  have:(bA T ws)[k]? = some ((bA T ws)[k]):=List.getElem?_eq_getElem hk2;unfold bA at this hg ⊢
  rw[hg]at this;injection this with this;exact this.symm
 have ep:(cu T ws)[k]=T*ws[k] / ws.sum:=by simp[cu]
 have er:(cJ T ws)[k]=T*ws[k] % ws.sum:=by simp[cJ]
 have h1:=Int.mul_ediv_add_emod (T*ws[k]) ws.sum;have h2:=Int.emod_nonneg (T*ws[k]) (b:=ws.sum) (by omega);have h3:=Int.emod_lt_of_pos (T*ws[k]) hS;rw[e,ep,Int.add_mul,Int.mul_comm (T*ws[k] / ws.sum) ws.sum];by_cases h:k ∈ db T ws
 ·have h4:=wW hS h hr;rw[er]at h4;rw[if_pos h,Int.one_mul];omega
 ·rw[if_neg h,Int.zero_mul];omega
theorem rJ{T:Int}{ws:List Int}(hT:0≤T)(hw:∀x ∈ ws,0≤x)(hS:0<ws.sum):∀x ∈ bA T ws,0≤x:=by
 intro x hx;obtain⟨k,hk,rfl⟩:=List.mem_iff_getElem.1 hx;have hk':k<ws.length:=by rw[iz]at hk;exact hk
 have hp:k<(cu T ws).length:=by rw[kn];exact hk'
 have hg:=lk (cu T ws) (db T ws) mb k hp
 have e:(bA T ws)[k]=(cu T ws)[k]+if k ∈ db T ws then 1 else 0:=by
  have:(bA T ws)[k]? = some ((bA T ws)[k]):=List.getElem?_eq_getElem hk;unfold bA at this hg ⊢
  rw[hg]at this;injection this with this;exact this.symm
 have ep:(cu T ws)[k]=T*ws[k] / ws.sum:=by simp[cu]
 have:0≤T*ws[k] / ws.sum:=Int.ediv_nonneg (Int.mul_nonneg hT (hw _ (List.getElem_mem _))) (by omega);rw[e,ep];split <;> omega
end
section
open Go.RowKit
attribute [local go_sem] size_bs toList_bs
abbrev bc(f:FuncId)(args:Array Value)(v:Value):Prop:=∀W,Env W→Calls Tryz.prog f args W fun e w'=>e = .returned v∧Ext W w'
theorem fS(a b:Bs)(ha:a.length≤100000)(hb:b.length≤100000):bc 21 #[.string (bs a),.string (bs b)] (.string (bs (ofI (valI a+valI b)))):=fun W h=>intAddS a b W ha hb h
theorem gX(a b:Bs)(ha:a.length≤100000)(hb:b.length≤100000):bc 27 #[.string (bs a),.string (bs b)] (.string (bs (ofI (valI a-valI b)))):=fun W h=>intSub a b W ha hb h
theorem mc(a b:Bs)(ha:a.length≤100000)(hb:b.length≤100000):bc 160 #[.string (bs a),.string (bs b)] (.string (bs (ofI (valI a*valI b)))):=fun W h=>Dj a b W ha hb h
theorem vG(a:Bs)(ha:a.length≤100000):bc 222 #[.string (bs a)] (.string (bs (ofI (-(valI a))))):=fun W h=>Dp a W ha h
theorem cmpP(a b:Bs)(ha:a.length≤100000)(hb:b.length≤100000):bc 20 #[.string (bs a),.string (bs b)] (.int .i64 (cmpI (valI a) (valI b))):=fun W _=>Dr a b W ha hb
theorem fT:valI []=0:=by decide
theorem gk(a:Bs)(ha:a.length≤100000):bc 20 #[.string (bs a),.string ⟨#[]⟩] (.int .i64 (cmpI (valI a) 0)):=by
 have:=cmpP a [] ha (by simp);rw[fT]at this;exact this
theorem mJ(l:Bs):natOf (mag l)=(valI l).natAbs:=by unfold valI;split <;> omega
theorem mK(a b:Bs)(ha:a.length≤100000)(hb:b.length≤100000)(h:valI b≠0):bc 144 #[.string (bs a),.string (bs b)] (.tuple #[.string (bs (ofI (eS (valI a) (valI b)))),.string (bs (ofI (gD (valI a) (valI b)))),.int .i64 0]):=fun W hE=>ua a b W ha hb (by rw[mJ];omega) hE
theorem lI(a:Bs)(ha:a.length≤100000):bc 72 #[.string (bs a)] (.int .i64 (aq a)):=fun W _=>nU a W (by omega)
theorem gY{x y:Int}(h:0<y):eS x y=x / y:=by unfold eS;rw[if_neg (by omega)]
theorem ou{x y:Int}(h:0<y):gD x y=x % y:=by unfold gD;rw[gY h,Int.emod_def]
theorem dr{z:Int}:ofI z=[]↔z=0:=by
 constructor
 ·intro h;rw[←ag z,h,fT]
 ·rintro rfl;unfold ofI;simp[dig10_zero]
theorem BW{a b:Int}(h:ofI a=ofI b):a=b:=by rw[←ag a,h,ag]
theorem BX:ofI 1=[49]:=by decide +kernel
theorem i6:valI [49]=1:=by decide +kernel
theorem eE{l:Bs}:aq l=0↔ofI (valI l)=l:=by
 unfold aq;rw[qA];split
 ·simp[*]
 ·simp[*]
end
section
open Go.RowKit
attribute [local go_sem] size_bs toList_bs extract_bs get_bs append_bs lit_append append_lit
theorem i7(l:Bs)(w:World)(hs:l.length≤1000000000) :
  Calls Tryz.prog 87 #[.string (bs l)] w fun e w'=>e = .returned (.bool (ax l))∧Ext w w':=by
 by_cases h0:l.length=0
 ·obtain rfl:l=[]:=List.eq_nil_of_length_eq_zero h0;go_enter Tryz.func87,Tryz.ntmps87;go_wp2_with fail;go_ret;exact⟨rfl,Ext.refl _⟩
 have h0b:((l.length:Int) == 0)=false:=by rw[beq_eq_false_iff_ne];omega
 by_cases h1:16<l.length
 ·have h1b:decide (16<(l.length:Int))=true:=by simp;omega
  clear h0;go_enter Tryz.func87,Tryz.ntmps87;go_wp2_with fail;go_ret;exact⟨by simp[ax];omega,Ext.refl _⟩
 have h1b:decide (16<(l.length:Int))=false:=by simp;omega
 obtain⟨cap,w1,hrun,hx,hsz,hcell⟩:=vo (P:=Tryz.prog) w 9 191 5 l Tryz.underlying9 Tryz.underlying191 Tryz.underlying5;have HC:=qh hcell;have HN:Hid (1≤l.length):=qh (by omega);clear hcell hsz h0;go_enter Tryz.func87,Tryz.ntmps87;go_wp2_with fail;go_loop [16] (fun i=>∃k:Nat,k≤l.length∧i = .int .i64 k∧(l.take k).all ke=true) (fun i=>l.length-(intOf i).toNat)
 case atStart=>exact⟨0,Nat.zero_le _,rfl,rfl⟩
 case round =>
  obtain⟨k,hk,rfl,hd⟩:=hrel;have HD:=qh hd;clear hd hrun;by_cases hlt:k<l.length
  ·have hc:=HC.out k hlt;by_cases h95:((l[k]'hlt).toNat:Int)=95
   ·have h95a:((l[k]'hlt).toNat:Int)≤95:=by omega
    have h95c:95≤((l[k]'hlt).toNat:Int):=by omega
    have h95b:(((l[k]'hlt).toNat:Int) != 95)=false:=by rw[bne_eq_false_iff_eq];exact h95
    clear h95;go_wp2_with fail
    all_goals
     go_round
     case rel=>exact⟨k+1,by omega,by go_num,oS l k hlt HD.out (rV (by omega))⟩
     case measure=>simp[intOf];omega
   ·have h95b:(((l[k]'hlt).toNat:Int) != 95)=true:=by rw[bne_iff_ne];exact h95
    go_wp2_with fail
    all_goals first
     |(go_ret
       exact⟨by rw[ve l k hlt (BG (by omega))];rfl,hx⟩)
     |(go_round
       case rel=>exact⟨k+1,by omega,by go_num,oS l k hlt HD.out (rV (by omega))⟩
       case measure=>simp[intOf];omega)
  ·go_wp2_with fail;go_ret;exact⟨by rw[tQ l k hlt HD.out HN.out (by omega)];rfl,hx⟩
end
section
open Go.RowKit Go.Shelf
attribute [local go_sem] size_bs toList_bs
theorem wX(l:Bs):(Lib.cut l [47]).1=(bF l).1∧(Lib.cut l [47]).2.1=(bF l).2:=by
 unfold Lib.cut;rw[Lib.index_one]
 have key:∀l:Bs,(Lib.indexByte l 47 = -1∧bF l=(l,[]))∨∃k:Nat,Lib.indexByte l 47=(k:Int)∧bF l=(l.take k,l.drop (k+1)):=by
  intro l;induction l with
  |nil=>left;exact⟨rfl,rfl⟩
  |cons x r ih =>
   by_cases h:x=47
   ·right;refine⟨0,by simp[Lib.indexByte,h],by simp[bF,h]⟩
   ·rcases ih with ⟨h1,h2⟩ | ⟨k,h1,h2⟩
    ·left;exact⟨by simp[Lib.indexByte,h,h1],by simp[bF,h,h2]⟩
    ·right
     have:¬ ((k:Nat):Int) = -1:=by omega
     exact⟨k+1,by simp[Lib.indexByte,h,h1,this],by simp[bF,h,h2]⟩
 rcases key l with ⟨h1,h2⟩ | ⟨k,h1,h2⟩
 ·rw[h1,h2];exact⟨rfl,rfl⟩
 ·rw[h1,h2,if_pos (by omega),Int.toNat_natCast];exact⟨rfl,rfl⟩
theorem qN(l:Bs):(bF l).1.length≤l.length∧(bF l).2.length≤l.length:=by
 induction l with
 |nil=>exact⟨Nat.le_refl _,Nat.le_refl _⟩
 |cons x r ih =>
  unfold bF;split
  ·simp
  ·simp only[List.length_cons];omega
theorem sI(l:Bs)(w:World)(hl:l.length≤1000000)(hE:Env w) :
  Calls Tryz.prog 214 #[.string (bs l),.string { data:=#[47] }] w fun e w'=>(∃b,e = .returned (.tuple #[.string (bs (bF l).1),.string (bs (bF l).2),.bool b]))∧Ext w w':=by
 obtain⟨m,hm⟩:=hE.len;refine(Tryz.strings_Cut (bs l) (bs [47]) m w (by rw[size_bs];omega) hm).mono ?_;rintro e w'⟨rfl,n,rfl⟩;refine⟨⟨(Lib.cut l [47]).2.2,?_⟩,(Ext.refl w).drewN n⟩;have h:=wX l;rw[data_bs,data_bs,←h.1,←h.2];rfl
theorem qO(w:World)(t:TypeId)(b:ByteArray):Ext w (Lib.bytesWorld w t b) :=
 ⟨rfl,rfl,rfl,by rw[Lib.bytesWorld_size];omega,fun k hk=>Lib.bytesWorld_at_old w t b k hk⟩
theorem uG(t:Bs)(v:Int)(h:Lib.atoiAll t = .ok v)(ht:t.length≤1000000)(w:World) :
  Calls Tryz.prog 215 #[.string (bs t)] w fun e w'=>e = .returned (.tuple #[.int .i64 v,.nilIface])∧Ext w w':=by
 refine(Tryz.strconv_Atoi_ok (bs t) (by rw[size_bs];omega) v (by rw[data_bs];exact h) w).mono ?_;rintro e w'⟨rfl,rfl | ⟨q,rfl⟩⟩
 ·exact⟨rfl,Ext.refl _⟩
 ·exact⟨rfl,qO _ _ _⟩
theorem uH(t:Bs)(h:∀v,Lib.atoiAll t ≠ .ok v)(ht:t.length≤1000000)(w:World)(hE:Env w) :
  Calls Tryz.prog 215 #[.string (bs t)] w fun e w'=>(∃n p,e = .returned (.tuple #[.int .i64 n,.iface 275 p]))∧Ext w w':=by
 cases k:Lib.atoiAll t
 ·exact absurd k (h _)
 ·obtain⟨ev,hv,hev⟩:=hE.syn
  have hs:Calls Tryz.prog 215 #[.string (bs t)] w fun e w'=>∃N,e = .returned (.tuple #[.int .i64 0,.iface 275 (.pointer (some ⟨N,0,none⟩))])∧w.heap.size≤N∧w'.heap[N]? = some (.cells #[.string ⟨#[65,116,111,105]⟩,.string (bs t),ev] 305 (0,0))∧Below w.heap.size w w' :=
   Go.Proofs.Any.strconv_Atoi_syntax Tryz.laysC172 (bs t) (by rw[size_bs];omega) (by rw[data_bs];exact k) ev w hv hev
  refine hs.mono ?_;rintro e w'⟨N,rfl,_,_,hb⟩;exact⟨⟨_,_,rfl⟩,hb⟩
 ·obtain⟨ev,hv,hev⟩:=hE.rng;refine(Tryz.strconv_Atoi_range (bs t) (by rw[size_bs];omega) (by rw[data_bs];exact k) ev w hv hev).mono ?_;rintro e w'⟨N,rfl,_,_,hb⟩;exact⟨⟨_,_,rfl⟩,hb⟩
theorem BZ(l:Bs)(hl:l.length≤100000):bc 146 #[.string (bs l)] (.bool (eA l)):=by
 intro w hE;have HE:=qh hE;have hcl:=qN l;have HC:=qh (fun W h=>sI l W (by omega) h);have HN:=qh (fun W=>i7 (bF l).1 W (by omega));unfold eA;rcases Classical.em (∃v,Lib.atoiAll (bF l).2 = .ok v) with ⟨v,hk⟩|hk
 ·have HA:=qh (fun W=>uG (bF l).2 v hk (by omega) W);have HP:=qh (oT hk);rw[HP.out];generalize (bF l).1=nm at *;generalize (bF l).2=nu at *;generalize ax nm=ok at *;clear hk hcl hE HP;by_cases h1:1≤v
  ·by_cases h2:v≤9999
   ·have HI:=qh (fun W h=>nX v W (by omega) (by omega) h);generalize Lib.itoa v=it at *;have g1:decide (1≤v)=true:=by simpa using h1
    have g2:decide (v≤9999)=true:=by simpa using h2
    by_cases h3:it=nu
    ·have g3:(it == nu)=true:=by simpa using h3
     have H3:Hid (ok=(ok && (decide (1≤v) && decide (v≤9999) && (it == nu)))):=qh (by rw[g1,g2,g3];simp);rw[←H3.out];clear h3;go_enter Tryz.func146,Tryz.ntmps146;go_wp2_with fail;refine(HC.out _ HE.out).mono ?_;rintro e w1⟨⟨b,rfl⟩,hx1⟩;have HX:=qh hx1;clear hx1;go_wp2_with fail;refine(HA.out _).mono ?_;rintro e w2⟨rfl,hx1⟩;replace HX:=HX.qt hx1;clear hx1;go_wp2_with fail;refine(HI.out _ (HE.out.ext HX.out)).mono ?_;rintro e w3⟨rfl,hx1⟩;replace HX:=HX.qt hx1;clear hx1;go_wp2_with fail;refine(HN.out _).mono ?_;rintro e w4⟨rfl,hx1⟩;replace HX:=HX.qt hx1;clear hx1;go_wp2_with fail;go_ret;exact⟨rfl,HX.out⟩
    ·have g3:(it == nu)=false:=by simpa using h3
     have H3:Hid (false=(ok && (decide (1≤v) && decide (v≤9999) && (it == nu)))):=qh (by rw[g1,g2,g3];simp);rw[←H3.out];clear h3;go_enter Tryz.func146,Tryz.ntmps146;go_wp2_with fail;refine(HC.out _ HE.out).mono ?_;rintro e w1⟨⟨b,rfl⟩,hx1⟩;have HX:=qh hx1;clear hx1;go_wp2_with fail;refine(HA.out _).mono ?_;rintro e w2⟨rfl,hx1⟩;replace HX:=HX.qt hx1;clear hx1;go_wp2_with fail;refine(HI.out _ (HE.out.ext HX.out)).mono ?_;rintro e w3⟨rfl,hx1⟩;replace HX:=HX.qt hx1;clear hx1;go_wp2_with fail;go_ret;exact⟨rfl,HX.out⟩
   ·have g1:decide (1≤v)=true:=by simpa using h1
    have g2:decide (v≤9999)=false:=by simpa using h2
    generalize Lib.itoa v=it at *;have H3:Hid (false=(ok && (decide (1≤v) && decide (v≤9999) && (it == nu)))):=qh (by rw[g1,g2];simp);rw[←H3.out];go_enter Tryz.func146,Tryz.ntmps146;go_wp2_with fail;refine(HC.out _ HE.out).mono ?_;rintro e w1⟨⟨b,rfl⟩,hx1⟩;have HX:=qh hx1;clear hx1;go_wp2_with fail;refine(HA.out _).mono ?_;rintro e w2⟨rfl,hx1⟩;replace HX:=HX.qt hx1;clear hx1;go_wp2_with fail;go_ret;exact⟨rfl,HX.out⟩
  ·have g1:decide (1≤v)=false:=by simpa using h1
   generalize Lib.itoa v=it at *;have H3:Hid (false=(ok && (decide (1≤v) && decide (v≤9999) && (it == nu)))):=qh (by rw[g1];simp);rw[←H3.out];go_enter Tryz.func146,Tryz.ntmps146;go_wp2_with fail;refine(HC.out _ HE.out).mono ?_;rintro e w1⟨⟨b,rfl⟩,hx1⟩;have HX:=qh hx1;clear hx1;go_wp2_with fail;refine(HA.out _).mono ?_;rintro e w2⟨rfl,hx1⟩;replace HX:=HX.qt hx1;clear hx1;go_wp2_with fail;go_ret;exact⟨rfl,HX.out⟩
 ·have hk':∀v,Lib.atoiAll (bF l).2 ≠ .ok v:=fun v h=>hk ⟨v,h⟩
  have HA:=qh (fun W h=>uH (bF l).2 hk' (by omega) W h);rw[qF hk',Bool.and_false];generalize (bF l).1=nm at *;generalize (bF l).2=nu at *;clear hk hk' hcl hE HN;go_enter Tryz.func146,Tryz.ntmps146;go_wp2_with fail;refine(HC.out _ HE.out).mono ?_;rintro e w1⟨⟨b,rfl⟩,hx1⟩;have HX:=qh hx1;clear hx1;go_wp2_with fail;refine(HA.out _ (HE.out.ext HX.out)).mono ?_;rintro e w2⟨⟨n,p,rfl⟩,hx1⟩;replace HX:=HX.qt hx1;clear hx1;go_wp2_with fail;go_ret;exact⟨rfl,HX.out⟩
theorem sJ(d:Int)(w:World):Calls Tryz.prog 147 #[.int .i64 d] w fun e w'=>e = .returned (.bool (dg d))∧w=w':=by
 unfold dg;by_cases h : -25567≤d
 ·have g:decide (-25567≤d)=true:=by simpa using h
  rw[g,Bool.true_and];go_enter Tryz.func147,Tryz.ntmps147;go_wp2_with fail;go_ret;exact⟨rfl,rfl⟩
 ·have g:decide (-25567≤d)=false:=by simpa using h
  rw[g,Bool.false_and];go_enter Tryz.func147,Tryz.ntmps147;go_wp2_with fail;go_ret;exact⟨rfl,rfl⟩
end
section
open Go.RowKit Go.Shelf
attribute [local go_sem] size_bs toList_bs
abbrev lv(x:LotV):Value := .agg #[.string (bs x.id),.string (bs x.ins),.int .i64 x.acq,.int .i64 x.opn,.string (bs x.q),.string (bs x.c),.string (bs x.u)]
abbrev lc(x:LotV):Array Value:=#[.string (bs x.id),.string (bs x.ins),.int .i64 x.acq,.int .i64 x.opn,.string (bs x.q),.string (bs x.c),.string (bs x.u)]
theorem bK{w w':World}{g:Nat}{x:LotV}(h:Blk w g 71 (lc x))(hx:Ext w w'):w'.cell? ⟨g,0,none⟩=some (.string (bs x.id))∧w'.cell? ⟨g,1,none⟩=some (.string (bs x.ins))∧w'.cell? ⟨g,2,none⟩=some (.int .i64 x.acq)∧w'.cell? ⟨g,3,none⟩=some (.int .i64 x.opn)∧w'.cell? ⟨g,4,none⟩=some (.string (bs x.q))∧w'.cell? ⟨g,5,none⟩=some (.string (bs x.c))∧w'.cell? ⟨g,6,none⟩=some (.string (bs x.u)):=by
 have k:=h.ext hx;have h0:=k.cell 0;have h1:=k.cell 1;have h2:=k.cell 2;have h3:=k.cell 3;have h4:=k.cell 4;have h5:=k.cell 5;have h6:=k.cell 6;simp only[List.getElem?_toArray,List.getElem?_cons_zero,List.getElem?_cons_succ]at h0 h1 h2 h3 h4 h5 h6;exact⟨h0,h1,h2,h3,h4,h5,h6⟩
structure CkL (x:LotV) (r:Int):Prop where
 k1:eA x.id=false→r=23
 k2:eA x.id=true→ax x.ins=false→r=23
 k3:eA x.id=true→ax x.ins=true→dg x.acq=false→r=13
 k4:eA x.id=true→ax x.ins=true→dg x.acq=true→dg x.opn=false→r=13
 k5:eA x.id=true→ax x.ins=true→dg x.acq=true→dg x.opn=true→x.opn<x.acq→r=8
 k6:eA x.id=true→ax x.ins=true→dg x.acq=true→dg x.opn=true→¬ x.opn<x.acq→(aq x.q≠0∨aq x.c≠0∨aq x.u≠0)→r=1
 k7:eA x.id=true→ax x.ins=true→dg x.acq=true→dg x.opn=true→¬ x.opn<x.acq→¬ (aq x.q≠0∨aq x.c≠0∨aq x.u≠0)→(valI x.q≤0∨valI x.c<0∨(x.u≠[]∧x.u≠x.q))→r=2
 k8:eA x.id=true→ax x.ins=true→dg x.acq=true→dg x.opn=true→¬ x.opn<x.acq→¬ (aq x.q≠0∨aq x.c≠0∨aq x.u≠0)→¬ (valI x.q≤0∨valI x.c<0∨(x.u≠[]∧x.u≠x.q))→r=0
theorem II(x:LotV):CkL x (bU x):=by
 unfold bU;constructor
 ·intro h;simp[h]
 ·intro h1 h2;simp[h1,h2]
 ·intro h1 h2 h3;simp[h1,h2,h3]
 ·intro h1 h2 h3 h4;simp[h1,h2,h3,h4]
 ·intro h1 h2 h3 h4 h5;simp[h1,h2,h3,h4,h5]
 ·intro h1 h2 h3 h4 h5 h6;rw[if_neg (by simp[h1,h2]),if_neg (by simp[h3,h4]),if_neg h5,if_pos h6]
 ·intro h1 h2 h3 h4 h5 h6 h7;rw[if_neg (by simp[h1,h2]),if_neg (by simp[h3,h4]),if_neg h5,if_neg h6,if_pos h7]
 ·intro h1 h2 h3 h4 h5 h6 h7;rw[if_neg (by simp[h1,h2]),if_neg (by simp[h3,h4]),if_neg h5,if_neg h6,if_neg h7]
theorem Bg{w w':World}{g:Nat}{a b c:Value}(h:Blk w g 24 #[a,b,c])(hx:Ext w w'):w'.cell? ⟨g,0,none⟩=some a∧w'.cell? ⟨g,1,none⟩=some b∧w'.cell? ⟨g,2,none⟩=some c:=by
 have k:=h.ext hx;have h0:=k.cell 0;have h1:=k.cell 1;have h2:=k.cell 2;simp only[List.getElem?_toArray,List.getElem?_cons_zero,List.getElem?_cons_succ]at h0 h1 h2;exact⟨h0,h1,h2⟩
theorem sK(x:LotV)(hs:bv x):bc 84 #[lv x] (.int .i64 (bU x)):=by
 intro w hE;obtain⟨s1,s2,s3,s4,s5⟩:=hs;have HE:=qh hE;have HK:=qh (II x);generalize bU x=r at *;have H1:=qh (BZ x.id (by omega));have H2:=qh (fun W=>i7 x.ins W (by omega));have H3:=qh (lI x.q (by omega));have H4:=qh (lI x.c (by omega));have H5:=qh (lI x.u (by omega));have H6:=qh (gk x.q (by omega));have H7:=qh (gk x.c (by omega));clear hE s1 s2 s3 s4 s5;have HB:=qh (Blk.new w 71 (lc x));have HX:Hid (Ext w (w.alloc (.cells (lc x) 71))):=qh (Ext.new _ _);obtain⟨xi,xn,xa,xo,xq,xc,xu⟩:=x;simp only at *;go_enter Tryz.func84,Tryz.ntmps84;go_wp2_with fail;refine(H1.out _ (HE.out.ext HX.out)).mono ?_;rintro e w1⟨rfl,hx1⟩;obtain⟨p0,p1,p2,p3,p4,p5,p6⟩:=bK HB.out hx1;replace HB:=qh (HB.out.ext hx1);replace HX:=HX.qt hx1;clear hx1
 cases hb1:eA xi
 ·have HR:=qh (HK.out.k1 hb1);clear hb1 HK;go_wp2_with fail;go_ret;exact⟨by rw[HR.out];rfl,HX.out⟩
 ·have B1:=qh hb1;clear hb1;go_wp2_with fail;refine(H2.out _).mono ?_;rintro e w2⟨rfl,hx1⟩;obtain⟨p0,p1,p2,p3,p4,p5,p6⟩:=bK HB.out hx1;replace HB:=qh (HB.out.ext hx1);replace HX:=HX.qt hx1;clear hx1
  cases hb2:ax xn
  ·have HR:=qh (HK.out.k2 B1.out hb2);clear hb2 HK;go_wp2_with fail;go_ret;exact⟨by rw[HR.out];rfl,HX.out⟩
  ·have B2:=qh hb2;clear hb2;go_wp2_with fail;refine(sJ xa _).mono ?_;rintro e w3⟨rfl,rfl⟩
   cases hb3:dg xa
   ·have HR:=qh (HK.out.k3 B1.out B2.out hb3);clear hb3 HK;go_wp2_with fail;go_ret;exact⟨by rw[HR.out];rfl,HX.out⟩
   ·have B3:=qh hb3;clear hb3;go_wp2_with fail;refine(sJ xo _).mono ?_;rintro e w4⟨rfl,rfl⟩
    cases hb4:dg xo
    ·have HR:=qh (HK.out.k4 B1.out B2.out B3.out hb4);clear hb4 HK;go_wp2_with fail;go_ret;exact⟨by rw[HR.out];rfl,HX.out⟩
    ·have B4:=qh hb4;clear hb4;by_cases hb5:xo<xa
     ·have HR:=qh (HK.out.k5 B1.out B2.out B3.out B4.out hb5);have g5:decide (xo<xa)=true:=by simpa using hb5
      clear HK;go_wp2_with fail;go_ret;exact⟨by rw[HR.out];rfl,HX.out⟩
     ·have B5:=qh hb5;have g5:decide (xo<xa)=false:=by simpa using hb5
      have HS:=qh (Blk.new w2 24 #[.string (bs xq),.string (bs xc),.string (bs xu)]);go_wp2_with fail;have HXW:Hid (Ext w2 (w2.alloc (.cells #[.string (bs xq),.string (bs xc),.string (bs xu)] 24))):=qh (Ext.new _ _);replace HB:=qh (HB.out.ext HXW.out);replace HX:=qh (HX.out.trans HXW.out);clear HXW;generalize hgs:w2.heap.size=gs at *;generalize w2.alloc (.cells #[.string (bs xq),.string (bs xc),.string (bs xu)] 24)=W2 at *;clear hgs;obtain⟨s0,s1,s2⟩:=Bg HS.out (Ext.refl W2);refine wp_loop_rounds 4 ?_;rw[rounds_succ];go_wp2_with fail;refine(H3.out _ (HE.out.ext HX.out)).mono ?_;rintro e w5⟨rfl,hx1⟩;obtain⟨p0,p1,p2,p3,p4,p5,p6⟩:=bK HB.out hx1;replace HB:=qh (HB.out.ext hx1);obtain⟨s0,s1,s2⟩:=Bg HS.out hx1;replace HS:=qh (HS.out.ext hx1);replace HX:=HX.qt hx1;clear hx1;by_cases hq:aq xq=0
      ·rw[hq];have Q1:=qh hq;clear hq;go_wp2_with fail;rw[rounds_succ];go_wp2_with fail;refine(H4.out _ (HE.out.ext HX.out)).mono ?_;rintro e w6⟨rfl,hx1⟩;obtain⟨p0,p1,p2,p3,p4,p5,p6⟩:=bK HB.out hx1;replace HB:=qh (HB.out.ext hx1);obtain⟨s0,s1,s2⟩:=Bg HS.out hx1;replace HS:=qh (HS.out.ext hx1);replace HX:=HX.qt hx1;clear hx1;by_cases hc:aq xc=0
       ·rw[hc];have Q2:=qh hc;clear hc;go_wp2_with fail;rw[rounds_succ];go_wp2_with fail;refine(H5.out _ (HE.out.ext HX.out)).mono ?_;rintro e w7⟨rfl,hx1⟩;obtain⟨p0,p1,p2,p3,p4,p5,p6⟩:=bK HB.out hx1;replace HB:=qh (HB.out.ext hx1);obtain⟨s0,s1,s2⟩:=Bg HS.out hx1;replace HS:=qh (HS.out.ext hx1);replace HX:=HX.qt hx1;clear hx1;by_cases hu:aq xu=0
        ·rw[hu];have Q3:=qh hu;clear hu;go_wp2_with fail;rw[rounds_succ]
         have HQ:Hid (¬ (aq xq≠0∨aq xc≠0∨aq xu≠0)):=qh (by
          rintro(h|h|h)
          ·exact h Q1.out
          ·exact h Q2.out
          ·exact h Q3.out)
         have HK7:=qh (HK.out.k7 B1.out B2.out B3.out B4.out (Int.not_lt.2 B5.out) HQ.out);have HK8:=qh (HK.out.k8 B1.out B2.out B3.out B4.out (Int.not_lt.2 B5.out) HQ.out);clear HK hb5 g5 HQ;go_wp2_with fail;refine(H6.out _ (HE.out.ext HX.out)).mono ?_;rintro e w8⟨rfl,hx1⟩;obtain⟨p0,p1,p2,p3,p4,p5,p6⟩:=bK HB.out hx1;replace HB:=qh (HB.out.ext hx1);replace HX:=HX.qt hx1;clear hx1;by_cases hv:valI xq≤0
         ·have g7:decide (cmpI (valI xq) 0≤0)=true:=by
           rw[decide_eq_true_iff];have:=gW (x:=valI xq) (y:=0);omega
          have HR:=qh (HK7.out (.inl hv));generalize cmpI (valI xq) 0=cc at *;clear hv HK7 HK8;go_wp2_with fail;go_ret;exact⟨by rw[HR.out];rfl,HX.out⟩
         ·have g7:decide (cmpI (valI xq) 0≤0)=false:=by
           rw[decide_eq_false_iff_not];have:=gW (x:=valI xq) (y:=0);omega
          generalize cmpI (valI xq) 0=cc at *;have V1:=qh hv;clear hv;go_wp2_with fail;refine(H7.out _ (HE.out.ext HX.out)).mono ?_;rintro e w9⟨rfl,hx1⟩;obtain⟨p0,p1,p2,p3,p4,p5,p6⟩:=bK HB.out hx1;replace HB:=qh (HB.out.ext hx1);replace HX:=HX.qt hx1;clear hx1;by_cases hv2:valI xc<0
          ·have g8:decide (cmpI (valI xc) 0<0)=true:=by rw[decide_eq_true_iff,cC];exact hv2
           have HR:=qh (HK7.out (.inr (.inl hv2)));generalize cmpI (valI xc) 0=cd at *;clear hv2 HK7 HK8;go_wp2_with fail;go_ret;exact⟨by rw[HR.out];rfl,HX.out⟩
          ·have g8:decide (cmpI (valI xc) 0<0)=false:=by rw[decide_eq_false_iff_not,cC];exact hv2
           generalize cmpI (valI xc) 0=cd at *;have V2:=qh hv2;clear hv2;by_cases hu0:xu=[]
           ·have g9:(!xu.isEmpty)=false:=by rw[hu0];rfl
            have HR:=qh (HK8.out (by
             rintro(h|h|h)
             ·have:=V1.out;omega
             ·have:=V2.out;omega
             ·exact h.1 hu0))
            clear hu0 HK7 HK8;go_wp2_with fail;go_ret;exact⟨by rw[HR.out];rfl,HX.out⟩
           ·have g9:(!xu.isEmpty)=true:=by simpa using hu0
            by_cases hu1:xu=xq
            ·have g10:(xu != xq)=false:=by rw[bne_eq_false_iff_eq];exact hu1
             have g11:(xu == xq)=true:=by rw[beq_iff_eq];exact hu1
             have HR:=qh (HK8.out (by
              rintro(h|h|h)
              ·have:=V1.out;omega
              ·have:=V2.out;omega
              ·exact h.2 hu1))
             clear hu0 hu1 HK7 HK8;go_wp2_with fail;go_ret;exact⟨by rw[HR.out];rfl,HX.out⟩
            ·have g10:(xu != xq)=true:=by rw[bne_iff_ne];exact hu1
             have g11:(xu == xq)=false:=by rw[beq_eq_false_iff_ne];exact hu1
             have HR:=qh (HK7.out (.inr (.inr ⟨hu0,hu1⟩)));clear hu0 hu1 HK7 HK8;go_wp2_with fail;go_ret;exact⟨by rw[HR.out];rfl,HX.out⟩
        ·have HR:=qh (HK.out.k6 B1.out B2.out B3.out B4.out (Int.not_lt.2 B5.out) (.inr (.inr hu)));have g6:(aq xu != 0)=true:=by rw[bne_iff_ne];exact hu
         clear HK hu hb5;go_wp2_with fail;go_ret;exact⟨by rw[HR.out];rfl,HX.out⟩
       ·have HR:=qh (HK.out.k6 B1.out B2.out B3.out B4.out (Int.not_lt.2 B5.out) (.inr (.inl hc)));have g6:(aq xc != 0)=true:=by rw[bne_iff_ne];exact hc
        clear HK hc hb5;go_wp2_with fail;go_ret;exact⟨by rw[HR.out];rfl,HX.out⟩
      ·have HR:=qh (HK.out.k6 B1.out B2.out B3.out B4.out (Int.not_lt.2 B5.out) (.inl hq));have g6:(aq xq != 0)=true:=by rw[bne_iff_ne];exact hq
       clear HK hq hb5;go_wp2_with fail;go_ret;exact⟨by rw[HR.out];rfl,HX.out⟩
end
section
open Go.RowKit
def scells(ls:List Bs):List Value:=ls.map fun l => .string (bs l)
theorem lJ{α:Type}(f:α→List Value)(n:Nat)(hf:∀a,(f a).length=n):∀(l:List α) (k j:Nat) (h:k<l.length),j<n→(l.flatMap f)[k*n+j]? = (f (l[k]'h))[j]? := by
 intro l;induction l with
 |nil=>intro k j h;simp at h
 |cons a r ih =>
  intro k j h hj;rw[List.flatMap_cons]
  cases k with
  |zero=>rw[Nat.zero_mul,Nat.zero_add,List.getElem?_append_left (by rw[hf];exact hj)];rfl
  |succ k =>
   rw[List.getElem?_append_right (by rw[hf,Nat.succ_mul];omega),hf,show(k+1)*n+j-n=k*n+j by rw[Nat.succ_mul];omega];exact ih k j (by simpa using h) hj
theorem ox{α:Type}(f:α→List Value)(n:Nat)(hf:∀a,(f a).length=n):∀(l:List α),(l.flatMap f).length=l.length*n:=by
 intro l;induction l with
 |nil=>simp
 |cons a r ih=>rw[List.flatMap_cons,List.length_append,hf,ih,List.length_cons,Nat.succ_mul];omega
def RdS(w:World)(A:Option Addr)(ls:List Bs):Prop:=Reads w 1 A ls.length (scells ls)
theorem RdS.ext{w w':World}{A:Option Addr}{ls:List Bs}(h:RdS w A ls)(he:Ext w w'):RdS w' A ls:=Reads.ext h he
theorem RdS.at_{w:World}{A:Option Addr}{ls:List Bs}(h:RdS w A ls){k:Nat}(hk:k<ls.length) :
  ∃b o,A=some ⟨b,o,none⟩∧b<w.heap.size∧w.cell? ⟨b,o+k,none⟩=some (.string (bs (ls[k]'hk))):=by
 obtain⟨b,o,rfl,hb⟩:=Reads.at_ h (by omega);exact⟨b,o,rfl,hb,Reads.cell h (by simp[scells,hk])⟩
end
section
open Go Go.RowKit Go.Shelf
section
variable {F:Fence} {n m:Nat} {P:Program}
def mL(l:Nat)(rec:Loop)(R:Ending→World→Prop):Exit→Act→World→Prop
 |.normal,_,W=>W.heap[l]? = some (.loop { rec with state := .busy })∧R (.returned (.bool true)) (W.putObj l (.loop { rec with state := .ready,pending:=none }))
 |.ret,_,W=>W.heap[l]? = some (.loop { rec with state := .busy })∧R (.returned (.bool false)) (W.putObj l (.loop { rec with state := .done,pending:=some .ret }))
 |.exit _,_,_=>False
 |.goto _,_,_=>False
 |.panic _,_,_=>False
 |.outgrown,_,_=>False
theorem ue{l:Nat}{rec:Loop}{args:Array Value}{W:World}{R:Ending→World→Prop}(hl:W.heap[l]? = some (.loop rec))(hs:rec.state = .ready)(hps:args.size=rec.params.size)(hfn:F.fn rec.fn)
  (h:rec.assign.wpIn (F.inRound l) m P (Exit.then (fun a1 Wa=>Wa.heap[l]? = some (.loop rec)∧rec.body.wpIn (F.inRound l) m P (mL l rec R) a1 (Wa.putObj l (.loop { rec with state := .busy }))) (fun _ _ _=>False))
   { tmps:=(rec.params.zip args).foldl (fun tmps (t,a)=>tmps.setIfInBounds t a) rec.tmps,defers:=[] } W) :
  YieldAt F m P l args W R:=by
 refine⟨_,_,_,_,run_yield hl hps,roundIn_of_wpIn hfn (wpIn_mono h ?_)⟩;intro e a1 Wa hp
 cases e with
 |normal =>
  obtain⟨hla,hb⟩:=hp;refine⟨_,run_beginRound hla hs,wpIn_mono hb ?_⟩;intro e a2 W2 hq
  cases e with
  |normal =>
   obtain⟨h2,hR⟩:=hq;exact⟨_,_,run_endRound none h2,hR⟩
  |ret =>
   obtain⟨h2,hR⟩:=hq;exact⟨_,_,run_endRound (some .ret) h2,hR⟩
  |exit id=>exact hq.elim
  |goto t=>exact hq.elim
  |panic c=>exact hq.elim
  |outgrown=>exact hq.elim
 |ret=>exact hp.elim
 |exit id=>exact hp.elim
 |goto t=>exact hp.elim
 |panic c=>exact hp.elim
 |outgrown=>exact hp.elim
theorem eU{l:Nat}{rec:Loop}{args:Array Value}{W:World}{R:Ending→World→Prop}(hl:W.heap[l]? = some (.loop rec))(hs:rec.state = .ready)(hps:args.size=rec.params.size)(hfn:F.fn rec.fn)
  {assign body:Code} {tmps tmps0:Array Value} {ps:Array Tmp} (ha:rec.assign=assign) (hb:rec.body=body) (hp:rec.params=ps) (ht0:rec.tmps=tmps0) (ht:(ps.zip args).foldl (fun tmps (t,a)=>tmps.setIfInBounds t a) tmps0=tmps) {rb:Loop} (hrb:{ rec with state := .busy }=rb)
  (h:assign.wpIn (F.inRound l) m P (Exit.then (fun a1 Wa=>Wa.heap[l]? = some (.loop rec)∧body.wpIn (F.inRound l) m P (mL l rec R) a1 (Wa.putObj l (.loop rb))) (fun _ _ _=>False)) { tmps,defers:=[] } W) :
  YieldAt F m P l args W R:=by
 subst ha;subst hb;subst hp;subst ht0;subst ht;subst hrb;exact ue hl hs hps hfn h
def eF(fn:FuncId)(a:Act)(ps:Array Tmp)(assign body:Code)(D:Nat):Loop:={ state := .ready,pending:=none,fn,tmps:=a.tmps,params:=ps,assign,body,defers:=D }
theorem uf{g:Operand}{ps:Array Tmp}{assign body:Code}{Q:Exit→Act→World→Prop}{a:Act}{w:World}(hro:F.round=none)(h1:1≤n){gf:Nat}{lb:Array Value}
  (hg:a.eval g = .func (.func gf) #[] lb) (hFg:F.fn gf) (eg:∀args w,(callFunc gf args).run P w = .ok (.enter gf args) w)
  (h:∀fn,F.fn fn→CallsIn F (n-1) P gf (#[.func (.yield (w.heap.size+1)) #[] #[]]++lb) ((w.alloc (.deferred (some []))).alloc (.loop (eF fn a ps assign body w.heap.size)))
   (fun e W=>(∃v,e = .returned v) ∧
    ((W.heap[w.heap.size+1]? = some (.loop (eF fn a ps assign body w.heap.size))∧Q .normal { a with defers:={ target := .collected w.heap.size,args:=#[] } :: a.defers } (W.putObj (w.heap.size+1) (.loop { eF fn a ps assign body w.heap.size with state := .exhausted }))) ∨
     (W.heap[w.heap.size+1]? = some (.loop { eF fn a ps assign body w.heap.size with state := .done,pending:=some .ret })∧Code.ret.wpIn F n P Q { a with defers:={ target := .collected w.heap.size,args:=#[] } :: a.defers } (W.putObj (w.heap.size+1) (.loop { eF fn a ps assign body w.heap.size with state := .exhausted,pending:=some .ret })))))) :
  (Code.rangeFunc g ps assign body).wpIn F n P Q a w:=by
 refine wpIn_rangeFunc ?_;intro fn hfn;rw[hro];obtain⟨W1,hW1⟩:∃W1,(w.alloc (.deferred (some []))).alloc (.loop (eF fn a ps assign body w.heap.size))=W1:=⟨_,rfl⟩
 refine⟨w.heap.size+1,[{ target := .collected w.heap.size,args:=#[] }],W1,{ target := .fn (.func gf) lb,args:=#[.func (.yield (w.heap.size+1)) #[] #[]] },W1,gf,
  #[.func (.yield (w.heap.size+1)) #[] #[]]++lb,W1,?_,?_,?_,?_,fun _=>h1,?_⟩
 ·rw[←hW1];exact run_enterLoop_outer _ _ _ _ _
 ·simp only[resolve,hg];simp[go_sem]
 ·intro f' hf';simp[Target.leads]at hf';subst hf';exact hFg
 ·simp[invoke,go_sem,eg]
 ·rw[←hW1];refine(h fn hfn).mono ?_;rintro e W⟨⟨v,rfl⟩,(⟨hl,hq⟩ | ⟨hl,hq⟩)⟩
  ·exact⟨none,_,run_endLoop hl (by simp[eF]),hq⟩
  ·exact⟨some .ret,_,run_endLoop hl (by simp),hq⟩
theorem iA{g:Operand}{ps:Array Tmp}{assign body:Code}{Q:Exit→Act→World→Prop}{a:Act}{w:World}(hro:F.round=none)(h1:1≤n){gf:Nat}{lb:Array Value}(D:Nat)(hD:w.heap.size=D)
  (hg:a.eval g = .func (.func gf) #[] lb) (hFg:F.fn gf) (eg:∀args w,(callFunc gf args).run P w = .ok (.enter gf args) w)
  (h:∀fn rec W1,rec=eF fn a ps assign body D→W1=(w.alloc (.deferred (some []))).alloc (.loop rec)→F.fn fn→CallsIn F (n-1) P gf (#[.func (.yield (D+1)) #[] #[]]++lb) W1
   (fun e W=>(∃v,e = .returned v) ∧
    ((W.heap[D+1]? = some (.loop rec)∧Q .normal { a with defers:={ target := .collected D,args:=#[] } :: a.defers } (W.putObj (D+1) (.loop { rec with state := .exhausted }))) ∨
     (W.heap[D+1]? = some (.loop { rec with state := .done,pending:=some .ret })∧Code.ret.wpIn F n P Q { a with defers:={ target := .collected D,args:=#[] } :: a.defers } (W.putObj (D+1) (.loop { rec with state := .exhausted,pending:=some .ret })))))) :
  (Code.rangeFunc g ps assign body).wpIn F n P Q a w:=by
 subst hD;exact uf hro h1 hg hFg eg (fun fn hfn=>h fn _ _ rfl rfl hfn)
end
end
end Go.Proofs.YthgpheopnhajaaaGreatDoor
