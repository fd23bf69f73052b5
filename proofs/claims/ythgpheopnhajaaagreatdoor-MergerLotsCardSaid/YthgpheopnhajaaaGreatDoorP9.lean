/- The seat's texts, part P9. -/
import Derived.Test.YthgpheopnhajaaaGreatDoorP2
import Derived.Test.YthgpheopnhajaaaGreatDoorP8
import Derived.RangeFuncRecord
import Derived.WideMake
import Derived.RangeFuncStops
import Derived.Deep.RegionHeld3
import Derived.OrdersIn
set_option maxRecDepth 100000
set_option maxHeartbeats 8000000
namespace Go.Proofs.YthgpheopnhajaaaGreatDoor
section
open Go.RowKit
theorem Ext.putObj{a b:World}(h:Ext a b){r:Nat}(hr:a.heap.size≤r)(o:Obj):Ext a (b.putObj r o) :=
 ⟨h.os,h.tape,h.output,by have:=h.size;simpa using this,fun i hi=>(World.putObj_heap_other (by omega)).trans (h.block i hi)⟩
theorem Blk.put{w:World}{g:Nat}{t:TypeId}{cs:Array Value}{l:Nat}(h:Blk w g t cs)(o:Obj)(hne:g≠l):Blk (w.putObj l o) g t cs:=(World.putObj_heap_other (by omega)).trans h
theorem Blk.newAt(w:World)(t:TypeId)(cs:Array Value)(g:Nat)(hg:w.heap.size=g):Blk (w.alloc (.cells cs t)) g t cs:=by subst hg;exact Blk.new w t cs
theorem newAt(w:World)(o:Obj)(g:Nat)(hg:w.heap.size=g):(w.alloc o).heap[g]? = some o:=by subst hg;exact heap_alloc_new w o
theorem rL{w:World}{o o':Obj}{g:Nat}(h:w.heap[g]? = some o):(w.alloc o').heap[g]? = some o:=(Below.heap_alloc w o' g (Array.getElem?_eq_some_iff.1 h).1).trans h
theorem de{W:World}{d g i:Nat}{o:Obj}{u:Value}(h:W.heap[d]? = some o)(hne:d≠g):(W.setCell ⟨g,i,none⟩ u).heap[d]? = some o:=(Below.heap_setCell W ⟨g,i,none⟩ u d hne).trans h
theorem wY{W:World}{d:Nat}{o:Obj}(h:W.heap[d]? = some o):W.drew.heap[d]? = some o:=h
theorem dK{W W':World}{d:Nat}{o:Obj}(h:W.heap[d]? = some o)(hx:Ext W W'):W'.heap[d]? = some o:=(hx.block d (Array.getElem?_eq_some_iff.1 h).1).trans h
theorem me{W:World}{d l:Nat}{o o':Obj}(h:W.heap[d]? = some o)(hne:d≠l):(W.putObj l o').heap[d]? = some o:=(World.putObj_heap_other (by omega)).trans h
theorem sL(p:Tmp)(x:Value)(T:Array Value):((#[p]:Array Tmp).zip #[x]).foldl (fun tmps (t,a)=>tmps.setIfInBounds t a) T=T.setIfInBounds p x:=by simp[Array.zip]
theorem Ib(p q:Tmp)(x y:Value)(T:Array Value):((#[p,q]:Array Tmp).zip #[x,y]).foldl (fun tmps (t,a)=>tmps.setIfInBounds t a) T=(T.setIfInBounds p x).setIfInBounds q y:=by simp[Array.zip]
theorem Reads.put{w:World}{size n:Nat}{A:Option Addr}{xs:List Value}(h:Reads w size A n xs){l:Nat}{o:Obj}(hl:w.heap[l]? = some o)(ho:∀cs t z,o ≠ .cells cs t z)(h0:0<xs.length)(o':Obj):Reads (w.putObj l o') size A n xs:=by
 refine⟨h.1,fun hn=>?_⟩;obtain⟨b,off,rfl,hb,hc⟩:=h.2 hn
 have hne:b≠l:=by
  rintro rfl;have h1:=hc 0 (xs[0]'h0) (List.getElem?_eq_getElem h0);unfold World.cell? at h1;simp only[hl]at h1
  cases o <;> simp_all
 refine⟨b,off,rfl,by simpa using hb,fun j u hu=>?_⟩;rw[←hc j u hu];unfold World.cell?;rw[World.putObj_heap_other (by simpa using hne)]
end
section
open Go.RowKit Go.Shelf
attribute [local go_sem] size_bs toList_bs
theorem iB(x:LotV):(aU x).length=7:=rfl
def bp(w:World)(A:Option Addr)(ls:List LotV):Prop:=Reads w 7 A ls.length (ls.flatMap aU)
theorem bp.ext{w w':World}{A:Option Addr}{ls:List LotV}(h:bp w A ls)(he:Ext w w'):bp w' A ls:=Reads.ext h he
theorem bp.at_{w:World}{A:Option Addr}{ls:List LotV}(h:bp w A ls){k:Nat}(hk:k<ls.length) :
  ∃b o,A=some ⟨b,o,none⟩∧b<w.heap.size∧w.cell? ⟨b,o+k*7,none⟩=some (.string (bs (ls[k]'hk).id))∧w.cell? ⟨b,o+k*7+1,none⟩=some (.string (bs (ls[k]'hk).ins))∧w.cell? ⟨b,o+k*7+2,none⟩=some (.int .i64 (ls[k]'hk).acq)∧w.cell? ⟨b,o+k*7+3,none⟩=some (.int .i64 (ls[k]'hk).opn) ∧
    w.cell? ⟨b,o+k*7+4,none⟩=some (.string (bs (ls[k]'hk).q))∧w.cell? ⟨b,o+k*7+5,none⟩=some (.string (bs (ls[k]'hk).c))∧w.cell? ⟨b,o+k*7+6,none⟩=some (.string (bs (ls[k]'hk).u)):=by
 obtain⟨b,o,rfl,hb⟩:=Reads.at_ h (by omega)
 have key:∀j (_:j<7),w.cell? ⟨b,o+k*7+j,none⟩=(aU (ls[k]'hk))[j]? := fun j hj=>by
  have h1:=lJ aU 7 iB ls k j hk hj;have hl:j<(aU (ls[k]'hk)).length:=by rw[iB];exact hj
  rw[List.getElem?_eq_getElem hl]at h1 ⊢;have h2:=Reads.cell h h1;rw[←Nat.add_assoc]at h2;exact h2
 exact⟨b,o,rfl,hb,key 0 (by decide),key 1 (by decide),key 2 (by decide),key 3 (by decide),key 4 (by decide),key 5 (by decide),key 6 (by decide)⟩
section
variable {P:Program} {w:World}
theorem B6(mty kt et:TypeId)(r clock:Nat)(es:Array MapEntry)(s:ByteArray)(val:Value)(hm:P.underlying mty=some (.map kt et))(hk:P.underlying kt=some .string)(hb:w.heap[r]? = some (.map es clock))
  (hf:Instr.findNow .string (.string s) es.toList 0=some none) :
  (Instr.mapUpdate mty (.map (some r)) (.string s) val).run P w = .ok () (w.putObj r (.map (es.push { key := .string s,val:=val,born:=clock }) (clock+1))):=by
 have hc:(Instr.checkKey false 10000 kt (.string s)).run P w = .ok () w:=MapKept.run_checkKey (k := .string s) hk (by simp[MapKept.IsKey]) false 9999;simp[Instr.mapUpdate,run_underlying hm,MapKept.run_getObj_map hb,hc,MapKept.run_findKey hk hf,MapKept.run_setObj_map _ hb,Result.andThen,World.putObj]
theorem zc(mty kt et:TypeId)(r clock:Nat)(es:Array MapEntry)(s:ByteArray)(i:Nat)(val:Value)(hm:P.underlying mty=some (.map kt et))(hk:P.underlying kt=some .string)(hb:w.heap[r]? = some (.map es clock))
  (hf:Instr.findNow .string (.string s) es.toList 0=some (some (i,val))) :
  (Instr.lookup mty (.map (some r)) (.string s) false).run P w = .ok val w:=by
 have hc:(Instr.checkKey es.isEmpty 10000 kt (.string s)).run P w = .ok () w:=MapKept.run_checkKey (k := .string s) hk (by simp[MapKept.IsKey]) es.isEmpty 9999;simp[Instr.lookup,run_underlying hm,MapKept.run_getObj_map hb,hc,MapKept.run_findKey hk hf,Result.andThen]
theorem ug(mty kt et:TypeId)(r clock:Nat)(es:Array MapEntry)(s:ByteArray)(z:Value)(hm:P.underlying mty=some (.map kt et))(hk:P.underlying kt=some .string)(hb:w.heap[r]? = some (.map es clock))
  (hf:Instr.findNow .string (.string s) es.toList 0=some none) (hz:(zeroValue et).run P w = .ok z w) :
  (Instr.lookup mty (.map (some r)) (.string s) false).run P w = .ok z w:=by
 have hc:(Instr.checkKey es.isEmpty 10000 kt (.string s)).run P w = .ok () w:=MapKept.run_checkKey (k := .string s) hk (by simp[MapKept.IsKey]) es.isEmpty 9999;simp[Instr.lookup,run_underlying hm,MapKept.run_getObj_map hb,hc,MapKept.run_findKey hk hf,hz,Result.andThen]
end
def gl:List Bs→Nat→List MapEntry
 |[],_=>[]
 |s :: r,i=>{ key := .string (bs s),val := .bool true,born:=i } :: gl r (i+1)
theorem vH(l:List Bs)(s:Bs)(i:Nat):gl (l++[s]) i=gl l i++[{ key := .string (bs s),val := .bool true,born:=i+l.length }]:=by
 induction l generalizing i with
 |nil=>rfl
 |cons a r ih=>simp only[List.cons_append,gl,ih,List.length_cons];rw[show i+1+r.length=i+(r.length+1) by omega]
theorem sM(a b:Bs):((bs a:ByteArray) == bs b)=decide (a=b):=by
 rw[Bool.eq_iff_iff,MapKept.bytes_beq,decide_eq_true_iff];constructor
 ·intro h;have:=congrArg (fun b=>b.data.toList) h;simpa[bs] using this
 ·intro h;rw[h]
theorem uI(s:Bs):∀(l:List Bs) (i n:Nat),s ∈ l→∃k,Instr.findNow .string (.string (bs s)) (gl l i) n=some (some (k,.bool true))
 |[],_,_,h=>by simp at h
 |a :: r,i,n,h=>by
  by_cases e:s=a
  ·exact⟨n,by simp[gl,Instr.findNow,Instr.sameNow,sM,e]⟩
  ·obtain⟨k,hk⟩:=uI s r (i+1) (n+1) (by simpa[e] using h);exact⟨k,by simp[gl,Instr.findNow,Instr.sameNow,sM,e,hk]⟩
theorem sN(s:Bs):∀(l:List Bs) (i n:Nat),s ∉ l→Instr.findNow .string (.string (bs s)) (gl l i) n=some none
 |[],_,_,_=>rfl
 |a :: r,i,n,h=>by
  have e:s≠a:=by rintro rfl;simp at h
  have:=sN s r (i+1) (n+1) (by simp at h;exact h.2);simp[gl,Instr.findNow,Instr.sameNow,sM,e,this]
def Bh(W:World)(r:Nat)(ids:List Bs):Prop:=W.heap[r]? = some (.map (gl ids 0).toArray ids.length)
end
section
open Go.RowKit Go.Shelf
attribute [local go_sem] size_bs toList_bs Oper.semAt_some
theorem Bi(A:Option Addr)(n c:Nat)(ins:Bs)(w:World) :
  Calls Tryz.prog 81 #[.slice A n c,.string (bs ins)] w fun e w'=>e = .returned (.func (.func 141) #[] #[.pointer (some ⟨w.heap.size,0,none⟩),.pointer (some ⟨w.heap.size+1,0,none⟩)])∧w'=(w.alloc (.cells #[.slice A n c] 22)).alloc (.cells #[.string (bs ins)] 9):=by
 go_enter Tryz.func81,Tryz.ntmps81;go_wp2_with fail;go_ret;exact⟨rfl,rfl⟩
def lK(J:Nat→World→Prop)(k:Nat)(e:Ending)(W':World):Prop:=e = .returned (.bool true)∧J (k+1) W'
theorem wZ(n l B:Nat)(w:World)(ls:List LotV)(A:Option Addr)(c:Nat)(ins:Bs)(hA:bp w A ls)(hn:ls.length≤1000000)(J:Nat→World→Prop)
  (hJ:∀k W,J k W→Ext w W∧Blk W B 22 #[.slice A ls.length c]∧Blk W (B+1) 9 #[.string (bs ins)]) (hX:∀k W W',J k W→Ext W W'→J k W')
  (hY:∀k (hk:k<ls.length) W,(ls[k]'hk).ins=ins→J k W→YieldAt Fence.wide (n-1) Tryz.prog l #[lv (ls[k]'hk)] W (lK J k))
  (hS:∀k (hk:k<ls.length) W,(ls[k]'hk).ins≠ins→J k W→J (k+1) W) (W:World) (h0:J 0 W) :
  CallsIn Fence.wide n Tryz.prog 141 #[.func (.yield l) #[] #[],.pointer (some ⟨B,0,none⟩),.pointer (some ⟨B+1,0,none⟩)] W fun e W'=>(∃v,e = .returned v)∧J ls.length W':=by
 have hfn:∀k,Fence.wide.fn k:=fun _=>trivial
 have hdp:Fence.wide.depth.isSome=false:=rfl;have HA:=qh hA;have HJ:=qh hJ;have HX:=qh hX;have HY:=qh hY;have HS:=qh hS;have H0:=qh h0;clear hA hJ hX hY hS h0;obtain⟨e0,b0,b1⟩:=HJ.out 0 W H0.out;have q0:=b0.cell 0;simp only[List.getElem?_toArray,List.getElem?_cons_zero]at q0;clear e0 b0 b1;refine callsIn_of_wp Tryz.func141 rfl trivial ?_ rfl;simp only[Tryz.ntmps141,List.size_toArray,List.length_cons,List.length_nil,Nat.reduceAdd,Nat.reduceSub,Array.replicate_succ,Array.replicate_zero,List.push_toArray,List.append_toArray,List.nil_append,List.cons_append];gi_wp2
 gi_loopw [8,5] (fun i _ wr=>∃k:Nat,k≤ls.length∧i = .int .i64 k∧J k wr) (fun i _ _=>ls.length-(intOf i).toNat)
 case atStart=>exact⟨0,by omega,rfl,H0.out⟩
 case round =>
  clear H0 q0;obtain⟨k,hk,rfl,h⟩:=hrel;obtain⟨hx,b0,b1⟩:=HJ.out k wr h;by_cases hlt:k<ls.length
  ·obtain⟨b,o,rfl,hb,c0,c1,c2,c3,c4,c5,c6⟩:=(HA.out.ext hx).at_ hlt;have HN:=qh (HX.out k wr (wr.alloc (.cells (lc (ls[k]'hlt)) 71)) h (Ext.new _ _));have q1:=(b1.alloc (.cells (lc (ls[k]'hlt)) 71)).cell 0;have hlb:=b1.lt;simp only[List.getElem?_toArray,List.getElem?_cons_zero]at q1;by_cases hin:(ls[k]'hlt).ins=ins
   ·obtain⟨fn,tmps,assign,body,hy,hR⟩:=HY.out k hlt _ hin HN.out;have hbin:((ls[k]'hlt).ins == ins)=true:=by rw[beq_iff_eq];exact hin
    have HR:=qh hR;clear hR hin h hx b0 b1 HN;generalize ls[k]'hlt=x at *;obtain⟨xi,xn,xa,xo,xq,xc,xu⟩:=x;gi_wp2
    refine HR.out.mono ?_;rintro e W3⟨rfl,hJ3⟩;have HJ3:=qh hJ3;clear hJ3 hy HR;gi_wp2
    go_roundw
    case rel=>exact⟨k+1,by omega,by go_num,HJ3.out⟩
    case measure=>simp[intOf];omega
   ·have hbin:((ls[k]'hlt).ins == ins)=false:=by rw[beq_eq_false_iff_ne];exact hin
    have HJ3:=qh (HS.out k hlt _ hin HN.out);clear hin h hx b0 b1 HN;generalize ls[k]'hlt=x at *;obtain⟨xi,xn,xa,xo,xq,xc,xu⟩:=x;gi_wp2
    go_roundw
    case rel=>exact⟨k+1,by omega,by go_num,HJ3.out⟩
    case measure=>simp[intOf];omega
  ·obtain rfl:k=ls.length:=by omega
   have HH:=qh h;clear h b0 b1 hx;gi_wp2
   go_end0
   exact⟨⟨_,rfl⟩,HH.out⟩
end
section
open Go Go.RowKit
section
variable {P:Program} {Q:Exit→Act→World→Prop} {ops:Array Oper} {md:Region.Mode} {l n:Nat}
def i8:Op→Bool | .defer _=>false | _=>true
theorem ll{o:Oper}(h:i8 o.op=true)(ro:Option Nat)(ρ:Operand→Value):o.semAt ro ρ=execOp ρ o:=by
 unfold Oper.semAt
 cases ro with
 |none=>rfl
 |some l =>
  split
  ·rename_i c _ he;rw[he]at h;simp[i8]at h
  ·rfl
theorem B7{o:Oper}{a:Act}{K K':Act→World→Prop}(hK:∀a w,K a w→K' a w)(r:Result Next)(h:o.upon P a K Q r):o.uponIn (Fence.wide.inRound l) n P a K' Q r:=by
 cases r with
 |ok nx w' =>
  cases nx with
  |value v=>exact hK _ _ h
  |skip=>exact hK _ _ h
  |defer d=>exact hK _ _ h
  |enter f args =>
   refine⟨(fun h=>by cases h),CallsIn.inRound l (callsIn_wide.2 (Calls.mono h ?_))⟩;intro e w'' k
   cases e with
   |returned v=>exact hK _ _ k
   |panicked c=>exact k
   |outgrown=>exact k
  |row row args =>
   refine⟨(fun h=>by cases h),?_⟩;intro c cs _;obtain⟨v,w2,hv,hs⟩:=h c cs;exact⟨v,w2,hK _ _ hv,stepsIn_wide.2 hs⟩
  |_=>exact(h:False).elim
 |halt x w' =>
  cases x with
  |panic v=>exact h
  |_=>exact(h:False).elim
theorem E5{i:Nat}{a:Act}{w:World}{K K':Act→World→Prop}(hK:∀a w,K a w→K' a w)(hd:∀o ∈ ops,i8 o.op=true)(hlo:¬ LetsOut Q)(h:wpOp P ops Q i K a w):wpOpIn (Fence.wide.inRound l) n P ops Q i K' a w:=by
 unfold wpOp at h;unfold wpOpIn
 cases ho:ops[i]? with
 |none=>rw[ho]at h;exact hK _ _ h
 |some o =>
  rw[ho]at h;simp only at h ⊢;have hp:=hd o (Array.mem_of_getElem? ho);split at h
  ·rename_i hw
   rw[if_pos hw];rcases h with h|h
   ·refine⟨fun _ _=>trivial,?_⟩;rw[ll hp];exact B7 hK _ h
   ·exact absurd h.2 hlo
  ·rename_i hw
   rw[if_neg hw];exact⟨fun _ _=>trivial,hK _ _ h⟩
theorem xb(hd:∀o ∈ ops,i8 o.op=true)(hlo:¬ LetsOut Q):∀(fuel:Nat) (listed:Array Bool) (a:Act) (w:World),wpAny P md ops Q fuel listed a w→wpAnyIn (Fence.wide.inRound l) n P md ops Q fuel listed a w
 |0,_,_,_,h=>h
 |fuel+1,_,_,_,h=>⟨h.1,fun i hi=>E5 (fun a w k=>xb hd hlo fuel _ a w k) hd hlo (h.2 i hi)⟩
theorem qP{id:Nat}{S:World→Prop}{a:Act}{w:World}(hm:P.follows .mixedOrders=true)(hd:∀o ∈ ops,i8 o.op=true)(hlo:¬ LetsOut Q)(hS:S w.drew)
  (h:S w.drew→wpAnyH P .any ops Q S ops.size (Array.replicate ops.size false) a w.drew):(Code.region id ops true).wpIn (Fence.wide.inRound l) n P Q a w :=
 wpIn_region_any hm (xb hd hlo _ _ _ _ (wpAny_of_held _ _ _ _ (h hS)))
theorem pQ{l:Nat}{rec:Loop}{R:Ending→World→Prop}{k:Nat}:¬ LetsOut (Exit.inBlock k (mL l rec R)):=by
 rintro⟨a,w,h⟩;exact h
end
end
section
open Go.RowKit Go.Shelf
attribute [local go_sem] size_bs toList_bs Oper.semAt_some
theorem pR{α:Type}(f:α→Int)(M:Nat):∀(l:List α),(∀x ∈ l,(f x).natAbs≤M)→((l.map f).sum).natAbs≤l.length*M
 |[],_=>by simp
 |a :: r,h=>by
  have h1:=h a (by simp);have h2:=pR f M r (fun x hx=>h x (by simp[hx]));simp only[List.map_cons,List.sum_cons,List.length_cons];refine Nat.le_trans (Int.natAbs_add_le _ _) ?_;rw[Nat.succ_mul];omega
theorem oy(f:LotV→Bs)(L:Nat)(ls:List LotV)(hs:∀x ∈ ls,(f x).length≤L)(hn:ls.length≤100000):(ofI ((ls.map (fun x=>valI (f x))).sum)).length≤L+7:=by
 have h:=pR (fun x=>valI (f x)) (10 ^ L) ls (fun x hx=>Nat.le_of_lt (aF (hs x hx)));have h2:ls.length*10 ^ L≤10 ^ 5*10 ^ L:=Nat.mul_le_mul_right _ (by omega);have h4:10 ^ (L+6)=1000000*10 ^ L:=by rw[Nat.pow_add,Nat.mul_comm]
 have h5:0<10 ^ L:=Nat.pow_pos (by decide);exact bu (L:=L+6) (by omega)
theorem uJ(f:LotV→Bs)(ls:List LotV)(hs:∀x ∈ ls,(f x).length≤1000)(hn:ls.length≤100000):(ofI ((ls.map (fun x=>valI (f x))).sum)).length≤2000:=by
 have:=oy f 1000 ls hs hn;omega
theorem kq{ls:List LotV}{ins:Bs}{k:Nat}(hk:k<ls.length)(h:(ls[k]'hk).ins=ins):ap (ls.take (k+1)) ins=ap (ls.take k) ins++[ls[k]'hk]:=by
 unfold ap;rw[List.take_succ_eq_append_getElem hk,List.filter_append];simp[h]
theorem jG{ls:List LotV}{ins:Bs}{k:Nat}(hk:k<ls.length)(h:(ls[k]'hk).ins≠ins):ap (ls.take (k+1)) ins=ap (ls.take k) ins:=by
 unfold ap;rw[List.take_succ_eq_append_getElem hk,List.filter_append];simp[h]
theorem ze{ls:List LotV}{ins:Bs}{k:Nat}(hk:k<ls.length)(h:(ls[k]'hk).ins=ins):aJ (ls.take (k+1)) ins=aJ (ls.take k) ins+valI (ls[k]'hk).q:=by
 unfold aJ;rw[kq hk h];simp
theorem zf{ls:List LotV}{ins:Bs}{k:Nat}(hk:k<ls.length)(h:(ls[k]'hk).ins=ins):au (ls.take (k+1)) ins=au (ls.take k) ins+valI (ls[k]'hk).c:=by
 unfold au;rw[kq hk h];simp
theorem uK{ls:List LotV}{ins:Bs}{x:LotV}{k:Nat}(h:x ∈ ap (ls.take k) ins):x ∈ ls:=List.mem_of_mem_take (List.mem_filter.1 h).1
theorem pS{ls:List LotV}{ins:Bs}{k:Nat}:(ap (ls.take k) ins).length≤ls.length:=Nat.le_trans (List.length_filter_le _ _) (by rw[List.length_take];exact Nat.min_le_right _ _)
theorem oz{ls:List LotV}(ins:Bs)(k:Nat)(hs:∀x ∈ ls,bv x)(hn:ls.length≤100000):(ofI (aJ (ls.take k) ins)).length≤2000 :=
 uJ (·.q) _ (fun x hx=>(hs x (uK hx)).2.2.1) (Nat.le_trans pS hn)
theorem oA{ls:List LotV}(ins:Bs)(k:Nat)(hs:∀x ∈ ls,bv x)(hn:ls.length≤100000):(ofI (au (ls.take k) ins)).length≤2000 :=
 uJ (·.c) _ (fun x hx=>(hs x (uK hx)).2.2.2.1) (Nat.le_trans pS hn)
structure ToAt (w:World) (lp:Loop) (ls:List LotV) (A:Option Addr) (c:Nat) (ins:Bs) (k:Nat) (W:World):Prop where
 ext:Ext w W
 qq:Blk W w.heap.size 24 #[.string (bs (ofI (aJ (ls.take k) ins)))]
 cc:Blk W (w.heap.size+1) 24 #[.string (bs (ofI (au (ls.take k) ins)))]
 l:Blk W (w.heap.size+1+1) 22 #[.slice A ls.length c]
 i:Blk W (w.heap.size+1+1+1) 9 #[.string (bs ins)]
 D:W.heap[w.heap.size+1+1+1+1]? = some (.deferred (some []))
 L:W.heap[w.heap.size+1+1+1+1+1]? = some (.loop lp)
section
variable {w:World} {lp lp':Loop} {ls:List LotV} {A:Option Addr} {c:Nat} {ins:Bs} {k:Nat} {W W':World}
theorem ToAt.on(h:ToAt w lp ls A c ins k W)(hx:Ext W W'):ToAt w lp ls A c ins k W' :=
 ⟨h.ext.trans hx,h.qq.ext hx,h.cc.ext hx,h.l.ext hx,h.i.ext hx,dK h.D hx,dK h.L hx⟩
theorem ToAt.put(h:ToAt w lp ls A c ins k W):ToAt w lp' ls A c ins k (W.putObj (w.heap.size+1+1+1+1+1) (.loop lp')) :=
 ⟨h.ext.putObj (by omega) _,h.qq.put _ (by omega),h.cc.put _ (by omega),h.l.put _ (by omega),h.i.put _ (by omega),me h.D (by omega),World.putObj_heap_same (Array.getElem?_eq_some_iff.1 h.L).1⟩
theorem ToAt.skip(h:ToAt w lp ls A c ins k W)(hk:k<ls.length)(hne:(ls[k]'hk).ins≠ins):ToAt w lp ls A c ins (k+1) W :=
 ⟨h.ext,by unfold aJ;rw[jG hk hne];exact h.qq,by unfold au;rw[jG hk hne];exact h.cc,h.l,h.i,h.D,h.L⟩
theorem ToAt.hit(h:ToAt w lp ls A c ins k W)(hk:k<ls.length)(he:(ls[k]'hk).ins=ins) :
  ToAt w lp ls A c ins (k+1) ((W.setCell ⟨w.heap.size,0,none⟩ (.string (bs (ofI (aJ (ls.take k) ins+valI (ls[k]'hk).q))))).setCell ⟨w.heap.size+1,0,none⟩ (.string (bs (ofI (au (ls.take k) ins+valI (ls[k]'hk).c))))):=by
 refine⟨(h.ext.setCell (p:=⟨w.heap.size,0,none⟩) (Nat.le_refl _) _).setCell (p:=⟨w.heap.size+1,0,none⟩) (Nat.le_succ _) _,?_,?_,(h.l.far (p:=⟨w.heap.size,0,none⟩) (by dsimp only;omega) _).far (p:=⟨w.heap.size+1,0,none⟩) (by dsimp only;omega) _,(h.i.far (p:=⟨w.heap.size,0,none⟩) (by dsimp only;omega) _).far (p:=⟨w.heap.size+1,0,none⟩) (by dsimp only;omega) _,de (de h.D (by omega)) (by omega),de (de h.L (by omega)) (by omega)⟩
 ·rw[ze hk he];exact(h.qq.set_ 0 _).far (p:=⟨w.heap.size+1,0,none⟩) (by dsimp only;omega) _
 ·rw[zf hk he];exact(h.cc.far (p:=⟨w.heap.size,0,none⟩) (by dsimp only;omega) _).set_ 0 _
end
theorem ku(ls:List LotV)(A:Option Addr)(c:Nat)(ins:Bs)(w:World)(hE:Env w)(hA:bp w A ls)(hs:∀x ∈ ls,bv x)(hn:ls.length≤100000) :
  Calls Tryz.prog 23 #[.slice A ls.length c,.string (bs ins)] w fun e w'=>e = .returned (.tuple #[.string (bs (ofI (aJ ls ins))),.string (bs (ofI (au ls ins)))])∧Ext w w':=by
 have hfn:∀k,Fence.wide.fn k:=fun _=>trivial
 have hdp:Fence.wide.depth.isSome=false:=rfl;have HE:=qh hE;have HA:=qh hA;have HS:=qh hs;have HT:Hid (aJ (ls.take ls.length) ins=aJ ls ins∧au (ls.take ls.length) ins=au ls ins):=qh (by rw[List.take_length];exact⟨rfl,rfl⟩);have HT0:Hid (ofI (aJ (ls.take 0) ins)=[]∧ofI (au (ls.take 0) ins)=[]):=qh ⟨dr.2 rfl,dr.2 rfl⟩;have HAD:=qh (fun k (hk:k<ls.length)=>(⟨fS (ofI (aJ (ls.take k) ins)) (ls[k]'hk).q (by have:=oz ins k hs hn;omega) (by have:=(hs _ (List.getElem_mem hk)).2.2.1;omega),fS (ofI (au (ls.take k) ins)) (ls[k]'hk).c (by have:=oA ins k hs hn;omega) (by have:=(hs _ (List.getElem_mem hk)).2.2.2.1;omega)⟩:_∧_));simp only[ag]at HAD;clear hE hA hs;generalize aJ ls ins=TQ at *;generalize au ls ins=TC at *;refine(callsIn_wide (n:=5)).1 ?_;refine callsIn_of_wp_marks Tryz.func23 rfl trivial ?_ rfl;simp only[Tryz.ntmps23,List.size_toArray,List.length_cons,List.length_nil,Nat.reduceAdd,Nat.reduceSub,Array.replicate_succ,Array.replicate_zero,List.push_toArray,List.append_toArray,List.nil_append,List.cons_append];gi_wp2_with fail;refine(callsIn_wide.2 (Bi A _ c ins _)).mono ?_;rintro e w3⟨rfl,rfl⟩;gi_wp2_with fail;refine iA rfl (by omega) (w.heap.size+1+1+1+1) (by simp) rfl trivial (fun _ _=>by rfl) ?_;intro fn lp W1 hlp hW1 _
 have h0:ToAt w lp ls A c ins 0 W1:=by
  subst hW1;refine⟨(((((Ext.new w _).alloc _).alloc _).alloc _).alloc _).alloc _,?_,?_,?_,?_,?_,?_⟩
  ·rw[HT0.out.1];exact(((((Blk.newAt _ _ _ _ rfl).alloc _).alloc _).alloc _).alloc _).alloc _
  ·rw[HT0.out.2];exact((((Blk.newAt _ _ _ _ (by simp)).alloc _).alloc _).alloc _).alloc _
  ·exact(((Blk.newAt _ _ _ _ (by simp)).alloc _).alloc _).alloc _
  ·exact((Blk.newAt _ _ _ _ (by simp)).alloc _).alloc _
  ·exact rL (newAt _ _ _ (by simp))
  ·exact newAt _ _ _ (by simp)
 refine(wZ 4 (w.heap.size+1+1+1+1+1) (w.heap.size+1+1) w ls A c ins HA.out (by omega) (ToAt w lp ls A c ins) (fun k W h=>⟨h.ext,h.l,h.i⟩) (fun k W W' h hx=>h.on hx) ?hY (fun k hk W hne h=>h.skip hk hne) W1 h0).mono ?_
 case hY =>
  intro k hk W he h;have e1:=congrArg Loop.assign hlp;have e2:=congrArg Loop.body hlp;have e3:=congrArg Loop.tmps hlp;have e4:=congrArg Loop.params hlp;have e5:{ lp with state := .ready,pending:=none }=lp:=by rw[hlp];rfl
  obtain⟨lb,hlb⟩:∃lb,{ lp with state := .busy }=lb:=⟨_,rfl⟩;simp only[eF]at e1 e2 e3 e4;refine eU (rec:=lp) h.L (by rw[hlp];rfl) (by rw[hlp];rfl) trivial e1 e2 e4 e3 (sL _ _ _) hlb ?_;clear e1 e2 e3 e4 hlp hW1 h0;have HXN:Hid (Ext W (W.alloc (.cells (lc (ls[k]'hk)) 71))):=qh (Ext.new _ _);have HL0:=qh (h.on HXN.out).L;have HP:=qh ((h.on HXN.out).put (lp':=lb));have HBX:=qh ((Blk.new W 71 (lc (ls[k]'hk))).put (.loop lb) (l:=w.heap.size+1+1+1+1+1) (by have:=(Array.getElem?_eq_some_iff.1 h.L).1;omega));have HLB:=qh hlb;have HE5:=qh e5;have HHIT:=qh (fun W' (h:ToAt w lb ls A c ins k W')=>h.hit hk he);have HAK:=qh (HAD.out k hk);clear h hlb e5 he;generalize ls[k]'hk=x at *;gi_wp2
  refine⟨HL0.out,?_⟩;generalize hXX:W.heap.size=X at *;have hXw:w.heap.size+1<X:=by have:=(Array.getElem?_eq_some_iff.1 HL0.out).1;simp only[World.size_alloc]at this;omega
  clear hXX;generalize (W.alloc (.cells (lc x) 71)).putObj (w.heap.size+1+1+1+1+1) (.loop lb)=Wb at *;have HX:Hid (Ext Wb Wb):=qh (Ext.refl _);have q0:=HP.out.qq.cell 0;have q1:=HP.out.qq.frozen 0;have c0:=HP.out.cc.cell 0;have c1:=HP.out.cc.frozen 0;simp only[List.getElem?_toArray,List.getElem?_cons_zero]at q0 c0;obtain⟨_,_,_,_,x4,x5,_⟩:=bK HBX.out (Ext.refl Wb);obtain⟨tq,htq⟩:∃tq,aJ (ls.take k) ins=tq:=⟨_,rfl⟩;obtain⟨tc,htc⟩:∃tc,au (ls.take k) ins=tc:=⟨_,rfl⟩;rw[htq]at q0 HHIT HAK;rw[htc]at c0 HHIT HAK;have HTQ:=qh htq;have HTC:=qh htc;clear htq htc;replace HX:Hid (Ext Wb Wb.drew):=qh HX.out.drew;gi_wp2
  refine qP (S:=fun w'=>w'.cell? ⟨X,4,none⟩=some (.string (bs x.q))∧w'.cell? ⟨X,5,none⟩=some (.string (bs x.c))) (by kernel_rfl) (by simp[i8]) pQ ⟨x4,x5⟩ ?_;intro hHeld;have a4:Wb.drew.cell? ⟨X,4,none⟩=some (.string (bs x.q)):=x4;have a5:Wb.drew.cell? ⟨X,5,none⟩=some (.string (bs x.c)):=x5;have hxg:X≠w.heap.size:=by omega
  have hxg2:X≠w.heap.size+1:=by omega
  have hgx:w.heap.size≠X:=by omega
  have hgx2:w.heap.size+1≠X:=by omega
  refine tk 1 (.pointer (some ⟨X,4,none⟩)) rfl (by kernel_rfl) (fun _ _ _ h=>h) (Or.inl ⟨by rfl,?_⟩) (by assumption) ?_
  ·intro w hSw;(try dsimp only at hSw)
   go_simp
  simp only[Act.put,List.setIfInBounds_toArray];refine tk 2 (.string (bs x.q)) rfl (by kernel_rfl) (fun _ _ _ h=>h) (Or.inl ⟨by rfl,?_⟩) (by assumption) ?_
  ·intro w hSw;(try dsimp only at hSw)
   go_simp
  simp only[Act.put];refine tk 5 (.pointer (some ⟨X,5,none⟩)) rfl (by kernel_rfl) (fun _ _ _ h=>h) (Or.inl ⟨by rfl,?_⟩) (by assumption) ?_
  ·intro w hSw;(try dsimp only at hSw)
   go_simp
  simp only[Act.put];refine tk 6 (.string (bs x.c)) rfl (by kernel_rfl) (fun _ _ _ h=>h) (Or.inl ⟨by rfl,?_⟩) (by assumption) ?_
  ·intro w hSw;(try dsimp only at hSw)
   go_simp
  simp only[Act.put];refine wpAnyH_ready (rs:=[0,4]) (by kernel_rfl) (by simp) ?_;refine AllReadyH.cons rfl (fun K hK=>?_) (AllReadyH.cons rfl (fun K hK=>?_) (AllReadyH.nil))
  ·go_simp;refine hK.out _ _ ⟨a4,a5⟩ (fun hHeld=>?_);clear hK K;(try simp only[p4])
   refine wpAnyH_ready (rs:=[3,4]) (by kernel_rfl) (by simp) ?_;refine AllReadyH.cons rfl (fun K hK=>?_) (AllReadyH.cons rfl (fun K hK=>?_) (AllReadyH.nil))
   ·go_simp;refine(HAK.out.1 _ (HE.out.ext (HP.out.ext.trans HX.out))).mono ?_;rintro e w3⟨rfl,hx⟩;replace HX:=HX.qt hx;have hq:=HP.out.on HX.out;have a0:=hq.qq.cell 0;have a1:=hq.cc.cell 0;have a2:=hq.qq.frozen 0;have a3:=hq.cc.frozen 0;simp only[List.getElem?_toArray,List.getElem?_cons_zero]at a0 a1;rw[HTQ.out]at a0;rw[HTC.out]at a1;obtain⟨_,_,_,_,a4,a5,_⟩:=bK HBX.out HX.out;clear hx hq;refine hK.out _ _ ⟨a4,a5⟩ (fun hHeld=>?_);clear hK K;(try simp only[p4])
    refine wpAnyH_ready (rs:=[4]) (by kernel_rfl) (by simp) ?_;refine AllReadyH.cons rfl (fun K hK=>?_) (AllReadyH.nil);go_simp;refine hK.out _ _ ⟨a4,a5⟩ (fun hHeld=>?_);clear hK K;(try simp only[p4])
    refine wpAnyH_ready (rs:=[7]) (by kernel_rfl) (by simp) ?_;refine AllReadyH.cons rfl (fun K hK=>?_) (AllReadyH.nil);go_simp;refine(HAK.out.2 _ (HE.out.ext (HP.out.ext.trans HX.out))).mono ?_;rintro e w7⟨rfl,hx⟩;replace HX:=HX.qt hx;have hq:=HP.out.on HX.out;have a0:=hq.qq.cell 0;have a1:=hq.cc.cell 0;have a2:=hq.qq.frozen 0;have a3:=hq.cc.frozen 0;simp only[List.getElem?_toArray,List.getElem?_cons_zero]at a0 a1;rw[HTQ.out]at a0;rw[HTC.out]at a1;obtain⟨_,_,_,_,a4,a5,_⟩:=bK HBX.out HX.out;clear hx hq;refine hK.out _ _ ⟨a4,a5⟩ (fun hHeld=>?_);clear hK K;(try simp only[p4])
    refine wpAnyH_ready (rs:=[8]) (by kernel_rfl) (by simp) ?_;refine AllReadyH.cons rfl (fun K hK=>?_) (AllReadyH.nil);go_simp;refine hK.out _ _ ⟨?_,?_⟩ (fun hHeld=>?_)
    ·go_simp
    ·go_simp
    clear hK K;(try simp only[p4])
    refine wpAnyH_ready (rs:=[9]) (by kernel_rfl) (by simp) ?_;refine AllReadyH.cons rfl (fun K hK=>?_) (AllReadyH.nil);go_simp;refine hK.out _ _ ⟨?_,?_⟩ (fun hHeld=>?_)
    ·go_simp
    ·go_simp
    clear hK K;refine wpAnyH_done (by kernel_rfl) ?_ _;have hT:=HHIT.out _ (HP.out.on HX.out);refine⟨by rw[HLB.out];exact hT.L,rfl,?_⟩;rw[HE5.out];exact hT.put
   ·go_simp;refine hK.out _ _ ⟨a4,a5⟩ (fun hHeld=>?_);clear hK K;(try simp only[p4])
    refine wpAnyH_ready (rs:=[3]) (by kernel_rfl) (by simp) ?_;refine AllReadyH.cons rfl (fun K hK=>?_) (AllReadyH.nil);go_simp;refine(HAK.out.1 _ (HE.out.ext (HP.out.ext.trans HX.out))).mono ?_;rintro e w3⟨rfl,hx⟩;replace HX:=HX.qt hx;have hq:=HP.out.on HX.out;have a0:=hq.qq.cell 0;have a1:=hq.cc.cell 0;have a2:=hq.qq.frozen 0;have a3:=hq.cc.frozen 0;simp only[List.getElem?_toArray,List.getElem?_cons_zero]at a0 a1;rw[HTQ.out]at a0;rw[HTC.out]at a1;obtain⟨_,_,_,_,a4,a5,_⟩:=bK HBX.out HX.out;clear hx hq;refine hK.out _ _ ⟨a4,a5⟩ (fun hHeld=>?_);clear hK K;(try simp only[p4])
    refine wpAnyH_ready (rs:=[7]) (by kernel_rfl) (by simp) ?_;refine AllReadyH.cons rfl (fun K hK=>?_) (AllReadyH.nil);go_simp;refine(HAK.out.2 _ (HE.out.ext (HP.out.ext.trans HX.out))).mono ?_;rintro e w7⟨rfl,hx⟩;replace HX:=HX.qt hx;have hq:=HP.out.on HX.out;have a0:=hq.qq.cell 0;have a1:=hq.cc.cell 0;have a2:=hq.qq.frozen 0;have a3:=hq.cc.frozen 0;simp only[List.getElem?_toArray,List.getElem?_cons_zero]at a0 a1;rw[HTQ.out]at a0;rw[HTC.out]at a1;obtain⟨_,_,_,_,a4,a5,_⟩:=bK HBX.out HX.out;clear hx hq;refine hK.out _ _ ⟨a4,a5⟩ (fun hHeld=>?_);clear hK K;(try simp only[p4])
    refine wpAnyH_ready (rs:=[8]) (by kernel_rfl) (by simp) ?_;refine AllReadyH.cons rfl (fun K hK=>?_) (AllReadyH.nil);go_simp;refine hK.out _ _ ⟨?_,?_⟩ (fun hHeld=>?_)
    ·go_simp
    ·go_simp
    clear hK K;(try simp only[p4])
    refine wpAnyH_ready (rs:=[9]) (by kernel_rfl) (by simp) ?_;refine AllReadyH.cons rfl (fun K hK=>?_) (AllReadyH.nil);go_simp;refine hK.out _ _ ⟨?_,?_⟩ (fun hHeld=>?_)
    ·go_simp
    ·go_simp
    clear hK K;refine wpAnyH_done (by kernel_rfl) ?_ _;have hT:=HHIT.out _ (HP.out.on HX.out);refine⟨by rw[HLB.out];exact hT.L,rfl,?_⟩;rw[HE5.out];exact hT.put
  ·go_simp;refine hK.out _ _ ⟨a4,a5⟩ (fun hHeld=>?_);clear hK K;(try simp only[p4])
   refine wpAnyH_ready (rs:=[0]) (by kernel_rfl) (by simp) ?_;refine AllReadyH.cons rfl (fun K hK=>?_) (AllReadyH.nil);go_simp;refine hK.out _ _ ⟨a4,a5⟩ (fun hHeld=>?_);clear hK K;(try simp only[p4])
   refine wpAnyH_ready (rs:=[3]) (by kernel_rfl) (by simp) ?_;refine AllReadyH.cons rfl (fun K hK=>?_) (AllReadyH.nil);go_simp;refine(HAK.out.1 _ (HE.out.ext (HP.out.ext.trans HX.out))).mono ?_;rintro e w3⟨rfl,hx⟩;replace HX:=HX.qt hx;have hq:=HP.out.on HX.out;have a0:=hq.qq.cell 0;have a1:=hq.cc.cell 0;have a2:=hq.qq.frozen 0;have a3:=hq.cc.frozen 0;simp only[List.getElem?_toArray,List.getElem?_cons_zero]at a0 a1;rw[HTQ.out]at a0;rw[HTC.out]at a1;obtain⟨_,_,_,_,a4,a5,_⟩:=bK HBX.out HX.out;clear hx hq;refine hK.out _ _ ⟨a4,a5⟩ (fun hHeld=>?_);clear hK K;(try simp only[p4])
   refine wpAnyH_ready (rs:=[7]) (by kernel_rfl) (by simp) ?_;refine AllReadyH.cons rfl (fun K hK=>?_) (AllReadyH.nil);go_simp;refine(HAK.out.2 _ (HE.out.ext (HP.out.ext.trans HX.out))).mono ?_;rintro e w7⟨rfl,hx⟩;replace HX:=HX.qt hx;have hq:=HP.out.on HX.out;have a0:=hq.qq.cell 0;have a1:=hq.cc.cell 0;have a2:=hq.qq.frozen 0;have a3:=hq.cc.frozen 0;simp only[List.getElem?_toArray,List.getElem?_cons_zero]at a0 a1;rw[HTQ.out]at a0;rw[HTC.out]at a1;obtain⟨_,_,_,_,a4,a5,_⟩:=bK HBX.out HX.out;clear hx hq;refine hK.out _ _ ⟨a4,a5⟩ (fun hHeld=>?_);clear hK K;(try simp only[p4])
   refine wpAnyH_ready (rs:=[8]) (by kernel_rfl) (by simp) ?_;refine AllReadyH.cons rfl (fun K hK=>?_) (AllReadyH.nil);go_simp;refine hK.out _ _ ⟨?_,?_⟩ (fun hHeld=>?_)
   ·go_simp
   ·go_simp
   clear hK K;(try simp only[p4])
   refine wpAnyH_ready (rs:=[9]) (by kernel_rfl) (by simp) ?_;refine AllReadyH.cons rfl (fun K hK=>?_) (AllReadyH.nil);go_simp;refine hK.out _ _ ⟨?_,?_⟩ (fun hHeld=>?_)
   ·go_simp
   ·go_simp
   clear hK K;refine wpAnyH_done (by kernel_rfl) ?_ _;have hT:=HHIT.out _ (HP.out.on HX.out);refine⟨by rw[HLB.out];exact hT.L,rfl,?_⟩;rw[HE5.out];exact hT.put
 rintro e W⟨hv,h⟩;refine⟨hv,.inl ⟨h.L,?_⟩⟩;have hP:=h.put (lp':={ lp with state := .exhausted });generalize W.putObj (w.heap.size+1+1+1+1+1) (.loop { lp with state := .exhausted })=W3 at *;clear h hv hW1 hlp W1 h0;have q0:=hP.qq.cell 0;have c0:=hP.cc.cell 0;simp only[List.getElem?_toArray,List.getElem?_cons_zero]at q0 c0;rw[HT.out.1]at q0;rw[HT.out.2]at c0;have HP:=qh hP;clear hP;gi_wp2
 refine wpIn_wide.2 ?_;go_region_held3 (fun w'=>w'.cell? ⟨w.heap.size,0,none⟩=some (.string (bs (ofI TQ)))∧w'.cell? ⟨w.heap.size+1,0,none⟩=some (.string (bs (ofI TC)))) (go_keep) (fail)
 all_goals
  gi_wp2
  refine⟨by simp,.inl ⟨_,_,rfl,run_takeDeferred (wY HP.out.D),?_⟩⟩;refine⟨.tuple #[.string (bs (ofI TQ)),.string (bs (ofI TC))],by simp[results,Tryz.results23,go_sem],?_⟩;exact⟨rfl,HP.out.ext.drew.putObj (by omega) _⟩
end
section
open Go.RowKit Go.Shelf
attribute [local go_sem] size_bs toList_bs
def Ic(w:World)(ls:List LotV)(k:Nat)(wr:World):Prop:=Ext w wr∧Bh wr w.heap.size ((ls.take k).map (·.id))∧dP [] ls=dP ((ls.take k).map (·.id)) (ls.drop k)
theorem vI{seen:List Bs}{x:LotV}{r:List LotV}:(bU x≠0→dP seen (x :: r)=bU x)∧(bU x=0→x.id ∈ seen→dP seen (x :: r)=5)∧(bU x=0→x.id ∉ seen→dP seen (x :: r)=dP (seen++[x.id]) r):=by
 refine⟨fun h=>?_,fun h h2=>?_,fun h h2=>?_⟩
 ·rw[dP,if_pos h]
 ·rw[dP,if_neg (by simpa using h),if_pos h2]
 ·rw[dP,if_neg (by simpa using h),if_neg h2]
theorem zg{ls:List LotV}{k:Nat}(h:k<ls.length):(ls.take (k+1)).map (·.id)=(ls.take k).map (·.id)++[(ls[k]'h).id]:=by
 rw[List.take_succ_eq_append_getElem h,List.map_append];rfl
theorem d5(ls:List LotV)(A:Option Addr)(c:Nat)(w:World)(hE:Env w)(hA:bp w A ls)(hs:∀x ∈ ls,bv x)(hn:ls.length≤100000) :
  Calls Tryz.prog 31 #[.slice A ls.length c] w fun e w'=>e = .returned (.int .i64 (aw ls))∧Ext w w':=by
 have HE:=qh hE;have HA:=qh hA;have HS:=qh hs;clear hE hA hs;by_cases hbig:1000<ls.length
 ·have HR:Hid (aw ls=4):=qh (by unfold aw;rw[if_pos hbig]);rw[HR.out];have g:decide (1000<(ls.length:Int))=true:=by rw[decide_eq_true_iff];omega
  go_enter Tryz.func31,Tryz.ntmps31;go_wp2_with fail;go_ret;exact⟨rfl,Ext.refl _⟩
 ·have HR:Hid (aw ls=dP [] ls):=qh (by unfold aw;rw[if_neg hbig]);rw[HR.out];have g:decide (1000<(ls.length:Int))=false:=by rw[decide_eq_false_iff_not];omega
  have hmm:=@run_makeMap Tryz.prog;obtain⟨R,hR⟩:∃R,dP [] ls=R:=⟨_,rfl⟩;have HRR:=qh hR;rw[hR];clear hR HR;go_enter Tryz.func31,Tryz.ntmps31;go_wp2_with fail;go_loopw [13,5,6] (fun i _ _ wr=>∃k:Nat,k≤ls.length∧i = .int .i64 k∧Ic w ls k wr) (fun i _ _ _=>ls.length-(intOf i).toNat)
  case atStart=>exact⟨0,by omega,rfl,Ext.new _ _,heap_alloc_new w _,by simp⟩
  case round =>
   obtain⟨k,hk,rfl,hx,hids,hgo⟩:=hrel;clear hmm;by_cases hlt:k<ls.length
   ·have HX:=qh hx;have HI:=qh hids;have hst:=vI (seen:=(ls.take k).map (·.id)) (x:=ls[k]'hlt) (r:=ls.drop (k+1));rw[←List.drop_eq_getElem_cons hlt,←hgo,HRR.out]at hst;have HST:=qh hst;have HTI:=qh (zg hlt);have HSM:=qh (HS.out (ls[k]'hlt) (List.getElem_mem _));obtain⟨b,o,rfl,hb,c0,c1,c2,c3,c4,c5,c6⟩:=(HA.out.ext hx).at_ hlt;have hwr:=hx.size;have hne:w.heap.size<wr.heap.size:=(Array.getElem?_eq_some_iff.1 hids).1;generalize hids2:(ls.take k).map (·.id)=ids at *;generalize hxx:ls[k]'hlt=x at *;clear hx hids hgo hst hids2 hxx;have HCK:=qh (sK x HSM.out);have HB:=qh (Blk.new wr 71 (lc x));have HXN:Hid (Ext wr (wr.alloc (.cells (lc x) 71))):=qh (Ext.new _ _);go_wp2_with fail;refine(HCK.out _ (HE.out.ext (HX.out.trans HXN.out))).mono ?_;rintro e w1⟨rfl,hx1⟩;obtain⟨p0,p1,p2,p3,p4,p5,p6⟩:=bK HB.out hx1;replace HX:=qh ((HX.out.trans HXN.out).trans hx1);have hi1:=dK HI.out (HXN.out.trans hx1);have HI1:=qh hi1;clear hx1 HI HXN;by_cases hck:bU x=0
    ·rw[hck];have HK0:=qh hck;clear hck;by_cases hin:x.id ∈ ids
     ·obtain⟨j,hj⟩:=uI x.id ids 0 0 hin;have hlook:=zc (P:=Tryz.prog) (w:=w1) 135 9 4 w.heap.size _ (gl ids 0).toArray (bs x.id) j (.bool true) Tryz.underlying135 Tryz.underlying9 HI1.out (by simpa using hj);have HF:=qh (HST.out.2.1 HK0.out hin);clear hin hj hi1;go_wp2_with fail;go_ret;exact⟨by rw[HF.out];rfl,HX.out⟩
     ·have hj:=sN x.id ids 0 0 hin;have hlook:=ug (P:=Tryz.prog) (w:=w1) 135 9 4 w.heap.size _ (gl ids 0).toArray (bs x.id) (.bool false) Tryz.underlying135 Tryz.underlying9 HI1.out (by simpa using hj) (Tryz.zeroValue4 w1);have hins:=B6 (P:=Tryz.prog) (w:=w1) 135 9 4 w.heap.size _ (gl ids 0).toArray (bs x.id) (.bool true) Tryz.underlying135 Tryz.underlying9 HI1.out (by simpa using hj);have HF:=qh (HST.out.2.2 HK0.out hin);clear hin hj hi1;go_wp2_with fail;go_roundw
      case rel =>
       refine⟨k+1,by omega,by go_num,HX.out.putObj (Nat.le_refl _) _,?_,?_⟩
       ·unfold Bh;rw[World.putObj_heap_same (Array.getElem?_eq_some_iff.1 HI1.out).1];rw[HTI.out,vH];simp
       ·rw[HTI.out,HRR.out];exact HF.out
      case measure=>simp[intOf];omega
    ·have g2:(bU x != 0)=true:=by rw[bne_iff_ne];exact hck
     have HF:=qh (HST.out.1 hck);clear hck hi1;go_wp2_with fail;go_ret;exact⟨by rw[HF.out];rfl,HX.out⟩
   ·have HF:Hid (R=0):=qh (by rw[←HRR.out,hgo,List.drop_eq_nil_of_le (by omega)];rfl);have HX:=qh hx;clear hgo hids hx;go_wp2_with fail;go_ret;exact⟨by rw[HF.out];rfl,HX.out⟩
end
end Go.Proofs.YthgpheopnhajaaaGreatDoor
