/- The seat's texts, part P14. -/
import Derived.Test.YthgpheopnhajaaaGreatDoorP9
import Derived.Test.YthgpheopnhajaaaGreatDoorP12
import Derived.Test.YthgpheopnhajaaaGreatDoorP13
import Derived.Deep.RegionLaw
import Derived.Deep.AppendLies
import Derived.Shelf.Spec.SlicesInsertGrow
import Derived.IntWalk
import Derived.OwnWalkIn
import Derived.BigQuiet
set_option maxRecDepth 100000
set_option maxHeartbeats 8000000
namespace Go.Proofs.YthgpheopnhajaaaGreatDoor
section
open Go.RowKit Go.Lib
attribute [local go_sem] size_bs toList_bs
def sV(g n:Nat)(xs:List Value)(w:World)(e:Ending)(w':World):Prop :=
 ∃g' cap cur,e = .returned (.slice (some ⟨g',0,none⟩) (n+1) cap)∧(g'=g∨w.heap.size≤g')∧Row w' g' 71 7 (n+1) cap xs cur∧Only g w w'
theorem sW(g cap n i vb:Nat)(xs cur vs:List Value)(w:World)(hr:Row w g 71 7 n cap xs cur)(h1:∀u ∈ xs,u.oneCell'=true)(hvb:Blk w vb 71 vs.toArray)(hne:vb≠g)(hv:vs.length=7)(h1v:∀u ∈ vs,u.oneCell'=true)(hi:i<n)(hroom:n+1≤cap)(hcap:cap≤9223372036854775807) :
  Calls Tryz.prog 113 #[.slice (some ⟨g,0,none⟩) n cap,.int .i64 i,.slice (some ⟨vb,0,none⟩) 1 1] w (sV g n (xs.take (i*7)++vs++xs.drop (i*7)) w):=by
 have hsz:(Tryz.prog.info? 71).map (·.size)=some 7:=by
  obtain⟨i0,hI,_,hz1,_⟩:=info_parts fF;rw[hI];simp[hz1]
 have hov:∀lb cb,(callFunc 177 #[.slice (some ⟨vb,0,none⟩) 1 1,.slice (some ⟨g,(i+1)*7,none⟩) lb cb]).run Tryz.prog w = .ok (.value (.bool false)) w:=fun lb cb=>by
  rw[run_callFunc_extern Tryz.func177 (by kernel_rfl) (by kernel_rfl) (by kernel_rfl) (e:=Extern.SlicesOverlaps.overlaps #[22,22] #[4]) (by kernel_rfl),
   Lib.run_overlaps_apart w 22 4 71 Tryz.underlying22 7 Tryz.sizeOf71 ⟨vb,0,none⟩ ⟨g,(i+1)*7,none⟩ 1 1 lb cb hne 71 71 vs.toArray.size cur.toArray.size hvb.shape hr.blk.shape (by simp only[List.size_toArray,hr.full];omega) (hvb.frozen 0) (hvb.frozen _)]
  rfl
 have hdl:(xs.drop (i*7)).length=(n-i)*7:=by rw[List.length_drop,hr.len,←Nat.sub_mul]
 have hcp1:∀ty dc sc,(Builtin.copy_ #[22,22] ty #[.slice (some ⟨g,(i+1)*7,none⟩) (n-i) dc,.slice (some ⟨g,i*7,none⟩) (n+1-i) sc]).run Tryz.prog w.drew = .ok (goInt (n-i:Nat)) (w.drew.setCells g ((i+1)*7) (xs.drop (i*7))):=fun ty dc sc =>
  gh w.drew _ _ ty 71 7 g ((i+1)*7) (n-i) dc ⟨g,i*7,none⟩ (n+1-i) sc (xs.drop (i*7)) Tryz.underlying22 hsz (n-i) (by simp only[Nat.min_def];split <;> omega) hdl
   (fun j v hj=>by rw[Addr.add_lit];exact hr.drew.cell (by rwa[List.getElem?_drop]at hj))
   (fun j hj=>hr.drew.isSome_ (by omega)) (fun j _=>hr.drew.frozen _) (fun v hv=>h1 v (List.mem_of_mem_drop hv))
 have hfull:=hr.full;have hrl:=hr.len
 have hW1:Row (w.drew.setCells g ((i+1)*7) (xs.drop (i*7))) g 71 7 0 cap [] (aW cur ((i+1)*7) (xs.drop (i*7))) :=
  hr.drew.put _ _ (by rw[hdl];omega) (by omega) (by simp) (by simp)
 have hvb1:Blk (w.drew.setCells g ((i+1)*7) (xs.drop (i*7))) vb 71 vs.toArray:=hvb.drew.sets_far hne _ _
 have hcp2:∀ty dc,(Builtin.copy_ #[22,22] ty #[.slice (some ⟨g,i*7,none⟩) (n+1-i) dc,.slice (some ⟨vb,0,none⟩) 1 1]).run Tryz.prog (w.drew.setCells g ((i+1)*7) (xs.drop (i*7))) = .ok (goInt (1:Nat)) ((w.drew.setCells g ((i+1)*7) (xs.drop (i*7))).setCells g (i*7) vs):=fun ty dc =>
  gh _ _ _ ty 71 7 g (i*7) (n+1-i) dc ⟨vb,0,none⟩ 1 1 vs Tryz.underlying22 hsz 1 (by simp only[Nat.min_def];split <;> omega) (by omega)
   (fun j v hj=>by rw[Addr.add_lit,hvb1.cell,List.getElem?_toArray,Nat.zero_add];exact hj)
   (fun j hj=>hW1.isSome_ (by rw[hv]at hj;omega)) (fun j _=>hW1.frozen _) h1v
 have HW2:=qh (hW1.put vs (i*7) (by rw[hv];omega) (n':=n+1) (xs':=xs.take (i*7)++vs++xs.drop (i*7)) hroom (by rw[List.length_append,List.length_append,hdl,List.length_take,hrl,hv];omega) (vu cur xs vs 7 i n hr.take hr.len (by omega) hv (by rw[hfull];exact Nat.mul_le_mul_right _ hroom)));have HON:Hid (Only g w ((w.drew.setCells g ((i+1)*7) (xs.drop (i*7))).setCells g (i*7) vs)):=qh (Only.sets _ _ _ _ (Only.sets _ _ _ _ (Only.of_ext (Ext.refl w).drew)));clear hW1 hvb1 hr h1 hvb h1v hdl hfull hrl hsz;have hw1:IntKind.i64.wrap ((i:Int)+1)=(i:Int)+1:=IntWalk.i64_in _ (by omega);have hb1:(0:Int)≤(i:Int)+1:=by omega
 have hin:i≤n:=by omega
 have htn:((i:Int)+1).toNat=i+1:=by omega
 have hb2:¬ (cap=i+1):=by omega
 have hb3:(i:Int)≤(n:Int)+1:=by omega
 have hb5:(i:Int)+1≤(n:Int)+1:=by omega
 have hb4:¬ (cap=i):=by omega
 have hz2:((i:Int) == (n:Int))=false:=by rw[beq_eq_false_iff_ne];omega
 have hz3:¬ ((cap:Int)<(n:Int)+1):=by omega
 go_enter Tryz.func113,Tryz.ntmps113;go_wp2_with (simp only[hov]);go_region_law ((refine step_copy_runI (by rfl) (.tmp 73) (.tmp 76) 22 22 (by rfl) (.slice (some ⟨g,(i+1)*7,none⟩) (n-i) (cap-(i+1))) (.slice (some ⟨g,i*7,none⟩) (n+1-i) (cap-i)) (by simp[Act.eval,Act.put]) (by simp[Act.eval,Act.put]) (hcp1 _ _ _) ?_))
 go_wp2_with (with_reducible refine wpList_copy_runI _ (by rfl) (.tmp 80) (.tmp 81) 22 22 (by rfl) (.slice (some ⟨g,i*7,none⟩) (n+1-i) (cap-i)) (.slice (some ⟨vb,0,none⟩) 1 1) (by rfl) (by rfl) (hcp2 _ _) ?_);go_ret;exact⟨g,cap,_,rfl,.inl rfl,HW2.out,HON.out⟩
theorem ul(g n i vb:Nat)(xs cur vs:List Value)(w:World)(hr:Row w g 71 7 n n xs cur)(h1:∀u ∈ xs,u.oneCell'=true)(hvb:Blk w vb 71 vs.toArray)(hv:vs.length=7)(h1v:∀u ∈ vs,u.oneCell'=true)(hi:i<n)(hn:n≤1000000) :
  Calls Tryz.prog 113 #[.slice (some ⟨g,0,none⟩) n n,.int .i64 i,.slice (some ⟨vb,0,none⟩) 1 1] w (sV g n (xs.take (i*7)++vs++xs.drop (i*7)) w):=by
 obtain⟨i0,hI,hz0,hz1,hz2⟩:=info_parts fF;have hsz:(Tryz.prog.info? 71).map (·.size)=some 7:=by rw[hI];simp[hz1]
 have hkk:(n:Int)+1-(i:Int)=((n+1-i:Nat):Int):=by omega
 have hik:i+(n+1-i)=n+1:=by omega
 have hold:(Builtin.firstCells i0.size i (.slice (some ⟨g,0,none⟩) i n)).run Tryz.prog w.drew = .ok (xs.take (i*7)).toArray w.drew:=by
  rw[hz1]
  exact run_firstCells_some w.drew 7 i ⟨g,0,none⟩ i n (xs.take (i*7)) (by rw[List.length_take,hr.len];omega) (fun j v hj=>by
   rw[Addr.add_lit,Nat.zero_add];rw[List.getElem?_take]at hj;split at hj
   ·exact hr.drew.cell hj
   ·cases hj)
 have hrz:∀ty,(Builtin.append_ #[22,3] ty #[.slice (some ⟨g,0,none⟩) i n,.int .i64 ((n:Int)+1-(i:Int))]).run Tryz.prog w =
   .ok (.slice (some ⟨w.heap.size,0,none⟩) (n+1) (grownCap w (n+1) n 71)) (w.drew.alloc (.cells ((xs.take (i*7)).toArray++Builtin.zeroCells (Value.agg #[.string ⟨#[]⟩,.string ⟨#[]⟩,.int .i64 0,.int .i64 0,.string ⟨#[]⟩,.string ⟨#[]⟩,.string ⟨#[]⟩]).cells (n+1-i)++Builtin.zeroCells (Value.agg #[.string ⟨#[]⟩,.string ⟨#[]⟩,.int .i64 0,.int .i64 0,.string ⟨#[]⟩,.string ⟨#[]⟩,.string ⟨#[]⟩]).cells (grownCap w (n+1) n 71-(n+1))) 71)):=fun ty=>by
  have h:=Lib.run_append_grow_zeros w 22 3 ty 71 i0 _ .i64 .i64 Tryz.underlying22 Tryz.underlying3 hI hz0 (some ⟨g,0,none⟩) i n (xs.take (i*7)) hold (n+1-i) (by omega) (by omega) (by omega) (by omega) (by rw[hz2];omega) (by rw[hz2,hik];exact growslice_fits (by omega) (by omega));rw[hik]at h;rw[hkk];exact h
 obtain⟨G,hG⟩:∃G,G=grownCap w (n+1) n 71:=⟨_,rfl⟩;have hGn:n+1≤G:=by rw[hG];exact grownCap_ge w _ _ _
 have hG63:G≤maxLen:=by rw[hG];exact grownCap_le_maxLen w (n+1) n _ (by unfold maxLen;omega)
 obtain⟨ROW,hROW⟩:∃ROW:Array Value,ROW=(xs.take (i*7)).toArray++Builtin.zeroCells (Value.agg #[.string ⟨#[]⟩,.string ⟨#[]⟩,.int .i64 0,.int .i64 0,.string ⟨#[]⟩,.string ⟨#[]⟩,.string ⟨#[]⟩]).cells (n+1-i)++Builtin.zeroCells (Value.agg #[.string ⟨#[]⟩,.string ⟨#[]⟩,.int .i64 0,.int .i64 0,.string ⟨#[]⟩,.string ⟨#[]⟩,.string ⟨#[]⟩]).cells (G-(n+1)):=⟨_,rfl⟩;rw[←hG,←hROW]at hrz
 have hRl:ROW.toList.length=G*7:=by
  rw[hROW];simp[Builtin.zeroCells,Value.cells,hr.len];omega
 have hRt:ROW.toList.take (i*7)=xs.take (i*7):=by
  rw[hROW];simp only[Array.toList_append,List.append_assoc];rw[List.take_left' (by rw[List.length_take,hr.len];omega)]
 have hgw:=hr.blk.lt;have hvw:=hvb.lt
 have hA:Row ((w.alloc (.cells ROW 71)).drew) w.heap.size 71 7 0 G [] ROW.toList :=
  ⟨by rw[Array.toArray_toList];exact(Blk.new w _ _).drew,rfl,Nat.zero_le _,hG63,hRl,by simp⟩
 have hdl:(xs.drop (i*7)).length=(n-i)*7:=by rw[List.length_drop,hr.len,←Nat.sub_mul]
 have hvb1:Blk ((w.alloc (.cells ROW 71)).drew) vb 71 vs.toArray:=(hvb.alloc _).drew;have hr1:Row ((w.alloc (.cells ROW 71)).drew) g 71 7 n n xs cur:=(hr.ext (Ext.new _ _)).drew
 have hcpA:∀ty dc,(Builtin.copy_ #[22,22] ty #[.slice (some ⟨w.heap.size,i*7,none⟩) (n+1-i) dc,.slice (some ⟨vb,0,none⟩) 1 1]).run Tryz.prog ((w.alloc (.cells ROW 71)).drew) = .ok (goInt (1:Nat)) (((w.alloc (.cells ROW 71)).drew).setCells w.heap.size (i*7) vs):=fun ty dc =>
  gh _ _ _ ty 71 7 w.heap.size (i*7) (n+1-i) dc ⟨vb,0,none⟩ 1 1 vs Tryz.underlying22 hsz 1 (by simp only[Nat.min_def];split <;> omega) (by omega)
   (fun j v hj=>by rw[Addr.add_lit,hvb1.cell,List.getElem?_toArray,Nat.zero_add];exact hj)
   (fun j hj=>hA.isSome_ (by rw[hv]at hj;omega)) (fun j _=>hA.frozen _) h1v
 have hB:=hA.put vs (i*7) (by rw[hv];omega) (n':=0) (xs':=[]) (Nat.zero_le _) rfl (by simp);have hr2:Row (((w.alloc (.cells ROW 71)).drew).setCells w.heap.size (i*7) vs) g 71 7 n n xs cur:={ hr1 with blk:=hr1.blk.sets_far (by omega) _ _ }
 have hcpB:∀ty dc sc,(Builtin.copy_ #[22,22] ty #[.slice (some ⟨w.heap.size,(i+1)*7,none⟩) (n-i) dc,.slice (some ⟨g,i*7,none⟩) (n-i) sc]).run Tryz.prog ((((w.alloc (.cells ROW 71)).drew).setCells w.heap.size (i*7) vs).drew) = .ok (goInt (n-i:Nat)) ((((w.alloc (.cells ROW 71)).drew).setCells w.heap.size (i*7) vs).drew.setCells w.heap.size ((i+1)*7) (xs.drop (i*7))):=fun ty dc sc =>
  gh _ _ _ ty 71 7 w.heap.size ((i+1)*7) (n-i) dc ⟨g,i*7,none⟩ (n-i) sc (xs.drop (i*7)) Tryz.underlying22 hsz (n-i) (Nat.min_self _) hdl
   (fun j v hj=>by rw[Addr.add_lit];exact hr2.drew.cell (by rwa[List.getElem?_drop]at hj))
   (fun j hj=>hB.drew.isSome_ (by omega)) (fun j _=>hB.drew.frozen _) (fun v hv=>h1 v (List.mem_of_mem_drop hv))
 have HW2:=qh (hB.drew.put (xs.drop (i*7)) ((i+1)*7) (by rw[hdl];omega) (n':=n+1) (xs':=xs.take (i*7)++vs++xs.drop (i*7)) hGn (by rw[List.length_append,List.length_append,hdl,List.length_take,hr.len,hv];omega) (vv ROW.toList xs vs 7 i n hRt hr.len (by omega) hv (by rw[hRl];exact Nat.mul_le_mul_right _ hGn)));have HON:Hid (Only g w ((((w.alloc (.cells ROW 71)).drew).setCells w.heap.size (i*7) vs).drew.setCells w.heap.size ((i+1)*7) (xs.drop (i*7)))):=qh (Only.of_ext (cV _ _ _ () (cV _ _ _ () ((Ext.new w _).drew) (Nat.le_refl _)).drew (Nat.le_refl _)));clear hA hB hr2 hr1 hvb1 hr h1 hvb h1v hdl hsz hold hkk hRl hRt hROW hG hI hz0 hz1 hz2 hik;have hw1:IntKind.i64.wrap ((i:Int)+1)=(i:Int)+1:=IntWalk.i64_in _ (by omega);have hb1:(0:Int)≤(i:Int)+1:=by omega
 have hin:i≤n:=by omega
 have htn:((i:Int)+1).toNat=i+1:=by omega
 have hb2:¬ (G=i+1):=by omega
 have hb6:¬ (G=i):=by omega
 have hb3:(i:Int)≤(n:Int)+1:=by omega
 have hb5:(i:Int)+1≤(n:Int)+1:=by omega
 have hb4:¬ (n=i):=by omega
 have hz9:((i:Int) == (n:Int))=false:=by rw[beq_eq_false_iff_ne];omega
 have hz3:(n:Int)<(n:Int)+1:=by omega
 unfold maxLen at hG63;go_enter Tryz.func113,Tryz.ntmps113;go_wp2_with (at_builtin;refine Lib.wpList_append_run _ rfl (.tmp 34) (.tmp 39) _ _ rfl _ _ rfl rfl _ _ (hrz _) ?_);go_region_law ((refine step_copy_runI (by rfl) (.tmp 50) (.tmp 53) 22 22 (by rfl) (.slice (some ⟨w.heap.size,(i+1)*7,none⟩) (n-i) (G-(i+1))) (.slice (some ⟨g,i*7,none⟩) (n-i) (n-i)) (by simp[Act.eval,Act.put]) (by simp[Act.eval,Act.put]) (hcpB _ _ _) ?_))
 go_wp2_with fail;go_ret;exact⟨w.heap.size,G,_,rfl,.inr (Nat.le_refl _),HW2.out,HON.out⟩
def bO(ls:List LotV)(k:Nat)(x:LotV):List LotV:=ls.take k++[x]++ls.drop k
theorem kQ{ls:List LotV}{k:Nat}{x:LotV}(hk:k≤ls.length):(bO ls k x).length=ls.length+1:=by
 unfold bO;simp only[List.length_append,List.length_take,List.length_drop,List.length_cons,List.length_nil];omega
theorem jb(a b:List LotV):lots (a++b)=lots a++lots b:=by simp[lots]
theorem mg{ls:List LotV}{k:Nat}{x:LotV}(hk:k≤ls.length):lots (bO ls k x)=(lots ls).take (k*7)++aU x++(lots ls).drop (k*7):=by
 have e:lots ls=lots (ls.take k)++lots (ls.drop k):=by rw[←jb,List.take_append_drop]
 have l:(lots (ls.take k)).length=k*7:=by rw[mf,List.length_take,Nat.min_eq_left hk]
 have h1:(lots ls).take (k*7)=lots (ls.take k):=by rw[e,List.take_left' l]
 have h2:(lots ls).drop (k*7)=lots (ls.drop k):=by rw[e,List.drop_left' l]
 rw[h1,h2];unfold bO;rw[jb,jb];simp[lots]
theorem j9(x:LotV):∀u ∈ aU x,u.oneCell'=true:=by
 intro u hu;unfold aU at hu;simp only[List.mem_cons,List.not_mem_nil,or_false]at hu;rcases hu with rfl|rfl|rfl|rfl|rfl|rfl|rfl <;> rfl
def mh(w:World)(base:Nat)(v:Value)(ls:List LotV):Prop:=w.ownsRow base 71 7 v ls.length (lots ls)
def DC(ls:List LotV)(w:World)(e:Ending)(w':World):Prop :=
 ∃A c,e = .returned (.slice A ls.length c)∧Ext w w'∧mh w' w.heap.size (.slice A ls.length c) ls∧(0<ls.length→∃g,A=some ⟨g,0,none⟩∧w.heap.size≤g∧lz w' g c ls)
theorem DD(ls:List LotV)(A:Option Addr)(c:Nat)(w:World)(hA:bp w A ls)(hn:ls.length≤1000000) :
  Calls Tryz.prog 52 #[.slice A ls.length c] w (DC ls w):=by
 rcases Nat.eq_zero_or_pos ls.length with h0|h0
 rotate_left
 ·refine(lM ls A c w hA hn).mono ?_;rintro e w'⟨A',c',rfl,hx,h⟩;obtain⟨g,rfl,hg,cur,hrow⟩:=h h0;exact⟨_,_,rfl,hx,hrow.own hg,fun _=>⟨g,rfl,hg,cur,hrow⟩⟩
 have h1:ls=[]:=List.length_eq_zero_iff.1 h0;subst h1;clear hA h0 hn;obtain⟨i0,hI,hz0,hz1,hz2⟩:=info_parts fF;have HI:=qh hI;clear hI;simp only[List.length_nil]
 cases A with
 |none =>
  have hnil:∀W:World,(binOp .eql 22 (.slice none 0 c) (.slice none 0 0)).run Tryz.prog W = .ok (.bool true) W:=fun W=>Lib.run_eql_slice_nil W _ _ _ _ _ _ _ Tryz.underlying22
  go_enter Tryz.func52,Tryz.ntmps52;go_wp2_with fail;go_ret;exact⟨none,0,rfl,Ext.refl _,⟨rfl,.inl ⟨rfl,rfl⟩⟩,fun h=>absurd h (by simp)⟩
 |some a =>
  have hnil:∀W:World,(binOp .eql 22 (.slice (some a) 0 c) (.slice none 0 0)).run Tryz.prog W = .ok (.bool false) W:=fun W=>Lib.run_eql_slice_nil W _ _ _ _ _ _ _ Tryz.underlying22
  go_enter Tryz.func52,Tryz.ntmps52
  have hr:∀ty,(Builtin.append_ #[22,22] ty #[.slice (some ⟨w.heap.size,0,none⟩) 0 0,.slice (some a) 0 c]).run Tryz.prog (w.alloc (.cells #[] 71)) = .ok (.slice (some ⟨w.heap.size,0,none⟩) 0 0) (w.alloc (.cells #[] 71)):=fun ty =>
   run_append_room_cells _ _ ty 71 i0 Tryz.underlying22 HI.out w.heap.size 0 0 0 a 0 c [] (by simp) (by simp) (by simp) (Nat.le_refl _) (by simp) (by simp)
  go_wp2_with (at_builtin;refine Lib.wpList_append_run _ rfl (.tmp 5) (.tmp 6) _ _ rfl _ _ rfl rfl _ _ (hr _) ?_);go_ret;exact⟨some ⟨w.heap.size,0,none⟩,0,rfl,Ext.new _ _,⟨rfl,.inr ⟨w.heap.size,0,#[],rfl,Nat.le_refl _,heap_alloc_new w _,Nat.le_refl _,by decide,rfl,rfl⟩⟩,fun h=>absurd h (by simp)⟩
def qS(ls:List LotV)(k:Nat)(x:LotV)(w0:World)(e:Ending)(w':World):Prop :=
 ∃A cap,e = .returned (.slice A (bO ls k x).length cap)∧bp w' A (bO ls k x)∧(bO ls k x).length≤cap∧Ext w0 w'
theorem xw(ls:List LotV)(x:LotV)(A:Option Addr)(c vb:Nat)(w0 w:World)(ho:mh w w0.heap.size (.slice A ls.length c) ls)(hx:Ext w0 w)(hvb:Blk w vb 71 (lc x))(hn:ls.length≤1000000) :
  Calls Tryz.prog 113 #[.slice A ls.length c,.int .i64 ls.length,.slice (some ⟨vb,0,none⟩) 1 1] w (qS ls ls.length x w0):=by
 obtain⟨i0,hI,hz0,hz1,hz2⟩:=info_parts fF;have HI:=qh hI;have HO:=qh ho;have HX:=qh hx;have HC:Hid (∀j u,(aU x)[j]? = some u→w.cell? ((⟨vb,0,none⟩:Addr).add j)=some u):=qh (fun j u hu=>by rw[Addr.add_lit,Nat.zero_add,hvb.cell];show(aU x).toArray[j]? = some u;rw[List.getElem?_toArray];exact hu);have hsz:=hx.size
 have h1:lots ls++aU x=lots (bO ls ls.length x):=by
  rw[mg (Nat.le_refl _),List.take_of_length_le (by rw[mf];omega),List.drop_of_length_le (by rw[mf];omega),List.append_nil]
 have H1:=qh h1;have hlen:(bO ls ls.length x).length=ls.length+1:=kQ (Nat.le_refl _);have HLN:=qh hlen
 have hc0:ls.length≤c:=by
  rcases ho.2 with ⟨h,_⟩ | ⟨g',cap',cs',h,_,_,hle,_⟩
  ·injection h with h1 h2 h3;omega
  ·injection h with h1 h2 h3;omega
 clear hI ho hx hvb h1 hlen;have hz:((ls.length:Int) == (ls.length:Int))=true:=by rw[beq_iff_eq]
 have hb0:(ls.length:Int)≤(c:Int):=by omega
 generalize hll:ls.length=n at *;go_enter Tryz.func113,Tryz.ntmps113;go_wp2_with (at_builtin;refine wpList_append_lies _ rfl (.tmp 23) (.tmp 24) 22 rfl w0.heap.size 71 i0 _ 7 96 Tryz.underlying22 HI.out hz0 hz1 hz2 rfl (by decide) _ n (lots ls) rfl (hll ▸ HO.out) ⟨vb,0,none⟩ 1 1 (aU x) rfl rfl HC.out (j9 x) (by decide) (by simp only[maxLen];omega) (by omega) hsz _ rfl ?_;intro g cap w' hown hgrow hat hlt)
 all_goals
  go_ret
  have hx2:Ext w0 w':=by
   change w.grownBy w' (Value.slice A n c).ownBlock at hgrow;rcases HO.out.2 with ⟨h,_⟩ | ⟨g',_,_,h,hg',_⟩
   ·rw[h]at hgrow;exact HX.out.trans ⟨hgrow.os,hgrow.tape,hgrow.output,hgrow.size,fun i hi=>hgrow.block i hi (by simp[Value.ownBlock])⟩
   ·rw[h]at hgrow;exact Ext.only HX.out hgrow hg'
  obtain⟨hg,cur,hrow⟩:=Row.of_own hown;have hq:Row w' g 71 7 (bO ls n x).length cap (lots (bO ls n x)) cur:=by rw[HLN.out,←H1.out];exact hrow
  exact⟨some ⟨g,0,none⟩,cap,by rw[HLN.out];rfl,hq.reads,hq.le,hx2⟩
theorem Cg(ls:List LotV)(k:Nat)(x:LotV)(A:Option Addr)(c vb:Nat)(w0 w:World)(hk:k≤ls.length)(ho:mh w w0.heap.size (.slice A ls.length c) ls)(hr:0<ls.length→∃g,A=some ⟨g,0,none⟩∧w0.heap.size≤g∧lz w g c ls∧vb≠g)(hx:Ext w0 w)(hvb:Blk w vb 71 (lc x))(hn:ls.length≤1000000) :
  Calls Tryz.prog 113 #[.slice A ls.length c,.int .i64 k,.slice (some ⟨vb,0,none⟩) 1 1] w (qS ls k x w0):=by
 by_cases he:k=ls.length
 ·subst he;exact xw ls x A c vb w0 w ho hx hvb hn
 have hlt:k<ls.length:=by omega
 obtain⟨g,rfl,hg,⟨cur,hrow⟩,hne⟩:=hr (by omega);clear ho he;have hl:(bO ls k x).length=ls.length+1:=kQ hk;have hbig:c≤9223372036854775807:=by have:=hrow.big;unfold maxLen at this;omega
 by_cases hroom:ls.length+1≤c
 ·refine(sW g c ls.length k vb (lots ls) cur (aU x) w hrow (zw ls) hvb hne rfl (j9 x) hlt hroom hbig).mono ?_;rintro e w'⟨g',cap',cur',rfl,hg',hrow',honly⟩;have hq:Row w' g' 71 7 (bO ls k x).length cap' (lots (bO ls k x)) cur':=by rw[hl,mg hk];exact hrow'
  exact⟨some ⟨g',0,none⟩,cap',by rw[hl],hq.reads,hq.le,Ext.only hx honly hg⟩
 ·obtain rfl:c=ls.length:=by have:=hrow.le;omega
  refine(ul g ls.length k vb (lots ls) cur (aU x) w hrow (zw ls) hvb rfl (j9 x) hlt hn).mono ?_;rintro e w'⟨g',cap',cur',rfl,hg',hrow',honly⟩;have hq:Row w' g' 71 7 (bO ls k x).length cap' (lots (bO ls k x)) cur':=by rw[hl,mg hk];exact hrow'
  exact⟨some ⟨g',0,none⟩,cap',by rw[hl],hq.reads,hq.le,Ext.only hx honly hg⟩
end
section
open Go.RowKit
attribute [local go_sem] size_bs toList_bs
theorem az{w:World}{g g':Nat}{t t':TypeId}{cs cs':Array Value}(h:Blk w g t cs)(h':Blk w g' t' cs')(hne:t≠t'):g≠g':=by
 rintro rfl;unfold Blk at h h';rw[h]at h';injection h' with h'
 injection h' with _ h2 _
 exact hne h2
end
section
open Go.RowKit Go.Shelf
attribute [local go_sem] size_bs toList_bs Oper.semAt_some
def sX(ls:List LotV)(ins:Bs)(w:World)(e:Ending)(w':World):Prop:=∃A c,e = .returned (.slice A (ap ls ins).length c)∧mh w' w.heap.size (.slice A (ap ls ins).length c) (ap ls ins)∧(ap ls ins).length≤c∧Ext w w'
structure CoAt (w:World) (B:Nat) (lp:Loop) (ls:List LotV) (A:Option Addr) (c:Nat) (ins:Bs) (k:Nat) (W:World):Prop where
 ext:Ext w W
 o:∃v,Blk W w.heap.size 22 #[v]∧mh W w.heap.size v (ap (ls.take k) ins)
 l:Blk W B 22 #[.slice A ls.length c]
 i:Blk W (B+1) 9 #[.string (bs ins)]
 D:W.heap[w.heap.size+1]? = some (.deferred (some []))
 L:W.heap[w.heap.size+1+1]? = some (.loop lp)
theorem ni{w:World}{base:Nat}{e:TypeId}{size n l:Nat}{v:Value}{xs:List Value}{lp lp':Loop}(h:w.ownsRow base e size v n xs)(hl:w.heap[l]? = some (.loop lp)):(w.putObj l (.loop lp')).ownsRow base e size v n xs:=by
 refine⟨h.1,?_⟩;rcases h.2 with h2 | ⟨g,cap,cur,h1,h2,h3,h4,h5⟩
 ·exact .inl h2
 ·refine .inr ⟨g,cap,cur,h1,h2,?_,h4,h5⟩;have hne:g≠l:=by rintro rfl;rw[hl]at h3;cases h3
  rw[World.putObj_heap_other hne];exact h3
theorem xx{w:World}{base b:Nat}{e:TypeId}{size n:Nat}{v:Value}{xs:List Value}(h:w.ownsRow base e size v n xs)(hb:b≤base):w.ownsRow b e size v n xs:=by
 refine⟨h.1,?_⟩;rcases h.2 with h2 | ⟨g,cap,cur,h1,h2,h3⟩
 ·exact .inl h2
 ·exact .inr ⟨g,cap,cur,h1,Nat.le_trans hb h2,h3⟩
theorem oH{w:World}{base:Nat}{e:TypeId}{size n l:Nat}{v:Value}{xs:List Value}{o:Obj}(h:w.ownsRow base e size v n xs)(hl:w.heap[l]? = some (.deferred (some []))):(w.putObj l o).ownsRow base e size v n xs:=by
 refine⟨h.1,?_⟩;rcases h.2 with h2 | ⟨g,cap,cur,h1,h2,h3,h4,h5⟩
 ·exact .inl h2
 ·refine .inr ⟨g,cap,cur,h1,h2,?_,h4,h5⟩;have hne:g≠l:=by rintro rfl;rw[hl]at h3;cases h3
  rw[World.putObj_heap_other hne];exact h3
theorem nj{w:World}{base:Nat}{e:TypeId}{size n l:Nat}{v:Value}{xs:List Value}{lp:Loop}(h:w.ownsRow base e size v n xs)(hl:w.heap[l]? = some (.loop lp)):v.ownBlock≠some l:=by
 rcases h.2 with ⟨rfl,_⟩ | ⟨g,cap,cur,rfl,_,h3,_⟩
 ·simp[Value.ownBlock]
 ·intro he;have:g=l:=by simpa[Value.ownBlock] using he
  subst this
  rw[hl]at h3;cases h3
theorem nk{w:World}{base:Nat}{e:TypeId}{size n l:Nat}{v:Value}{xs:List Value}(h:w.ownsRow base e size v n xs)(hl:w.heap[l]? = some (.deferred (some []))):v.ownBlock≠some l:=by
 rcases h.2 with ⟨rfl,_⟩ | ⟨g,cap,cur,rfl,_,h3,_⟩
 ·simp[Value.ownBlock]
 ·intro he;have:g=l:=by simpa[Value.ownBlock] using he
  subst this
  rw[hl]at h3;cases h3
section
variable {w:World} {B:Nat} {lp lp':Loop} {ls:List LotV} {A:Option Addr} {c:Nat} {ins:Bs} {k:Nat} {W W':World}
theorem CoAt.on(h:CoAt w B lp ls A c ins k W)(hx:Ext W W'):CoAt w B lp ls A c ins k W':=by
 obtain⟨v,h1,h2⟩:=h.o;exact⟨h.ext.trans hx,⟨v,h1.ext hx,aP h2 hx⟩,h.l.ext hx,h.i.ext hx,dK h.D hx,dK h.L hx⟩
theorem CoAt.put(h:CoAt w B lp ls A c ins k W)(hB:B+1<w.heap.size):CoAt w B lp' ls A c ins k (W.putObj (w.heap.size+1+1) (.loop lp')):=by
 obtain⟨v,h1,h2⟩:=h.o;exact⟨h.ext.putObj (by omega) _,⟨v,h1.put _ (by omega),ni h2 h.L⟩,h.l.put _ (by omega),h.i.put _ (by omega),me h.D (by omega),World.putObj_heap_same (Array.getElem?_eq_some_iff.1 h.L).1⟩
theorem CoAt.skip(h:CoAt w B lp ls A c ins k W)(hk:k<ls.length)(hne:(ls[k]'hk).ins≠ins):CoAt w B lp ls A c ins (k+1) W :=
 ⟨h.ext,by rw[jG hk hne];exact h.o,h.l,h.i,h.D,h.L⟩
theorem CoAt.hit{x:LotV}{w':World}{v v':Value}(h:CoAt w B lp ls A c ins k W)(hB:B+1<w.heap.size)(hb:Blk W w.heap.size 22 #[v])(ho:mh W w.heap.size v (ap (ls.take k) ins))(hgrow:W.grownBy w' v.ownBlock)
  (hown':w'.ownsRow w.heap.size 71 7 v' ((ap (ls.take k) ins).length+1) (lots (ap (ls.take k) ins)++aU x)) (hq:ap (ls.take (k+1)) ins=ap (ls.take k) ins++[x]) :
  CoAt w B lp ls A c ins (k+1) (w'.setCell ⟨w.heap.size,0,none⟩ v'):=by
 have keep:∀ {g:Nat} {t:TypeId} {cs:Array Value},Blk W g t cs→t≠71→Blk w' g t cs:=fun {g t cs} hb hne =>
  (hgrow.block g hb.lt (fun e=>eD ho hb hne.symm e.symm)).trans hb
 have hb':=keep hb (by decide);have hDl:=(Array.getElem?_eq_some_iff.1 h.D).1;have hLl:=(Array.getElem?_eq_some_iff.1 h.L).1;refine⟨(Ext.grown h.ext hgrow (cW ho)).setCell (p:=⟨w.heap.size,0,none⟩) (Nat.le_refl _) _,⟨v',hb'.set_ 0 _,?_⟩,(keep h.l (by decide)).far (p:=⟨w.heap.size,0,none⟩) (by dsimp only;omega) _,(keep h.i (by decide)).far (p:=⟨w.heap.size,0,none⟩) (by dsimp only;omega) _,de ?_ (by omega),de ?_ (by omega)⟩
 ·unfold mh;rw[hq,List.length_append,jb];have e1:lots [x]=aU x:=by simp[lots]
  rw[e1];exact m8 hown' (eD hown' hb' (by decide)) _
 ·exact(hgrow.block _ hDl (fun e=>nk ho h.D e.symm)).trans h.D
 ·exact(hgrow.block _ hLl (fun e=>nj ho h.L e.symm)).trans h.L
end
theorem DE(ls:List LotV)(A:Option Addr)(c:Nat)(ins:Bs)(w:World)(B:Nat)(hA:bp w A ls)(hn:ls.length≤100000)(bl:Blk w B 22 #[.slice A ls.length c])(bi:Blk w (B+1) 9 #[.string (bs ins)]) :
  Calls Tryz.prog 142 #[.slice none 0 0,.func (.func 141) #[] #[.pointer (some ⟨B,0,none⟩),.pointer (some ⟨B+1,0,none⟩)]] w (sX ls ins w):=by
 have hfn:∀k,Fence.wide.fn k:=fun _=>trivial
 have hdp:Fence.wide.depth.isSome=false:=rfl;have HA:=qh hA;have BL:=qh bl;have BI:=qh bi;have hlt:=bi.lt;obtain⟨i0,hI,hz0,hz1,hz2⟩:=info_parts fF;have HI:=qh hI;clear hA bl bi hI;refine(callsIn_wide (n:=5)).1 ?_;refine callsIn_of_wp_marks Tryz.func142 rfl trivial ?_ rfl;simp only[Tryz.ntmps142,List.size_toArray,List.length_cons,List.length_nil,Nat.reduceAdd,Nat.reduceSub,Array.replicate_succ,Array.replicate_zero,List.push_toArray,List.append_toArray,List.nil_append,List.cons_append];gi_wp2_with fail;refine iA rfl (by omega) (w.heap.size+1) (by simp) rfl trivial (fun _ _=>by rfl) ?_;intro fn lp W1 hlp hW1 _
 have h0:CoAt w B lp ls A c ins 0 W1:=by
  subst hW1;refine⟨((Ext.new w _).alloc _).alloc _,⟨.slice none 0 0,((Blk.newAt _ _ _ _ rfl).alloc _).alloc _,World.ownsRow_nil _ _ _ _⟩,((BL.out.alloc _).alloc _).alloc _,((BI.out.alloc _).alloc _).alloc _,?_,?_⟩
  ·exact rL (newAt _ _ _ (by simp))
  ·exact newAt _ _ _ (by simp)
 refine(wZ 4 (w.heap.size+1+1) B w ls A c ins HA.out (by omega) (CoAt w B lp ls A c ins) (fun k W h=>⟨h.ext,h.l,h.i⟩) (fun k W W' h hx=>h.on hx) ?hY (fun k hk W hne h=>h.skip hk hne) W1 h0).mono ?_
 case hY =>
  intro k hk W he h;have e1:=congrArg Loop.assign hlp;have e2:=congrArg Loop.body hlp;have e3:=congrArg Loop.tmps hlp;have e4:=congrArg Loop.params hlp;have e5:{ lp with state := .ready,pending:=none }=lp:=by rw[hlp];rfl
  obtain⟨lb,hlb⟩:∃lb,{ lp with state := .busy }=lb:=⟨_,rfl⟩;simp only[eF]at e1 e2 e3 e4;refine eU (rec:=lp) h.L (by rw[hlp];rfl) (by rw[hlp];rfl) trivial e1 e2 e4 e3 (sL _ _ _) hlb ?_;clear e1 e2 e3 e4 hlp hW1 h0;have HXN:Hid (Ext W (W.alloc (.cells (lc (ls[k]'hk)) 71))):=qh (Ext.new _ _);have HL0:=qh (h.on HXN.out).L;have HP:=qh ((h.on HXN.out).put (lp':=lb) hlt);have HBX:=qh ((Blk.new W 71 (lc (ls[k]'hk))).put (.loop lb) (l:=w.heap.size+1+1) (by have:=(Array.getElem?_eq_some_iff.1 h.L).1;omega));have HLB:=qh hlb;have HE5:=qh e5;have HQ:=qh (kq hk he);clear h hlb e5 he;generalize ls[k]'hk=x at *;gi_wp2
  refine⟨HL0.out,?_⟩;generalize hXX:W.heap.size=X at *;have hXw:w.heap.size+1<X:=by have:=(Array.getElem?_eq_some_iff.1 HL0.out).1;simp only[World.size_alloc]at this;omega
  clear hXX;generalize (W.alloc (.cells (lc x) 71)).putObj (w.heap.size+1+1) (.loop lb)=Wb at *;have HPB:=qh (HP.out.on (Ext.new Wb (.cells (lc x) 71)));obtain⟨v,ob,ow⟩:=HP.out.o;have q0:=ob.cell 0;simp only[List.getElem?_toArray,List.getElem?_cons_zero]at q0;have OB:=qh (ob.alloc (.cells (lc x) 71));have OW:=qh (aP ow (Ext.new Wb (.cells (lc x) 71)));have hsz:=HPB.out.ext.size;have hln:(ap (ls.take k) ins).length≤100000:=Nat.le_trans pS hn;clear ob ow;obtain⟨x0,x1,x2,x3,x4,x5,x6⟩:=bK HBX.out (Ext.refl Wb);gi_wp2_with (gi_at_builtin;refine wpListIn_append_own _ rfl (.tmp 8) (.tmp 10) 22 rfl w.heap.size 71 i0 _ 7 96 Tryz.underlying22 HI.out hz0 hz1 hz2 rfl (by decide) v _ _ rfl OW.out ⟨Wb.heap.size,0,none⟩ 1 1 (aU x) rfl rfl (World.news_of_block (heap_alloc_new Wb _)) (j9 x) (by simp only[maxLen];omega) (by omega) hsz ?_;intro v2 w' hown' hgrow hnil;(obtain⟨A2,c2,rfl⟩:=aC hown');clear hnil;(have HT:=qh (HPB.out.hit hlt OB.out OW.out hgrow hown' HQ.out));(have hbG:Blk w' w.heap.size 22 #[v]:=(hgrow.block w.heap.size OB.out.lt (fun e=>eD OW.out OB.out (by decide) e.symm)).trans OB.out);(have d0:=boxCell hbG);(have d1:=hbG.frozen 0));refine⟨by rw[HLB.out];exact HT.out.L,rfl,?_⟩;rw[HE5.out];exact HT.out.put hlt
 rintro e W⟨hv,h⟩;refine⟨hv,.inl ⟨h.L,?_⟩⟩;have hP:=h.put (lp':={ lp with state := .exhausted }) hlt;generalize W.putObj (w.heap.size+1+1) (.loop { lp with state := .exhausted })=W3 at *;clear h hv hW1 hlp W1 h0;obtain⟨v,ob,ow⟩:=hP.o;rw[List.take_length]at ow;have q0:=ob.cell 0;simp only[List.getElem?_toArray,List.getElem?_cons_zero]at q0;obtain⟨A2,c2,rfl⟩:=aC ow;have HOW:=qh ow;have HP:=qh hP;clear hP ow ob;gi_wp2
 refine⟨by simp,.inl ⟨_,_,rfl,run_takeDeferred HP.out.D,?_⟩⟩;refine⟨.slice A2 (ap ls ins).length c2,by simp[results,Tryz.results142,go_sem],?_⟩;exact⟨A2,c2,rfl,oH HOW.out HP.out.D,(fD HOW.out).1,HP.out.ext.putObj (by omega) _⟩
theorem vR(ls:List LotV)(A:Option Addr)(c:Nat)(ins:Bs)(w:World)(B:Nat)(hA:bp w A ls)(hn:ls.length≤100000)(bl:Blk w B 22 #[.slice A ls.length c])(bi:Blk w (B+1) 9 #[.string (bs ins)]) :
  Calls Tryz.prog 82 #[.func (.func 141) #[] #[.pointer (some ⟨B,0,none⟩),.pointer (some ⟨B+1,0,none⟩)]] w (sX ls ins w):=by
 have HS:=qh (DE ls A c ins w B hA hn bl bi);clear hA bl bi;go_enter Tryz.func82,Tryz.ntmps82;go_wp2_with fail;refine HS.out.mono ?_;rintro e w1⟨A2,c2,rfl,h1,h2,h3⟩;have HR:=qh (And.intro h1 (And.intro h2 h3));clear h1 h2 h3;go_wp2_with fail;go_ret;exact⟨A2,c2,rfl,HR.out⟩
theorem gH(ls:List LotV)(A:Option Addr)(c:Nat)(ins:Bs)(w:World)(hA:bp w A ls)(hn:ls.length≤100000) :
  Calls Tryz.prog 26 #[.slice A ls.length c,.string (bs ins)] w (sX ls ins w):=by
 have HA:=qh hA;clear hA;go_enter Tryz.func26,Tryz.ntmps26;go_wp2_with fail;refine(Bi A _ c ins _).mono ?_;rintro e w1⟨rfl,hw1⟩;have HX:Hid (Ext w w1):=qh (by rw[hw1];exact(Ext.new _ _).alloc _);have B0:Hid (Blk w1 w.heap.size 22 #[.slice A ls.length c]):=qh (by rw[hw1];exact(Blk.new _ _ _).alloc _);have B1:Hid (Blk w1 (w.heap.size+1) 9 #[.string (bs ins)]):=qh (by rw[hw1];exact Blk.newAt _ _ _ _ (by simp));clear hw1;go_wp2_with fail;refine(vR ls A c ins w1 w.heap.size (HA.out.ext HX.out) hn B0.out B1.out).mono ?_;rintro e w2⟨A2,c2,rfl,h1,h2,h3⟩;have HR:=qh (And.intro (xx h1 HX.out.size) (And.intro h2 (HX.out.trans h3)));clear h1 h2 h3;go_wp2_with fail;go_ret;exact⟨A2,c2,rfl,HR.out⟩
end
section
open Go.RowKit
attribute [local go_sem] size_bs toList_bs
def Bj(ls:List LotV)(ins:Bs):List Bs:=(ap ls ins).map (·.q)
theorem pW(ls:List LotV)(ins:Bs):(Bj ls ins).length=(ap ls ins).length:=by simp[Bj]
end
section
open Go.RowKit
attribute [local go_sem] size_bs toList_bs
def DF(p:Prop)(w:World)(e:Ending)(w':World):Prop:=Ext w w'∧((p∧e = .returned (.bool true))∨(¬ p∧e = .returned (.bool false)))
theorem pf{a b:Bs}(h:a≠b):(a == b)=false:=by rw[beq_eq_false_iff_ne];exact h
theorem xy{a b:Int}(h:a≠b):(a == b)=false:=by rw[beq_eq_false_iff_ne];exact h
theorem Ch{α:Type}{l l':List α}(hl:l.length=l'.length)(h:∀(j:Nat) (h1:j<l.length) (h2:j<l'.length),l[j]=l'[j]):l=l':=List.ext_getElem hl h
theorem Ci{α:Type}{l l':List α}{k:Nat}(hz:∀(j:Nat) (h1:j<l.length) (h2:j<l'.length),j<k→l[j]=l'[j])(h1:k<l.length)(h2:k<l'.length)(he:l[k]=l'[k]):∀(j:Nat) (h1:j<l.length) (h2:j<l'.length),j<k+1→l[j]=l'[j]:=by
 intro j a b hj;rcases Nat.lt_or_ge j k with h|h
 ·exact hz j a b h
 ·obtain rfl:j=k:=by omega
  exact he
theorem DG{a b:LotV}(h0:a.id=b.id)(h1:a.ins=b.ins)(h2:a.acq=b.acq)(h3:a.opn=b.opn)(h4:a.q=b.q)(h5:a.c=b.c)(h6:a.u=b.u):a=b:=by cases a;cases b;simp_all
instance:DecidableEq LotV:=fun a b=>by
 by_cases h:(a.id=b.id∧a.ins=b.ins∧a.acq=b.acq∧a.opn=b.opn∧a.q=b.q∧a.c=b.c∧a.u=b.u)
 ·exact isTrue (by obtain⟨h0,h1,h2,h3,h4,h5,h6⟩:=h;exact DG h0 h1 h2 h3 h4 h5 h6)
 ·exact isFalse (by rintro rfl;exact h ⟨rfl,rfl,rfl,rfl,rfl,rfl,rfl⟩)
end
section
open Go.RowKit
attribute [local go_sem] size_bs toList_bs
theorem zx(seen:List Bs)(ls:List LotV)(h:dP seen ls=0):∀x ∈ ls,bU x=0:=by
 induction ls generalizing seen with
 |nil=>intro x hx;cases hx
 |cons y r ih =>
  unfold dP at h;split at h
  ·rename_i hc;exact absurd h hc
  ·rename_i hc
   split at h
   ·cases h
   ·intro x hx;rcases List.mem_cons.1 hx with rfl|hx
    ·exact Decidable.not_not.1 hc
    ·exact ih _ h x hx
theorem di{ls:List LotV}(h:aw ls=0):ls.length≤1000∧∀x ∈ ls,bU x=0:=by
 unfold aw at h;split at h
 ·cases h
 ·exact⟨by omega,zx _ _ h⟩
theorem fb{x:LotV}(h:bU x=0):aq x.q=0∧aq x.c=0∧0<valI x.q∧0≤valI x.c∧(x.u=[]∨x.u=x.q):=by
 unfold bU at h;split at h
 ·cases h
 split at h
 ·cases h
 split at h
 ·cases h
 split at h
 ·cases h
 split at h
 ·cases h
 rename_i h4 h5
 simp only[not_or,Decidable.not_not]at h4 h5;refine⟨h4.1,h4.2.1,by omega,by omega,?_⟩;by_cases hu:x.u=[]
 ·exact .inl hu
 ·exact .inr (Decidable.not_not.1 (fun hq=>h5.2.2 ⟨hu,hq⟩))
theorem uQ(l:List Int)(h:∀x ∈ l,0<x)(hl:0<l.length):0<l.sum:=by
 cases l with
 |nil=>simp at hl
 |cons a r =>
  rw[List.sum_cons];have:=h a (by simp);have:=jU r (fun x hx=>Int.le_of_lt (h x (by simp[hx])));omega
theorem Bk{ls:List LotV}(ins:Bs)(hs:∀x ∈ ls,bv x)(h:aw ls=0)(hl:0<(ap ls ins).length):WtOK (Bj ls ins):=by
 obtain⟨h1,h2⟩:=di h
 have hm:∀x ∈ Bj ls ins,∃y ∈ ls,y.q=x:=by
  intro x hx;obtain⟨y,hy,rfl⟩:=List.mem_map.1 hx;exact⟨y,(List.mem_filter.1 hy).1,rfl⟩
 have hle:(ap ls ins).length≤ls.length:=List.length_filter_le _ _;refine⟨by rw[pW];exact hl,by rw[pW];omega,?_,?_,?_,?_⟩
 ·intro x hx;obtain⟨y,hy,rfl⟩:=hm x hx;have:=(hs y hy).2.2.1;omega
 ·intro x hx;obtain⟨y,hy,rfl⟩:=hm x hx;exact(fb (h2 y hy)).1
 ·intro x hx;obtain⟨y,hy,rfl⟩:=hm x hx;exact Int.le_of_lt (fb (h2 y hy)).2.2.1
 ·refine uQ _ ?_ (by rw[List.length_map,pW];exact hl);intro v hv;obtain⟨x,hx,rfl⟩:=List.mem_map.1 hv;obtain⟨y,hy,rfl⟩:=hm x hx;exact(fb (h2 y hy)).2.2.1
theorem pX(a:Bs)(w:World):Calls Tryz.prog 70 #[.string (bs a)] w fun e w'=>e = .returned (.bool (decide (13<(a.length:Int))))∧w'=w:=by
 go_enter Tryz.func70,Tryz.ntmps70;go_wp2_with fail;go_ret;exact⟨rfl,rfl⟩
end
section
open Go.RowKit
attribute [local go_sem] size_bs toList_bs
theorem zy(hs hs':List LotV)(A A':Option Addr)(c c':Nat)(w:World)(hA:bp w A hs)(hA':bp w A' hs')(hn:hs.length≤4611686018427387904)(hn':hs'.length≤4611686018427387904) :
  Calls Tryz.prog 33 #[.slice A hs.length c,.slice A' hs'.length c'] w (DF (hs=hs') w):=by
 have HA:=qh hA;have HA':=qh hA';clear hA hA';by_cases hl:hs.length=hs'.length
 ·have HLL:=qh hl;have hbl:((hs.length:Int) != (hs'.length:Int))=false:=by rw[bne_eq_false_iff_eq];omega
  clear hl;go_enter Tryz.func33,Tryz.ntmps33;go_wp2_with fail;go_loopw [5] (fun i wr=>∃k:Nat,k≤hs.length∧i = .int .i64 k∧(∀(j:Nat) (h1:j<hs.length) (h2:j<hs'.length),j<k→hs[j]=hs'[j])∧Ext w wr) (fun i _=>hs.length-(intOf i).toNat)
  case atStart=>exact⟨0,by omega,rfl,fun j _ _ hj=>absurd hj (by omega),Ext.refl _⟩
  case round =>
   obtain⟨k,hk,rfl,hz,hx⟩:=hrel;have HZ:=qh hz;have HX:=qh hx;clear hz hx;by_cases hlt:k<hs.length
   ·have hlt':k<hs'.length:=by have:=HLL.out;omega
    obtain⟨b,o,rfl,hb,hc1,hc2,hc3,hc4,hc5,hc6,hc7⟩:=(HA.out.ext HX.out).at_ hlt;obtain⟨b',o',rfl,hb',hd1,hd2,hd3,hd4,hd5,hd6,hd7⟩:=(HA'.out.ext HX.out).at_ hlt';by_cases he:hs[k]=hs'[k]
    ·have HST:=qh (Ci HZ.out hlt hlt' he);rw[←he]at hd1 hd2 hd3 hd4 hd5 hd6 hd7;generalize (hs[k]'hlt)=h at *;clear he;go_wp2_with fail;go_quiet (fail);go_wp2_with fail;go_roundw
     case rel=>exact⟨k+1,by omega,by go_num,HST.out,HX.out.drewN _⟩
     case measure=>simp[intOf];omega
    ·have HNE:Hid (¬ hs=hs'):=qh (fun e=>he (by subst e;rfl));have HNC:Hid (¬ ((hs[k]'hlt).id=(hs'[k]'hlt').id∧(hs[k]'hlt).ins=(hs'[k]'hlt').ins∧(hs[k]'hlt).acq=(hs'[k]'hlt').acq∧(hs[k]'hlt).opn=(hs'[k]'hlt').opn∧(hs[k]'hlt).q=(hs'[k]'hlt').q∧(hs[k]'hlt).c=(hs'[k]'hlt').c∧(hs[k]'hlt).u=(hs'[k]'hlt').u)):=qh (fun hh=>he (by obtain⟨a0,a1,a2,a3,a4,a5,a6⟩:=hh;exact DG a0 a1 a2 a3 a4 a5 a6));generalize (hs[k]'hlt)=h at *;generalize (hs'[k]'hlt')=h' at *;clear he;by_cases e0:h.id=h'.id;rotate_left
     ·have q:=pf e0;clear e0;go_wp2_with fail;go_quiet (fail);go_wp2_with fail;go_ret;exact⟨HX.out.drewN _,.inr ⟨HNE.out,rfl⟩⟩
     rw[←e0]at hd1;by_cases e1:h.ins=h'.ins;rotate_left
     ·have q:=pf e1;clear e1;go_wp2_with fail;go_quiet (fail);go_wp2_with fail;go_ret;exact⟨HX.out.drewN _,.inr ⟨HNE.out,rfl⟩⟩
     rw[←e1]at hd2;by_cases e2:h.acq=h'.acq;rotate_left
     ·have q:=xy e2;clear e2;go_wp2_with fail;go_quiet (fail);go_wp2_with fail;go_ret;exact⟨HX.out.drewN _,.inr ⟨HNE.out,rfl⟩⟩
     rw[←e2]at hd3;by_cases e3:h.opn=h'.opn;rotate_left
     ·have q:=xy e3;clear e3;go_wp2_with fail;go_quiet (fail);go_wp2_with fail;go_ret;exact⟨HX.out.drewN _,.inr ⟨HNE.out,rfl⟩⟩
     rw[←e3]at hd4;by_cases e4:h.q=h'.q;rotate_left
     ·have q:=pf e4;clear e4;go_wp2_with fail;go_quiet (fail);go_wp2_with fail;go_ret;exact⟨HX.out.drewN _,.inr ⟨HNE.out,rfl⟩⟩
     rw[←e4]at hd5;by_cases e5:h.c=h'.c;rotate_left
     ·have q:=pf e5;clear e5;go_wp2_with fail;go_quiet (fail);go_wp2_with fail;go_ret;exact⟨HX.out.drewN _,.inr ⟨HNE.out,rfl⟩⟩
     rw[←e5]at hd6;have e6:¬ h.u=h'.u:=fun e=>HNC.out ⟨e0,e1,e2,e3,e4,e5,e⟩
     have q:=pf e6;clear HNC e0 e1 e2 e3 e4 e5 e6;go_wp2_with fail;go_quiet (fail);go_wp2_with fail;go_ret;exact⟨HX.out.drewN _,.inr ⟨HNE.out,rfl⟩⟩
   ·have HEQ:Hid (hs=hs'):=qh (Ch HLL.out (fun j h1 h2=>HZ.out j h1 h2 (by omega)));go_wp2_with fail;go_ret;exact⟨HX.out,.inl ⟨HEQ.out,rfl⟩⟩
 ·have HNE:Hid (¬ hs=hs'):=qh (fun e=>hl (by rw[e]));have hbl:((hs.length:Int) != (hs'.length:Int))=true:=by rw[bne_iff_ne];omega
  clear hl;go_enter Tryz.func33,Tryz.ntmps33;go_wp2_with fail;go_ret;exact⟨Ext.refl _,.inr ⟨HNE.out,rfl⟩⟩
theorem Cj(hs hs':List LotV)(A A':Option Addr)(c c':Nat)(w:World)(hA:bp w A hs)(hA':bp w A' hs')(hn:hs.length≤4611686018427387904)(hn':hs'.length≤4611686018427387904) :
  Calls Tryz.prog 33 #[.slice A hs.length c,.slice A' hs'.length c'] w fun e w'=>e = .returned (.bool (decide (hs=hs')))∧Ext w w':=by
 refine(zy hs hs' A A' c c' w hA hA' hn hn').mono ?_;rintro e w'⟨hx,⟨h,rfl⟩ | ⟨h,rfl⟩⟩
 ·exact⟨by simp[h],hx⟩
 ·exact⟨by simp[h],hx⟩
end
section
open Go.RowKit
attribute [local go_sem] size_bs toList_bs
def jr(a:Bs):Bool:=decide (13<(a.length:Int))
def ft(x:LotV):Bool:=jr x.q || jr x.c || jr x.u || decide (40<(x.id.length:Int)) || decide (40<(x.ins.length:Int))
theorem um(x:LotV)(w:World):Calls Tryz.prog 105 #[lv x] w fun e w'=>e = .returned (.bool (ft x))∧Ext w w':=by
 have HX:Hid (Ext w (w.alloc (.cells (lc x) 71))):=qh (Ext.new _ _);have hb:=Blk.new w 71 (lc x);obtain⟨c0,c1,c2,c3,c4,c5,c6⟩:=bK hb (Ext.refl _);have H1:=qh (pX x.q (w.alloc (.cells (lc x) 71)));have H2:=qh (pX x.c (w.alloc (.cells (lc x) 71)));have H3:=qh (pX x.u (w.alloc (.cells (lc x) 71)));rw[show decide (13<(x.q.length:Int))=jr x.q from rfl]at H1;rw[show decide (13<(x.c.length:Int))=jr x.c from rfl]at H2;rw[show decide (13<(x.u.length:Int))=jr x.u from rfl]at H3;clear hb;unfold ft
 cases e1:jr x.q;rotate_left
 ·rw[e1]at H1;clear e1;go_enter Tryz.func105,Tryz.ntmps105;go_wp2_with fail;refine(Hid.out H1).mono ?_;rintro e w1⟨h1,h2⟩;subst h1;subst h2;go_wp2_with fail;go_ret;exact⟨rfl,HX.out⟩
 rw[e1]at H1;clear e1
 cases e2:jr x.c;rotate_left
 ·rw[e2]at H2;clear e2;go_enter Tryz.func105,Tryz.ntmps105;go_wp2_with fail;refine(Hid.out H1).mono ?_;rintro e w1⟨h1,h2⟩;subst h1;subst h2;go_wp2_with fail;refine(Hid.out H2).mono ?_;rintro e w1⟨h1,h2⟩;subst h1;subst h2;go_wp2_with fail;go_ret;exact⟨rfl,HX.out⟩
 rw[e2]at H2;clear e2
 cases e3:jr x.u;rotate_left
 ·rw[e3]at H3;clear e3;go_enter Tryz.func105,Tryz.ntmps105;go_wp2_with fail;refine(Hid.out H1).mono ?_;rintro e w1⟨h1,h2⟩;subst h1;subst h2;go_wp2_with fail;refine(Hid.out H2).mono ?_;rintro e w1⟨h1,h2⟩;subst h1;subst h2;go_wp2_with fail;refine(Hid.out H3).mono ?_;rintro e w1⟨h1,h2⟩;subst h1;subst h2;go_wp2_with fail;go_ret;exact⟨rfl,HX.out⟩
 rw[e3]at H3;clear e3
 cases e4:decide (40<(x.id.length:Int));rotate_left
 ·go_enter Tryz.func105,Tryz.ntmps105;go_wp2_with fail;refine(Hid.out H1).mono ?_;rintro e w1⟨h1,h2⟩;subst h1;subst h2;go_wp2_with fail;refine(Hid.out H2).mono ?_;rintro e w1⟨h1,h2⟩;subst h1;subst h2;go_wp2_with fail;refine(Hid.out H3).mono ?_;rintro e w1⟨h1,h2⟩;subst h1;subst h2;go_wp2_with fail;go_ret;exact⟨rfl,HX.out⟩
 cases e5:decide (40<(x.ins.length:Int));rotate_left
 ·go_enter Tryz.func105,Tryz.ntmps105;go_wp2_with fail;refine(Hid.out H1).mono ?_;rintro e w1⟨h1,h2⟩;subst h1;subst h2;go_wp2_with fail;refine(Hid.out H2).mono ?_;rintro e w1⟨h1,h2⟩;subst h1;subst h2;go_wp2_with fail;refine(Hid.out H3).mono ?_;rintro e w1⟨h1,h2⟩;subst h1;subst h2;go_wp2_with fail;go_ret;exact⟨rfl,HX.out⟩
 go_enter Tryz.func105,Tryz.ntmps105;go_wp2_with fail;refine(Hid.out H1).mono ?_;rintro e w1⟨h1,h2⟩;subst h1;subst h2;go_wp2_with fail;refine(Hid.out H2).mono ?_;rintro e w1⟨h1,h2⟩;subst h1;subst h2;go_wp2_with fail;refine(Hid.out H3).mono ?_;rintro e w1⟨h1,h2⟩;subst h1;subst h2;go_wp2_with fail;go_ret;exact⟨rfl,HX.out⟩
end
end Go.Proofs.YthgpheopnhajaaaGreatDoor
