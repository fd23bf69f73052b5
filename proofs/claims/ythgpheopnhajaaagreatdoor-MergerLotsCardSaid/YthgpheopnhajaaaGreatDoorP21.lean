/- The seat's texts, part P21. -/
import Derived.Test.YthgpheopnhajaaaGreatDoorP9
import Derived.Test.YthgpheopnhajaaaGreatDoorP10
import Derived.Test.YthgpheopnhajaaaGreatDoorP11
import Derived.Test.YthgpheopnhajaaaGreatDoorP12
import Derived.Test.YthgpheopnhajaaaGreatDoorP15
import Derived.Test.YthgpheopnhajaaaGreatDoorP19
import Derived.Test.YthgpheopnhajaaaGreatDoorP20
import Derived.Deep.RegionHeld3
import Derived.BigQuiet
set_option maxRecDepth 100000
set_option maxHeartbeats 8000000
namespace Go.Proofs.YthgpheopnhajaaaGreatDoor
section
open Go.RowKit
attribute [local go_sem] size_bs toList_bs
theorem DS(a b:Int):(a == b)=decide (a=b):=by
 by_cases h:a=b
 ·subst h;simp
 ·rw[decide_eq_false h,beq_eq_false_iff_ne];exact h
theorem DT(a:Nat):((a:Int) == 0)=decide (a=0):=by
 rw[DS];by_cases h:a=0
 ·subst h;rfl
 ·rw[decide_eq_false h,decide_eq_false (by omega)]
def br(f:FactV)(pn on:Nat):Nat→Bool
 |0=>f.ins.isEmpty
 |1=>f.other.isEmpty
 |2=>f.cur.isEmpty
 |3=>f.tgt.isEmpty
 |4=>f.qty.isEmpty
 |5=>f.amt.isEmpty
 |6=>f.fee.isEmpty
 |7=>f.price.num.isEmpty && f.price.den.isEmpty
 |8=>f.ratio.num.isEmpty && f.ratio.den.isEmpty
 |9=>f.share.num.isEmpty && f.share.den.isEmpty
 |10=>decide (pn=0)
 |11=>decide (on=0)
 |_=>decide (f.choice=0)
section
variable (f:FactV) (pa oa:Option Addr) (pn pc on oc:Nat) (w:World)
abbrev ac(A:Option Addr)(n c:Nat):Value := .slice A n c
theorem zO:Calls Tryz.prog 91 #[aB f (ac pa pn pc) (ac oa on oc),.int .i64 0] w fun e w'=>e = .returned (.bool (br f pn on 0))∧Ext w w':=by
 have HB:=qh (Blk.new w 30 (af f (ac pa pn pc) (ac oa on oc)));have HX:Hid (Ext w (w.alloc (.cells (af f (ac pa pn pc) (ac oa on oc)) 30))):=qh (Ext.new _ _);unfold br;go_enter Tryz.func91,Tryz.ntmps91;obtain⟨x0,x1,x2,x3,x4,x5,x6,x7,x8,x9,x10,x11,x12,x13,x14,x15,x16,x17,x18,x19,x20⟩:=ae HB.out (Ext.refl _);go_wp2_with fail;go_ret;exact⟨by rfl,HX.out⟩
theorem zP:Calls Tryz.prog 91 #[aB f (ac pa pn pc) (ac oa on oc),.int .i64 1] w fun e w'=>e = .returned (.bool (br f pn on 1))∧Ext w w':=by
 have HB:=qh (Blk.new w 30 (af f (ac pa pn pc) (ac oa on oc)));have HX:Hid (Ext w (w.alloc (.cells (af f (ac pa pn pc) (ac oa on oc)) 30))):=qh (Ext.new _ _);unfold br;go_enter Tryz.func91,Tryz.ntmps91;obtain⟨x0,x1,x2,x3,x4,x5,x6,x7,x8,x9,x10,x11,x12,x13,x14,x15,x16,x17,x18,x19,x20⟩:=ae HB.out (Ext.refl _);go_wp2_with fail;go_ret;exact⟨by rfl,HX.out⟩
theorem zQ:Calls Tryz.prog 91 #[aB f (ac pa pn pc) (ac oa on oc),.int .i64 2] w fun e w'=>e = .returned (.bool (br f pn on 2))∧Ext w w':=by
 have HB:=qh (Blk.new w 30 (af f (ac pa pn pc) (ac oa on oc)));have HX:Hid (Ext w (w.alloc (.cells (af f (ac pa pn pc) (ac oa on oc)) 30))):=qh (Ext.new _ _);unfold br;go_enter Tryz.func91,Tryz.ntmps91;obtain⟨x0,x1,x2,x3,x4,x5,x6,x7,x8,x9,x10,x11,x12,x13,x14,x15,x16,x17,x18,x19,x20⟩:=ae HB.out (Ext.refl _);go_wp2_with fail;go_ret;exact⟨by rfl,HX.out⟩
theorem zR:Calls Tryz.prog 91 #[aB f (ac pa pn pc) (ac oa on oc),.int .i64 3] w fun e w'=>e = .returned (.bool (br f pn on 3))∧Ext w w':=by
 have HB:=qh (Blk.new w 30 (af f (ac pa pn pc) (ac oa on oc)));have HX:Hid (Ext w (w.alloc (.cells (af f (ac pa pn pc) (ac oa on oc)) 30))):=qh (Ext.new _ _);unfold br;go_enter Tryz.func91,Tryz.ntmps91;obtain⟨x0,x1,x2,x3,x4,x5,x6,x7,x8,x9,x10,x11,x12,x13,x14,x15,x16,x17,x18,x19,x20⟩:=ae HB.out (Ext.refl _);go_wp2_with fail;go_ret;exact⟨by rfl,HX.out⟩
theorem xL:Calls Tryz.prog 91 #[aB f (ac pa pn pc) (ac oa on oc),.int .i64 10] w fun e w'=>e = .returned (.bool (br f pn on 10))∧Ext w w':=by
 have HB:=qh (Blk.new w 30 (af f (ac pa pn pc) (ac oa on oc)));have HX:Hid (Ext w (w.alloc (.cells (af f (ac pa pn pc) (ac oa on oc)) 30))):=qh (Ext.new _ _);unfold br;go_enter Tryz.func91,Tryz.ntmps91;obtain⟨x0,x1,x2,x3,x4,x5,x6,x7,x8,x9,x10,x11,x12,x13,x14,x15,x16,x17,x18,x19,x20⟩:=ae HB.out (Ext.refl _);go_wp2_with fail;go_ret;exact⟨by(show Ending.returned (.bool _)=Ending.returned (.bool (decide _));rw[←DT]),HX.out⟩
theorem xM:Calls Tryz.prog 91 #[aB f (ac pa pn pc) (ac oa on oc),.int .i64 11] w fun e w'=>e = .returned (.bool (br f pn on 11))∧Ext w w':=by
 have HB:=qh (Blk.new w 30 (af f (ac pa pn pc) (ac oa on oc)));have HX:Hid (Ext w (w.alloc (.cells (af f (ac pa pn pc) (ac oa on oc)) 30))):=qh (Ext.new _ _);unfold br;go_enter Tryz.func91,Tryz.ntmps91;obtain⟨x0,x1,x2,x3,x4,x5,x6,x7,x8,x9,x10,x11,x12,x13,x14,x15,x16,x17,x18,x19,x20⟩:=ae HB.out (Ext.refl _);go_wp2_with fail;go_ret;exact⟨by(show Ending.returned (.bool _)=Ending.returned (.bool (decide _));rw[←DT]),HX.out⟩
theorem xN:Calls Tryz.prog 91 #[aB f (ac pa pn pc) (ac oa on oc),.int .i64 12] w fun e w'=>e = .returned (.bool (br f pn on 12))∧Ext w w':=by
 have HB:=qh (Blk.new w 30 (af f (ac pa pn pc) (ac oa on oc)));have HX:Hid (Ext w (w.alloc (.cells (af f (ac pa pn pc) (ac oa on oc)) 30))):=qh (Ext.new _ _);unfold br;go_enter Tryz.func91,Tryz.ntmps91;obtain⟨x0,x1,x2,x3,x4,x5,x6,x7,x8,x9,x10,x11,x12,x13,x14,x15,x16,x17,x18,x19,x20⟩:=ae HB.out (Ext.refl _);go_wp2_with fail;go_ret;exact⟨by(show Ending.returned (.bool _)=Ending.returned (.bool (decide _));rw[←DS]),HX.out⟩
theorem zS:Calls Tryz.prog 91 #[aB f (ac pa pn pc) (ac oa on oc),.int .i64 4] w fun e w'=>e = .returned (.bool (br f pn on 4))∧Ext w w':=by
 have HB:=qh (Blk.new w 30 (af f (ac pa pn pc) (ac oa on oc)));have HX:Hid (Ext w (w.alloc (.cells (af f (ac pa pn pc) (ac oa on oc)) 30))):=qh (Ext.new _ _);have HV:=qh (je f (ac pa pn pc) (ac oa on oc) 4 (bs f.qty) ⟨#[]⟩ (Bp f) (w.alloc (.cells (af f (ac pa pn pc) (ac oa on oc)) 30)));have hs1:(Tryz.prog.info? 30).map (·.size)=some (af f (ac pa pn pc) (ac oa on oc)).toList.length:=by kernel_rfl
 have hrg:=aA HB.out;unfold br;go_enter Tryz.func91,Tryz.ntmps91;go_wp2_with (first|refine wpList_load_mid rfl 30 _ rfl w.heap.size 0 rfl _ _ hrg Tryz.underlying30 rfl hs1 ?_|fail);refine HV.out.mono ?_;rintro e v1⟨rfl,hx1⟩;replace HX:=HX.qt hx1;clear hx1;go_wp2_with fail
 all_goals
  go_ret;exact⟨by simp[*],HX.out⟩
theorem zT:Calls Tryz.prog 91 #[aB f (ac pa pn pc) (ac oa on oc),.int .i64 5] w fun e w'=>e = .returned (.bool (br f pn on 5))∧Ext w w':=by
 have HB:=qh (Blk.new w 30 (af f (ac pa pn pc) (ac oa on oc)));have HX:Hid (Ext w (w.alloc (.cells (af f (ac pa pn pc) (ac oa on oc)) 30))):=qh (Ext.new _ _);have HV:=qh (je f (ac pa pn pc) (ac oa on oc) 5 (bs f.amt) ⟨#[]⟩ (Bq f) (w.alloc (.cells (af f (ac pa pn pc) (ac oa on oc)) 30)));have hs1:(Tryz.prog.info? 30).map (·.size)=some (af f (ac pa pn pc) (ac oa on oc)).toList.length:=by kernel_rfl
 have hrg:=aA HB.out;unfold br;go_enter Tryz.func91,Tryz.ntmps91;go_wp2_with (first|refine wpList_load_mid rfl 30 _ rfl w.heap.size 0 rfl _ _ hrg Tryz.underlying30 rfl hs1 ?_|fail);refine HV.out.mono ?_;rintro e v1⟨rfl,hx1⟩;replace HX:=HX.qt hx1;clear hx1;go_wp2_with fail
 all_goals
  go_ret;exact⟨by simp[*],HX.out⟩
theorem zU:Calls Tryz.prog 91 #[aB f (ac pa pn pc) (ac oa on oc),.int .i64 6] w fun e w'=>e = .returned (.bool (br f pn on 6))∧Ext w w':=by
 have HB:=qh (Blk.new w 30 (af f (ac pa pn pc) (ac oa on oc)));have HX:Hid (Ext w (w.alloc (.cells (af f (ac pa pn pc) (ac oa on oc)) 30))):=qh (Ext.new _ _);have HV:=qh (je f (ac pa pn pc) (ac oa on oc) 6 (bs f.fee) ⟨#[]⟩ (Br f) (w.alloc (.cells (af f (ac pa pn pc) (ac oa on oc)) 30)));have hs1:(Tryz.prog.info? 30).map (·.size)=some (af f (ac pa pn pc) (ac oa on oc)).toList.length:=by kernel_rfl
 have hrg:=aA HB.out;unfold br;go_enter Tryz.func91,Tryz.ntmps91;go_wp2_with (first|refine wpList_load_mid rfl 30 _ rfl w.heap.size 0 rfl _ _ hrg Tryz.underlying30 rfl hs1 ?_|fail);refine HV.out.mono ?_;rintro e v1⟨rfl,hx1⟩;replace HX:=HX.qt hx1;clear hx1;go_wp2_with fail
 all_goals
  go_ret;exact⟨by simp[*],HX.out⟩
theorem zV:Calls Tryz.prog 91 #[aB f (ac pa pn pc) (ac oa on oc),.int .i64 7] w fun e w'=>e = .returned (.bool (br f pn on 7))∧Ext w w':=by
 have HB:=qh (Blk.new w 30 (af f (ac pa pn pc) (ac oa on oc)));have HX:Hid (Ext w (w.alloc (.cells (af f (ac pa pn pc) (ac oa on oc)) 30))):=qh (Ext.new _ _);have HV:=qh (je f (ac pa pn pc) (ac oa on oc) 7 (bs f.price.num) (bs f.price.den) (Bu f) (w.alloc (.cells (af f (ac pa pn pc) (ac oa on oc)) 30)));have hs1:(Tryz.prog.info? 30).map (·.size)=some (af f (ac pa pn pc) (ac oa on oc)).toList.length:=by kernel_rfl
 have hrg:=aA HB.out;unfold br;go_enter Tryz.func91,Tryz.ntmps91;go_wp2_with (first|refine wpList_load_mid rfl 30 _ rfl w.heap.size 0 rfl _ _ hrg Tryz.underlying30 rfl hs1 ?_|fail);refine HV.out.mono ?_;rintro e v1⟨rfl,hx1⟩;replace HX:=HX.qt hx1;clear hx1;go_wp2_with fail
 all_goals
  go_ret;exact⟨by simp[*],HX.out⟩
theorem zW:Calls Tryz.prog 91 #[aB f (ac pa pn pc) (ac oa on oc),.int .i64 8] w fun e w'=>e = .returned (.bool (br f pn on 8))∧Ext w w':=by
 have HB:=qh (Blk.new w 30 (af f (ac pa pn pc) (ac oa on oc)));have HX:Hid (Ext w (w.alloc (.cells (af f (ac pa pn pc) (ac oa on oc)) 30))):=qh (Ext.new _ _);have HV:=qh (je f (ac pa pn pc) (ac oa on oc) 8 (bs f.ratio.num) (bs f.ratio.den) (Bv f) (w.alloc (.cells (af f (ac pa pn pc) (ac oa on oc)) 30)));have hs1:(Tryz.prog.info? 30).map (·.size)=some (af f (ac pa pn pc) (ac oa on oc)).toList.length:=by kernel_rfl
 have hrg:=aA HB.out;unfold br;go_enter Tryz.func91,Tryz.ntmps91;go_wp2_with (first|refine wpList_load_mid rfl 30 _ rfl w.heap.size 0 rfl _ _ hrg Tryz.underlying30 rfl hs1 ?_|fail);refine HV.out.mono ?_;rintro e v1⟨rfl,hx1⟩;replace HX:=HX.qt hx1;clear hx1;go_wp2_with fail
 all_goals
  go_ret;exact⟨by simp[*],HX.out⟩
theorem zX:Calls Tryz.prog 91 #[aB f (ac pa pn pc) (ac oa on oc),.int .i64 9] w fun e w'=>e = .returned (.bool (br f pn on 9))∧Ext w w':=by
 have HB:=qh (Blk.new w 30 (af f (ac pa pn pc) (ac oa on oc)));have HX:Hid (Ext w (w.alloc (.cells (af f (ac pa pn pc) (ac oa on oc)) 30))):=qh (Ext.new _ _);have HV:=qh (je f (ac pa pn pc) (ac oa on oc) 9 (bs f.share.num) (bs f.share.den) (Bw f) (w.alloc (.cells (af f (ac pa pn pc) (ac oa on oc)) 30)));have hs1:(Tryz.prog.info? 30).map (·.size)=some (af f (ac pa pn pc) (ac oa on oc)).toList.length:=by kernel_rfl
 have hrg:=aA HB.out;unfold br;go_enter Tryz.func91,Tryz.ntmps91;go_wp2_with (first|refine wpList_load_mid rfl 30 _ rfl w.heap.size 0 rfl _ _ hrg Tryz.underlying30 rfl hs1 ?_|fail);refine HV.out.mono ?_;rintro e v1⟨rfl,hx1⟩;replace HX:=HX.qt hx1;clear hx1;go_wp2_with fail
 all_goals
  go_ret;exact⟨by simp[*],HX.out⟩
end
end
section
open Go.RowKit
attribute [local go_sem] size_bs toList_bs
def dB(f:Fr):List Value:=[.string (bs f.num),.string (bs f.den)]
theorem gJ(f:Fr):(dB f).length=2:=rfl
def pt(fs:List Fr):List Value:=fs.flatMap dB
theorem wi(fs:List Fr):(pt fs).length=fs.length*2:=by
 induction fs with
 |nil=>rfl
 |cons x r ih=>simp only[pt,List.flatMap_cons,List.length_append,List.length_cons,gJ]at ih ⊢;omega
def iM(w:World)(A:Option Addr)(fs:List Fr):Prop:=Reads w 2 A fs.length (pt fs)
theorem iM.ext{w w':World}{A:Option Addr}{fs:List Fr}(h:iM w A fs)(he:Ext w w'):iM w' A fs:=Reads.ext h he
theorem iM.at_{w:World}{A:Option Addr}{fs:List Fr}(h:iM w A fs){k:Nat}(hk:k<fs.length) :
  ∃b o,A=some ⟨b,o,none⟩∧b<w.heap.size∧w.cell? ⟨b,o+k*2,none⟩=some (.string (bs (fs[k]'hk).num))∧w.cell? ⟨b,o+k*2+1,none⟩=some (.string (bs (fs[k]'hk).den)):=by
 obtain⟨b,o,rfl,hb⟩:=Reads.at_ h (by omega)
 have key:∀j (_:j<2),w.cell? ⟨b,o+k*2+j,none⟩=(dB (fs[k]'hk))[j]? := fun j hj=>by
  have h1:=lJ dB 2 gJ fs k j hk hj;have hl:j<(dB (fs[k]'hk)).length:=by rw[gJ];exact hj
  rw[List.getElem?_eq_getElem hl]at h1 ⊢;have h2:=Reads.cell h h1;rw[←Nat.add_assoc]at h2;exact h2
 exact⟨b,o,rfl,hb,key 0 (by decide),key 1 (by decide)⟩
end
section
open Go.RowKit Go.Shelf
attribute [local go_sem] size_bs toList_bs
def ej(fn:Nat→Int):Nat→Int
 |0=>0
 |k+1=>if ej fn k≠0 then ej fn k else fn k
theorem fI{fn:Nat→Int}:∀ {k:Nat},(∀j,j<k→fn j=0)→ej fn k=0
 |0,_=>rfl
 |k+1,h=>by
  have h1:=fI (k:=k) fun j hj=>h j (by omega)
  unfold ej;rw[if_neg (by rw[h1];simp)];exact h k (by omega)
theorem iO{fn:Nat→Int}{k:Nat}(h:∀j,j<k→fn j=0)(hk:fn k≠0):∀ {n:Nat},k<n→ej fn n=fn k
 |0,hn=>absurd hn (by omega)
 |n+1,hn=>by
  by_cases e:k=n
  ·subst e;unfold ej;rw[if_neg (by rw[fI h];simp)]
  ·have h1:=iO (n:=n) h hk (by omega);unfold ej;rw[if_pos (by rw[h1];exact hk),h1]
def fj(ps:List Fr)(k:Nat):Int:=match ps[k]? with
 |some p=>if eA p.num=false then 23 else if(ps.take k).any (fun x=>x.num == p.num)=true then 5 else dj ⟨p.den,[]⟩ true false
 |none=>0
def gZ(ps:List Fr):Nat→Int
 |0=>0
 |k+1=>gZ ps k+valI ((ps[k]?.map (·.den)).getD [])
def jw(ps:List Fr)(qty:Bs):Int:=if 64<ps.length then 4 else if ej (fj ps) ps.length≠0 then ej (fj ps) ps.length else if 0<cmpI (gZ ps ps.length) (valI qty) then 15 else 0
structure PicksP (ps:List Fr) (qty:Bs) (e:Int):Prop where
 long:64<ps.length→e=4
 hit:¬ 64<ps.length→∀k,k<ps.length→(∀j,j<k→fj ps j=0)→fj ps k≠0→e=fj ps k
 short:¬ 64<ps.length→(∀j,j<ps.length→fj ps j=0)→0<cmpI (gZ ps ps.length) (valI qty)→e=15
 ok:¬ 64<ps.length→(∀j,j<ps.length→fj ps j=0)→¬ 0<cmpI (gZ ps ps.length) (valI qty)→e=0
theorem DU(ps:List Fr)(qty:Bs):PicksP ps qty (jw ps qty):=by
 refine⟨fun a=>?_,fun a k hk b c=>?_,fun a b c=>?_,fun a b c=>?_⟩
 ·unfold jw;rw[if_pos a]
 ·unfold jw;rw[if_neg a,if_pos (by rw[iO b c hk];exact c),iO b c hk]
 ·unfold jw;rw[if_neg a,if_neg (by rw[fI b];simp),if_pos c]
 ·unfold jw;rw[if_neg a,if_neg (by rw[fI b];simp),if_neg c]
structure PickP (ps:List Fr) (k:Nat) (p:Fr) (e:Int):Prop where
 a:eA p.num=false→e=23
 b:eA p.num=true→(ps.take k).any (fun x=>x.num == p.num)=true→e=5
 c:eA p.num=true→(ps.take k).any (fun x=>x.num == p.num)=false→e=dj ⟨p.den,[]⟩ true false
theorem Fb{ps:List Fr}{k:Nat}(hk:k<ps.length):PickP ps k (ps[k]'hk) (fj ps k):=by
 unfold fj;rw[List.getElem?_eq_getElem hk];dsimp only;refine⟨fun a=>?_,fun a b=>?_,fun a b=>?_⟩
 ·rw[if_pos a]
 ·rw[if_neg (by rw[a];simp),if_pos b]
 ·rw[if_neg (by rw[a];simp),if_neg (by rw[b];simp)]
theorem rc{ps:List Fr}{k:Nat}(hk:k<ps.length):gZ ps (k+1)=gZ ps k+valI (ps[k]'hk).den:=by
 show gZ ps k+_=_;rw[List.getElem?_eq_getElem hk];rfl
theorem uR{ps:List Fr}{L:Nat}(h:∀p ∈ ps,p.den.length≤L):∀k,k≤ps.length→(gZ ps k).natAbs<10 ^ (L+k)
 |0,_=>by
  show(0:Int).natAbs<_;exact Nat.pow_pos (by decide)
 |k+1,hk=>by
  rw[rc (by omega)];have h1:=uR h k (by omega);have h2:(valI (ps[k]'(by omega)).den).natAbs<10 ^ (L+k):=aF (by have:=h _ (List.getElem_mem (show k<ps.length by omega));omega);exact Nat.lt_of_le_of_lt (Int.natAbs_add_le _ _) (gV h1 h2)
abbrev DV(p:Fr):Value := .agg #[.string (bs p.num),.string (bs p.den)]
theorem iM.take{w:World}{A:Option Addr}{fs:List Fr}(h:iM w A fs)(k:Nat)(hk:k≤fs.length):iM w A (fs.take k):=by
 have hl:(fs.take k).length=k:=by rw[List.length_take];omega
 refine⟨ox dB 2 gJ _,fun h0=>?_⟩;obtain⟨b,o,e,hb,hc⟩:=h.2 (by omega);refine⟨b,o,e,hb,fun j u hu=>hc j u ?_⟩;have e2:fs.flatMap dB=(fs.take k).flatMap dB++(fs.drop k).flatMap dB:=by rw[←List.flatMap_append,List.take_append_drop]
 unfold pt at hu ⊢;rw[e2,List.getElem?_append_left (List.getElem?_eq_some_iff.1 hu).1];exact hu
theorem zY(kf:Nat)(cb:Array Value)(ek:∀args w,(callFunc kf args).run Tryz.prog w = .ok (.enter kf args) w)(p:Fr→Bool)(ls:List Fr)(A:Option Addr)(c:Nat)(w:World)(hA:iM w A ls)(hn:ls.length≤1000000)
  (hF:∀x ∈ ls,∀W,Ext w W→Calls Tryz.prog kf (#[DV x]++cb) W fun e w'=>e = .returned (.bool (p x))∧Ext W w') :
  Calls Tryz.prog 278 #[.slice A ls.length c,.func (.func kf) #[] cb] w fun e w'=>e = .returned (.int .i64 (eL p ls))∧Ext w w':=by
 have HA:=qh hA;have HF:=qh hF;clear hA hF;go_enter Tryz.func278,Tryz.ntmps278;go_wp2_with fail;go_loopw [8,5] (fun i _ wr=>∃k:Nat,k≤ls.length∧i = .int .i64 k∧(∀x ∈ ls.take k,p x=false)∧Ext w wr) (fun i _ _=>ls.length-(intOf i).toNat)
 case atStart=>exact⟨0,by omega,rfl,by simp,Ext.refl _⟩
 case round =>
  obtain⟨k,hk,rfl,hz,hx⟩:=hrel;have HZ:=qh hz;have HX:=qh hx;clear hz hx;by_cases hlt:k<ls.length
  ·obtain⟨b,o,rfl,hb,c0,c1⟩:=(HA.out.ext HX.out).at_ hlt;have HC:=qh (HF.out (ls[k]'hlt) (List.getElem_mem _));have HN:Hid (p (ls[k]'hlt)=false→∀x ∈ ls.take (k+1),p x=false):=qh (fun h=>oC hlt HZ.out h);have HI:Hid (p (ls[k]'hlt)=true→eL p ls=k):=qh (fun h=>pT hlt HZ.out h);generalize (ls[k]'hlt)=x at *;go_wp2_with fail;refine(HC.out _ HX.out).mono ?_;rintro e w1⟨rfl,hx1⟩;replace HX:=HX.qt hx1;clear hx1
   cases hp:p x
   ·have HN1:=qh (HN.out hp);clear hp;go_wp2_with fail;go_roundw
    case rel=>exact⟨k+1,by omega,by go_num,HN1.out,HX.out⟩
    case measure=>simp[intOf];omega
   ·have HI1:=qh (HI.out hp);clear hp;go_wp2_with fail;go_ret;exact⟨by rw[HI1.out];rfl,HX.out⟩
  ·have HI:Hid (eL p ls = -1):=qh (oB (by have:=HZ.out;rwa[List.take_of_length_le (by omega)]at this));go_wp2_with fail;go_ret;exact⟨by rw[HI.out];rfl,HX.out⟩
theorem xO(kf:Nat)(cb:Array Value)(ek:∀args w,(callFunc kf args).run Tryz.prog w = .ok (.enter kf args) w)(p:Fr→Bool)(ls:List Fr)(A:Option Addr)(c:Nat)(w:World)(hA:iM w A ls)(hn:ls.length≤1000000)
  (hF:∀x ∈ ls,∀W,Ext w W→Calls Tryz.prog kf (#[DV x]++cb) W fun e w'=>e = .returned (.bool (p x))∧Ext W w') :
  Calls Tryz.prog 219 #[.slice A ls.length c,.func (.func kf) #[] cb] w fun e w'=>e = .returned (.bool (ls.any p))∧Ext w w':=by
 have HI:=qh (zY kf cb ek p ls A c w hA hn hF);have HZ:Hid (decide (0≤eL p ls)=ls.any p):=qh (uL p ls);generalize ls.any p=b at *;generalize eL p ls=z at *;clear hA hF;go_enter Tryz.func219,Tryz.ntmps219;go_wp2_with fail;refine HI.out.mono ?_;rintro e w1⟨rfl,hx1⟩;have HX:=qh hx1;clear hx1;go_wp2_with fail;go_ret;exact⟨by rw[←HZ.out];rfl,HX.out⟩
theorem nv{w w':World}{g:Nat}{x y:Value}(h:Blk w g 165 #[x,y])(hx:Ext w w'):w'.cell? ⟨g,0,none⟩=some x∧w'.cell? ⟨g,1,none⟩=some y:=by
 have k:=h.ext hx;have h0:=k.cell 0;have h1:=k.cell 1;simp only[List.getElem?_toArray,List.getElem?_cons_zero,List.getElem?_cons_succ]at h0 h1;exact⟨h0,h1⟩
theorem Co(x:Fr)(G:Nat)(lt qt:Bs)(w:World)(hB:Blk w G 165 #[.string (bs lt),.string (bs qt)]) :
  Calls Tryz.prog 220 #[DV x,.pointer (some ⟨G,0,none⟩)] w fun e w'=>e = .returned (.bool (x.num == lt))∧Ext w w':=by
 have HX:Hid (Ext w (w.alloc (.cells #[.string (bs x.num),.string (bs x.den)] 165))):=qh (Ext.new _ _);have HB:=qh (Blk.new w 165 #[.string (bs x.num),.string (bs x.den)]);have HG:=qh (hB.ext HX.out);have c0:=HB.out.cell 0;have c1:=HG.out.cell 0;simp only[List.getElem?_toArray,List.getElem?_cons_zero]at c0 c1;clear hB;go_enter Tryz.func220,Tryz.ntmps220;go_wp2_with fail;go_ret;exact⟨rfl,HX.out⟩
theorem Ii(q:Bs)(h1:q.length≤9000)(pos:Bool)(g1 g2:Nat)(w:World)(hE:Env w)(b1:Blk w g1 4 #[.bool pos])(b2:Blk w g2 4 #[.bool false]) :
  Calls Tryz.prog 216 #[.agg #[.string (bs q),.string ⟨#[]⟩],.pointer (some ⟨g1,0,none⟩),.pointer (some ⟨g2,0,none⟩)] w fun e w'=>e = .returned (.int .i64 (ce ⟨q,[]⟩ pos))∧Ext w w':=vX ⟨q,[]⟩ h1 (by simp) pos g1 g2 w hE b1 b2
theorem Cp(f:FactV)(O:Value)(ps:List Fr)(A:Option Addr)(c:Nat)(w:World)(hA:iM w A ps)(hs:∀p ∈ ps,p.num.length≤9000∧p.den.length≤9000)(hn:ps.length≤100000)(hc:ps.length≤c)(hq:f.qty.length≤9000)(hE:Env w) :
  Calls Tryz.prog 156 #[aB f (ac A ps.length c) O] w fun e w'=>e = .returned (.int .i64 (jw ps f.qty))∧Ext w w':=by
 have HE:=qh hE;have HA:=qh hA;have HS:=qh hs;have hp:=DU ps f.qty;have P1:=qh hp.long;have P2:=qh hp.hit;have P3:=qh hp.short;have P4:=qh hp.ok;generalize jw ps f.qty=res at *;have HB:=qh (Blk.new w 30 (af f (ac A ps.length c) O));have HX:Hid (Ext w (w.alloc (.cells (af f (ac A ps.length c) O) 30))):=qh (Ext.new _ _);have HQ:=qh hq;clear hA hs hp hq hE;go_enter Tryz.func156,Tryz.ntmps156;obtain⟨-,-,-,-,-,-,-,-,-,x9,-,-,-,-,-,-,-,-,x18,-⟩:=ae HB.out (Ext.refl _);by_cases h64:64<ps.length
 ·have g:decide ((64:Int)<(ps.length:Int))=true:=by rw[decide_eq_true_iff];omega
  have e0:=P1.out h64;subst e0;clear P1 P2 P3 P4;go_wp2_with fail;go_ret;exact⟨rfl,HX.out⟩
 have g:decide ((64:Int)<(ps.length:Int))=false:=by rw[decide_eq_false_iff_not];omega
 replace P2:=qh (P2.out h64);replace P3:=qh (P3.out h64);replace P4:=qh (P4.out h64)
 have HL:Hid (∀k,k≤ps.length→(ofI (gZ ps k)).length≤10000):=qh (fun k hk=>by
  have:=bu (uR (L:=9000) (fun p hp=>(HS.out p hp).2) k hk);omega)
 clear P1 x9;have hqs:(bs [])=⟨#[]⟩:=rfl;have H0:Hid (ofI (gZ ps 0)=[]):=qh (dr.2 rfl);go_wp2_with fail;generalize w.alloc (.cells (af f (ac A ps.length c) O) 30)=W0 at *;generalize hgx:w.heap.size=gx at *;clear x18 g h64;go_loopw [14,3,4,5,6] (fun i s _ _ _ wr=>∃k:Nat,k≤ps.length∧i = .int .i64 k∧s = .string (bs (ofI (gZ ps k)))∧(∀j,j<k→fj ps j=0)∧Ext W0 wr) (fun i _ _ _ _ _=>ps.length-(intOf i).toNat)
 case atStart=>exact⟨0,by omega,rfl,by rw[H0.out];rfl,fun j hj=>absurd hj (by omega),Ext.refl _⟩
 case round =>
  obtain⟨k,hk,rfl,rfl,hz,hx⟩:=hrel;replace HX:=HX.qt hx;replace HB:=qh (HB.out.ext hx);have HLo:=qh hx;have HZ:=qh hz;clear hx hz;by_cases hlt:k<ps.length
  ·obtain⟨b,o,rfl,hb,c0,c1⟩:=(HA.out.ext HX.out).at_ hlt;have hsz:=HS.out _ (List.getElem_mem hlt);have pk:=Fb hlt;have K1:=qh pk.a;have K2:=qh pk.b;have K3:=qh pk.c;have HT:=qh (rc hlt);have HHit:Hid (fj ps k≠0→res=fj ps k):=qh (P2.out k hlt HZ.out)
   have HNx:Hid (fj ps k=0→∀j,j<k+1→fj ps j=0):=qh (fun h j hj=>by
    by_cases e:j=k
    ·subst e;exact h
    ·exact HZ.out j (by omega))
   have LOT:=qh (Fa (ps[k]'hlt).num (by omega));have HLM:=qh (fun g1 g2 W hE b1 b2=>Ii (ps[k]'hlt).den hsz.2 true g1 g2 W hE b1 b2);have ADD:=qh (fS (ofI (gZ ps k)) (ps[k]'hlt).den (by have:=HL.out k hk;omega) (by omega));rw[ag,←HT.out]at ADD;have hki:(k:Int)<(ps.length:Int):=by omega
   have hk0:(0:Int)≤(k:Int):=by omega
   have HTK:=qh ((HA.out).take k hk);have hlk:(ps.take k).length=k:=by rw[List.length_take];omega
   clear pk HT P2 P3 P4 HL;generalize fj ps k=pe at *;generalize hs1:gZ ps (k+1)=s1 at *;have HS1:=qh hs1;clear hs1;generalize ps[k]'hlt=y at *;obtain⟨lt,qt⟩:=y;dsimp only at c0 c1 hsz K1 K2 K3 LOT HLM ADD;have HG:=qh (Blk.new wr 165 #[.string (bs lt),.string (bs qt)]);replace HX:=qh (HX.out.alloc (.cells #[.string (bs lt),.string (bs qt)] 165));replace HLo:=qh (HLo.out.alloc (.cells #[.string (bs lt),.string (bs qt)] 165));replace HB:=qh (HB.out.alloc (.cells #[.string (bs lt),.string (bs qt)] 165));go_upto_region 7 with fail;generalize hG4:wr.heap.size=G4 at *;generalize wr.alloc (.cells #[.string (bs lt),.string (bs qt)] 165)=W4 at *;clear c0 c1 hb;obtain⟨p0,p1⟩:=nv HG.out (Ext.refl _);go_wp2_with fail;refine(LOT.out _ (HE.out.ext HX.out)).mono ?_;rintro e W5⟨rfl,hx1⟩;replace HX:=HX.qt hx1;replace HLo:=HLo.qt hx1;replace HB:=qh (HB.out.ext hx1);replace HG:=qh (HG.out.ext hx1);clear hx1 p0 p1 LOT;obtain⟨p0,p1⟩:=nv HG.out (Ext.refl _);generalize eA lt=id1 at *
   cases id1
   ·have e0:=K1.out (by trivial);have e1:=HHit.out (by rw[e0];decide);rw[e0]at e1;subst e1;clear K1 K2 K3 HHit HNx HLM ADD;go_wp2_with fail;go_ret;exact⟨rfl,HX.out⟩
   have CT:=qh (xO 220 #[.pointer (some ⟨G4,0,none⟩)] (fun _ _=>by rfl) (fun x=>x.num == lt) (ps.take k) (some ⟨b,o,none⟩) c W5 (HTK.out.ext HX.out) (by rw[hlk];omega) (fun x _ W hx=>Co x G4 lt qt W (HG.out.ext hx)));rw[hlk]at CT;replace K2:=qh (K2.out (by trivial));replace K3:=qh (K3.out (by trivial));rw[pm]at K3;generalize (ps.take k).any (fun x=>x.num == lt)=an at *;obtain⟨-,-,-,-,-,-,-,-,-,-,-,-,-,-,-,-,-,-,x18,-⟩:=ae HB.out (Ext.refl _);clear hlk;have hkc:(k:Int)≤(c:Int):=by omega
   go_wp2_with fail;refine CT.out.mono ?_;rintro e W6⟨rfl,hx1⟩;replace HX:=HX.qt hx1;replace HLo:=HLo.qt hx1;replace HB:=qh (HB.out.ext hx1);replace HG:=qh (HG.out.ext hx1);clear hx1 p0 p1 CT x18 K1;obtain⟨p0,p1⟩:=nv HG.out (Ext.refl _)
   cases an;rotate_left
   ·have e0:=K2.out (by trivial);have e1:=HHit.out (by rw[e0];decide);rw[e0]at e1;subst e1;clear K2 K3 HHit HNx HLM ADD;go_wp2_with fail;go_ret;exact⟨rfl,HX.out⟩
   have e0:=K3.out (by trivial);clear K2 K3;generalize ce ⟨qt,[]⟩ true=le at *;subst e0;go_upto_region 11 with fail;have HD:Hid (Ext W6 W6.drew):=qh (Ext.refl W6).drew
   go_region_held3 (fun w'=>w'.cell? ⟨G4,1,none⟩=some (.string (bs qt)))
    (go_keep)
    (first
     |(go_at_call 150;((with_reducible refine(d6 true false _).mono ?_);rintro e w5⟨rfl,hb1,hb2,hx5⟩);(replace HD:=HD.qt hx5);(have HB1:Hid (Blk w5 W6.heap.size 4 #[.bool true]):=qh hb1);(have HB2:Hid (Blk w5 (W6.heap.size+1) 4 #[.bool false]):=qh hb2);(obtain⟨p0,p1⟩:=nv HG.out HD.out);clear hx5 hb1 hb2)
     |(go_at_call 221;((with_reducible refine(nt qt _).mono ?_);rintro e w6⟨rfl,hx6⟩);(replace HD:=HD.qt hx6);(replace HB1:=qh (HB1.out.ext hx6));(replace HB2:=qh (HB2.out.ext hx6));(obtain⟨p0,p1⟩:=nv HG.out HD.out);clear hx6)
     |(go_at_call 216;((with_reducible refine(HLM.out _ _ _ (HE.out.ext (HX.out.trans HD.out)) HB1.out HB2.out).mono ?_);rintro e w7⟨rfl,hx7⟩);(replace HD:=HD.qt hx7);(obtain⟨p0,p1⟩:=nv HG.out HD.out);clear hx7)
     |fail)
   all_goals
    replace HX:=qh (HX.out.trans HD.out);replace HLo:=qh (HLo.out.trans HD.out);replace HB:=qh (HB.out.ext HD.out);clear HB1 HB2 HLM HG HD;by_cases yl:pe=0
    ·have hz1:=qh (HNx.out yl);subst yl;clear HHit HNx;go_wp2_with fail;refine(ADD.out _ (HE.out.ext HX.out)).mono ?_;rintro e W8⟨rfl,hx1⟩;replace HX:=HX.qt hx1;replace HLo:=HLo.qt hx1;clear hx1 ADD;go_wp2_with fail;exact⟨⟨k+1,by omega,by go_num,by rw[HS1.out],hz1.out,HLo.out⟩,by simp[intOf];omega⟩
    ·have e1:=HHit.out yl;have g5:(pe != 0)=true:=by rw[bne_iff_ne];exact yl
     subst e1;clear HHit HNx ADD;go_wp2_with fail;go_ret;exact⟨rfl,HX.out⟩
  ·obtain rfl:k=ps.length:=by omega
   have CMP:=qh (cmpP (ofI (gZ ps ps.length)) f.qty (by have:=HL.out ps.length (Nat.le_refl _);omega) (by have:=HQ.out;omega));rw[ag]at CMP;replace P3:=qh (P3.out HZ.out);replace P4:=qh (P4.out HZ.out);generalize cmpI (gZ ps ps.length) (valI f.qty)=cq at *;have hki:¬ ((ps.length:Int)<(ps.length:Int)):=by omega
   obtain⟨_,_,_,_,_,_,_,_,_,x9,_,_,_,_,_,_,_,_,_,_,_⟩:=ae HB.out (Ext.refl _);clear P2 HL hk hlt HZ;go_wp2_with fail;refine(CMP.out _ (HE.out.ext HX.out)).mono ?_;rintro e W8⟨rfl,hx1⟩;replace HX:=HX.qt hx1;clear hx1 CMP;by_cases yq:0<cq
   ·have g5:decide (0<cq)=true:=decide_eq_true yq;have e1:=P3.out yq;subst e1;clear P3 P4;go_wp2_with fail;go_ret;exact⟨rfl,HX.out⟩
   ·have g5:decide (0<cq)=false:=decide_eq_false yq;have e1:=P4.out (by omega);subst e1;clear P3 P4;go_wp2_with fail;go_ret;exact⟨rfl,HX.out⟩
end
section
open Go.RowKit
attribute [local go_sem] size_bs toList_bs
theorem zZ:aj ⟨[],[]⟩=0:=by
 have:=fE 0;rwa[ma]at this
theorem wj{fn:Func}{a b:Tmp}(h:fn.results=#[.tmp a,.cell b 26])(tmps:Array Value)(w:World)(g:Nat)(x y z:Value)(hz:tmps.getD a undef=z)(ha:tmps.getD b undef = .pointer (some ⟨g,0,none⟩))(hb:Blk w g 26 #[x,y]) :
  (results fn tmps).run Tryz.prog w = .ok (.tuple #[z,.agg #[x,y]]) w:=by
 obtain⟨q0,q1,_,_⟩:=ah hb (Ext.refl _);unfold results;rw[h];simp only[List.mapM_toArray,List.mapM_cons,List.mapM_nil,ha,hz];go_simp
theorem gK{fn:Func}{a b c:Tmp}(h:fn.results=#[.tmp a,.cell b 26,.tmp c])(tmps:Array Value)(w:World)(g:Nat)(x y z u:Value)(hz:tmps.getD a undef=z)(ha:tmps.getD b undef = .pointer (some ⟨g,0,none⟩))(hu:tmps.getD c undef=u)(hb:Blk w g 26 #[x,y]) :
  (results fn tmps).run Tryz.prog w = .ok (.tuple #[z,.agg #[x,y],u]) w:=by
 obtain⟨q0,q1,_,_⟩:=ah hb (Ext.refl _);unfold results;rw[h];simp only[List.mapM_toArray,List.mapM_cons,List.mapM_nil,ha,hz,hu];go_simp
def cD(p:Fr)(q:Bs):Int:=cj (aj p*((valI q:Int):Rat))
theorem kx{p:Fr}{q:Bs}{L:Nat}(h0:0<L)(h1:p.num.length≤L)(h2:p.den.length≤L)(hq:q.length≤L):QB (L+L) (aj p*((valI q:Int):Rat)):=(fm h1 h2 h0).mul (lH h0 (aF hq))
theorem mt{L:Nat}(h0:0<L)(hL:L≤9000)(p:Fr)(q:Bs)(h1:p.num.length≤L)(h2:p.den.length≤L)(hq:q.length≤L):bc 30 #[fv p,.string (bs q)] (.string (bs (ofI (cD p q)))):=by
 intro w hE;have HE:=qh hE;have qq:=lH h0 (aF hq);have l1:=qq.num_len;have l2:=qq.den_len;have qv:=kx h0 h1 h2 hq;have l3:=qv.num_len;have l4:=qv.den_len;have m:=pV p (bz ((valI q:Int):Rat)) (by omega) (by omega) (by omega) (by omega);rw[fE]at m;have r:=zn (bz (aj p*((valI q:Int):Rat))) (by omega) (by omega);rw[fE,show cj (aj p*((valI q:Int):Rat))=cD p q from rfl]at r;have O:=qh (o8 q (by omega));have M:=qh m;have R:=qh r;generalize ofI (cD p q)=z at *;generalize bz (aj p*((valI q:Int):Rat))=fp at *;generalize bz ((valI q:Int):Rat)=fq at *;obtain⟨n1,e1⟩:=p;clear m r qq l1 l2 l3 l4 qv hE h1 h2 hq h0 hL;have HB:=qh (Blk.new w 26 #[.string (bs n1),.string (bs e1)]);have HX:Hid (Ext w (w.alloc (.cells #[.string (bs n1),.string (bs e1)] 26))):=qh (Ext.new _ _);have HD:Hid (Ext w (w.alloc (.cells #[.string (bs n1),.string (bs e1)] 26)).drew):=qh HX.out.drew;have HBD:=qh HB.out.drew;go_enter Tryz.func30,Tryz.ntmps30;go_upto_region 1 with fail;go_cut [5] (fun p5 wx=>p5 = .string (bs z)∧Ext w wx)
 case first =>
  obtain⟨r0,r1,_,_⟩:=ah HB.out (Ext.refl _)
  go_region_held3 (fun w'=>w'.cell? ⟨w.heap.size,0,none⟩=some (.string (bs n1))∧w'.cell? ⟨w.heap.size,1,none⟩=some (.string (bs e1)))
   (go_keep)
   (first
    |(go_at_call 36;((with_reducible refine(O.out _ (HE.out.ext HD.out)).mono ?_);rintro e w4⟨rfl,hx⟩);(replace HD:=HD.qt hx);(replace HBD:=qh (HBD.out.ext hx));(obtain⟨y0,y1,_,_⟩:=ah HBD.out (Ext.refl _));clear hx O)
    |(go_at_call 38;((with_reducible refine(M.out _ (HE.out.ext HD.out)).mono ?_);rintro e w5⟨rfl,hx⟩);(replace HD:=HD.qt hx);(replace HBD:=qh (HBD.out.ext hx));(obtain⟨z0,z1,_,_⟩:=ah HBD.out (Ext.refl _));clear hx M)
    |(go_at_call 83;((with_reducible refine(R.out _ (HE.out.ext HD.out)).mono ?_);rintro e w6⟨rfl,hx⟩);(replace HD:=HD.qt hx);(replace HBD:=qh (HBD.out.ext hx));(obtain⟨x0,x1,_,_⟩:=ah HBD.out (Ext.refl _));clear hx R))
  all_goals (go_wp2_with fail;go_meet;exact⟨rfl,HD.out⟩)
 case rest =>
  obtain⟨rfl,hx⟩:=hcut;have HXE:=qh hx;clear hx;go_wp2_with fail;go_ret;exact⟨rfl,HXE.out⟩
theorem DW(f:Fr)(h1:f.num.length≤19000)(h2:f.den.length≤19000):bc 173 #[fv f] (.int .i64 (bN (aj f) 0)):=by
 intro w hE;have HE:=qh hE;have c:=lL f ⟨[],[]⟩ (by omega) (by omega) (by simp) (by simp);rw[zZ]at c;have C:=qh c;generalize bN (aj f) 0=k at *;obtain⟨n1,e1⟩:=f;clear c hE h1 h2;have HB:=qh (Blk.new w 26 #[.string (bs n1),.string (bs e1)]);have HX:Hid (Ext w (w.alloc (.cells #[.string (bs n1),.string (bs e1)] 26))):=qh (Ext.new _ _);go_enter Tryz.func173,Tryz.ntmps173;obtain⟨r0,r1,_,_⟩:=ah HB.out (Ext.refl _);go_wp2_with fail;refine(C.out _ (HE.out.ext HX.out)).mono ?_;rintro e v1⟨rfl,hx1⟩;replace HX:=HX.qt hx1;clear hx1;go_wp2_with fail;go_ret;exact⟨rfl,HX.out⟩
end
end Go.Proofs.YthgpheopnhajaaaGreatDoor
