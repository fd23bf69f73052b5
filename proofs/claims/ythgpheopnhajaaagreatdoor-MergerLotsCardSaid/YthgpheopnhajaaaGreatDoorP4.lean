/- The seat's texts, part P4. -/
import Derived.Test.YthgpheopnhajaaaGreatDoorP0
import Derived.Test.YthgpheopnhajaaaGreatDoorP1
import Derived.Test.YthgpheopnhajaaaGreatDoorP2
import Derived.Test.YthgpheopnhajaaaGreatDoorP3
import Derived.Lib.AppendIntMem
import Derived.Lib.OthersKept
import Derived.Test.YthgpheopnhajaaaGreatDoorProg
import Derived.Laws.Runes
import Derived.IntWalk
import Derived.BigQuiet
import Derived.Deep.RegionHeld3
set_option maxRecDepth 100000
set_option maxHeartbeats 8000000
namespace Go.Proofs.YthgpheopnhajaaaGreatDoor
section
open Go.RowKit Go.Lib Go.Sort
theorem fmtIn(u:Nat)(hu64:u<9223372036854775808)(w:World)(hE:Env w) :
  Calls Tryz.prog 208 #[.int .u64 u,.int .i64 10] w fun e w'=>e = .returned (.string (bs (Lib.decDigits u)))∧Ext w w':=by
 by_cases hs:u<100
 ·go_enter Tryz.func208,Tryz.ntmps208;go_wp2_with fail;refine(Tryz.internal_strconv_small u hs _).mono ?_;rintro e w'⟨rfl,rfl⟩;go_wp2_with fail;go_ret;exact⟨rfl,Ext.refl _⟩
 ·have hu1:1≤u:=by omega
  have hu:u<18446744073709551616:=by omega
  have hnd20:Lib.nDigits u≤20:=by have:=Lib.numDigits_eq u hu1 hu;split at this <;> omega
  have hH0:=Lib.holds_zero0 w 254 (Lib.nDigits u) (by omega);have hfmt:=Tryz.internal_strconv_formatBase10 w.heap.size 0 24 u (Array.replicate (Lib.nDigits u) 0) (w.alloc (.cells Lib.zeros24 254)) hH0 (by rw[Array.size_replicate];exact Lib.lt_pow_nDigits u) hu (by rw[Array.size_replicate];omega);rw[Array.size_replicate]at hfmt;have HH0:=Lib.hid hH0;have HF:=Lib.hid hfmt;have HT:=Lib.hid (Lib.tabIs_alloc hE.tab (.cells Lib.zeros24 254));clear hH0 hfmt;have hal:Tryz.prog.arrayLen 254=24:=by kernel_rfl
  have hsl:∀W,(Instr.sliceAt 254 (.pointer (some ⟨w.heap.size,0,none⟩)) none (some (.int .i64 (Lib.nDigits u:Int))) none).run Tryz.prog W = .ok (.slice (some ⟨w.heap.size,0,none⟩) (Lib.nDigits u) 24) W:=fun W=>by
   rw[run_sliceAt_array_h W 254 ⟨w.heap.size,0,none⟩ (by simp[Program.arrayLen,Program.elem,Tryz.underlying254]) .i64 (Lib.nDigits u:Int) (by omega) (by rw[hal];omega)];rw[hal,Int.toNat_natCast,show Tryz.prog.elem 254=5 from by kernel_rfl,Tryz.sizeOf5];simp[Result.andThen,slicedAt,Addr.add]
  clear hal;go_enter Tryz.func208,Tryz.ntmps208;go_wp2_with fail;refine(Tryz.internal_strconv_numDigits u hu1 hu _ HT.out).mono ?_;rintro e w'⟨rfl,rfl⟩;go_wp2_with fail;refine HF.out.mono ?_;rintro e w'⟨rfl,k,v',dk,rfl,hF⟩
  have hcv:(convert 191 9 (.slice (some ⟨w.heap.size,0,none⟩) (Lib.nDigits u) 24)).run Tryz.prog ((putRow (fun(b:UInt8)=>Value.int .u8 (b.toNat:Int)) (w.alloc (.cells Lib.zeros24 254)) w.heap.size 0 dk).drewN k) = .ok (.string ⟨(Lib.decDigits u).toArray⟩) ((putRow (fun(b:UInt8)=>Value.int .u8 (b.toNat:Int)) (w.alloc (.cells Lib.zeros24 254)) w.heap.size 0 dk).drewN k):=by
   have h:=run_convert_bytes_back (P:=Tryz.prog) ((putRow (fun(b:UInt8)=>Value.int .u8 (b.toNat:Int)) (w.alloc (.cells Lib.zeros24 254)) w.heap.size 0 dk).drewN k) 191 9 5 ⟨w.heap.size,0,none⟩ 24 (Lib.decDigits u) Tryz.underlying191 Tryz.underlying5 Tryz.underlying9 (fun j hj=>by
    rw[Lib.row_is_numeral hF j hj,Lib.add_plain,World.cell?_drewN];exact cell?_putRow (fun(b:UInt8)=>Value.int .u8 (b.toNat:Int)) _ w.heap.size 0 _ dk HH0.out (by rw[hF.size,Array.size_replicate]) j (by rw[hF.size];rw[Lib.decDigits_length]at hj;exact hj))
   rw[Lib.decDigits_length]at h;exact h
  obtain⟨os,eo⟩:=Lib.fin_at w (.cells Lib.zeros24 254) dk k 0;have HX:Hid (Ext w ((putRow (fun(b:UInt8)=>Value.int .u8 (b.toNat:Int)) (w.alloc (.cells Lib.zeros24 254)) w.heap.size 0 dk).drewN k)):=Lib.hid (by rw[eo];exact Lib.below_grow _ w (Nat.le_refl _) k os);clear eo hF;generalize (putRow (fun(b:UInt8)=>Value.int .u8 (b.toNat:Int)) (w.alloc (.cells Lib.zeros24 254)) w.heap.size 0 dk).drewN k=W at *;go_wp2_with fail;go_ret;exact⟨rfl,HX.out⟩
theorem dec_pos(u:Nat)(h:u≠0):Lib.decDigits u=dig10 u:=by
 induction u using Nat.strongRecOn with
 |ind u ih =>
  rw[Lib.decDigits];by_cases h10:u<10
  ·rw[dif_pos h10,dig10_pos h,show u / 10=0 by omega,dig10_zero,Nat.mod_eq_of_lt h10];rfl
  ·rw[dif_neg h10,dig10_pos h,ih (u / 10) (by omega) (by omega)]
theorem dec_fmtU(u:Nat):Lib.decDigits u=fmtU u:=by
 unfold fmtU;split
 ·rename_i h;subst h;rw[Lib.decDigits];rfl
 ·exact dec_pos u (by assumption)
theorem fmtUint(u:Nat)(hu64:u<9223372036854775808)(w:World)(hE:Env w) :
  Calls Tryz.prog 138 #[.int .u64 u,.int .i64 10] w fun e w'=>e = .returned (.string (bs (fmtU u)))∧Ext w w':=by
 go_enter Tryz.func138,Tryz.ntmps138;go_wp2_with fail;refine(fmtIn u hu64 _ hE).mono ?_;rw[dec_fmtU];rintro e w'⟨rfl,hx⟩;go_wp2_with fail;go_ret;exact⟨rfl,hx⟩
end
end Go.Proofs.YthgpheopnhajaaaGreatDoor
namespace Go.Proofs
open Go.Shelf
def Tryz.lays240_ren:Go.Shelf.Ren:=⟨fun | 240=>207 | 276=>269|n=>n,fun | 70=>190 | 72=>193 | 37=>191 | 164=>278 | 75=>185 | 80=>198 | 20=>20 | 0=>0 | 3=>3 | 4=>4 | 5=>5 | 9=>9|n=>n,fun|n=>n⟩
def Tryz.lays166_ren:Go.Shelf.Ren:=⟨fun | 166=>137 | 240=>207 | 276=>269|n=>n,fun | 70=>190 | 72=>193 | 37=>191 | 164=>278 | 75=>185 | 80=>198 | 20=>20 | 0=>0 | 3=>3 | 4=>4 | 5=>5 | 9=>9|n=>n,fun|n=>n⟩
theorem Tryz.lays166:Go.Proofs.Lays.n166 Tryz.prog Tryz.lays166_ren:={
 mixed:=by kernel_rfl
 f166:=Tryz.func137.trans (congrArg some (by kernel_rfl))
 f240:=Tryz.func207.trans (congrArg some (by kernel_rfl))
 f276:=Tryz.func269.trans (congrArg some (by kernel_rfl))
 t0:=Tryz.underlying0
 a0:=Tryz.isAgg0
 z0:=Tryz.sizeOf0
 v0:=Tryz.zeroValue0
 t3:=Tryz.underlying3
 a3:=Tryz.isAgg3
 z3:=Tryz.sizeOf3
 v3:=Tryz.zeroValue3
 t4:=Tryz.underlying4
 a4:=Tryz.isAgg4
 z4:=Tryz.sizeOf4
 v4:=Tryz.zeroValue4
 t9:=Tryz.underlying9
 a9:=Tryz.isAgg9
 z9:=Tryz.sizeOf9
 v9:=Tryz.zeroValue9
 t20:=Tryz.underlying20
 a20:=Tryz.isAgg20
 z20:=Tryz.sizeOf20
 v20:=Tryz.zeroValue20
 t37:=Tryz.underlying191
 a37:=Tryz.isAgg191
 z37:=Tryz.sizeOf191
 v37:=Tryz.zeroValue191
 t70:=Tryz.underlying190
 a70:=Tryz.isAgg190
 z70:=Tryz.sizeOf190
 v70:=Tryz.zeroValue190
 t72:=Tryz.underlying193
 a72:=Tryz.isAgg193
 z72:=Tryz.sizeOf193
 v72:=Tryz.zeroValue193
 t75:=Tryz.underlying185
 a75:=Tryz.isAgg185
 z75:=Tryz.sizeOf185
 v75:=Tryz.zeroValue185
 t164:=Tryz.underlying278
 a164:=Tryz.isAgg278
 z164:=Tryz.sizeOf278
 v164:=Tryz.zeroValue278
}
def Tryz.lays167_ren:Go.Shelf.Ren:=⟨fun | 167=>136 | 240=>207 | 276=>269|n=>n,fun | 70=>190 | 72=>193 | 37=>191 | 164=>278 | 75=>185 | 80=>198 | 20=>20 | 0=>0 | 3=>3 | 4=>4 | 5=>5 | 9=>9|n=>n,fun|n=>n⟩
theorem Tryz.lays167:Go.Proofs.Lays.n167 Tryz.prog Tryz.lays167_ren:={
 mixed:=by kernel_rfl
 f167:=Tryz.func136.trans (congrArg some (by kernel_rfl))
 f240:=Tryz.func207.trans (congrArg some (by kernel_rfl))
 f276:=Tryz.func269.trans (congrArg some (by kernel_rfl))
 t0:=Tryz.underlying0
 a0:=Tryz.isAgg0
 z0:=Tryz.sizeOf0
 v0:=Tryz.zeroValue0
 t4:=Tryz.underlying4
 a4:=Tryz.isAgg4
 z4:=Tryz.sizeOf4
 v4:=Tryz.zeroValue4
 t5:=Tryz.underlying5
 a5:=Tryz.isAgg5
 z5:=Tryz.sizeOf5
 v5:=Tryz.zeroValue5
 t9:=Tryz.underlying9
 a9:=Tryz.isAgg9
 z9:=Tryz.sizeOf9
 v9:=Tryz.zeroValue9
 t20:=Tryz.underlying20
 a20:=Tryz.isAgg20
 z20:=Tryz.sizeOf20
 v20:=Tryz.zeroValue20
 t37:=Tryz.underlying191
 a37:=Tryz.isAgg191
 z37:=Tryz.sizeOf191
 v37:=Tryz.zeroValue191
 t70:=Tryz.underlying190
 a70:=Tryz.isAgg190
 z70:=Tryz.sizeOf190
 v70:=Tryz.zeroValue190
 t72:=Tryz.underlying193
 a72:=Tryz.isAgg193
 z72:=Tryz.sizeOf193
 v72:=Tryz.zeroValue193
 t75:=Tryz.underlying185
 a75:=Tryz.isAgg185
 z75:=Tryz.sizeOf185
 v75:=Tryz.zeroValue185
 t164:=Tryz.underlying278
 a164:=Tryz.isAgg278
 z164:=Tryz.sizeOf278
 v164:=Tryz.zeroValue278
}
theorem Tryz.Builder_Extra_166:Builder.Extra Tryz.prog Tryz.lays166_ren:={
 sizeBuilder:=by kernel_rfl
 liesBuilder:=by kernel_rfl
 t5:=Tryz.underlying5
 a5:=Tryz.isAgg5
 z5:=Tryz.sizeOf5
 v5:=Tryz.zeroValue5
 infoByte:=by kernel_rfl
 cellsByte:=by kernel_rfl
 sizeByte:=by kernel_rfl
 neB5:=by decide
}
theorem Tryz.Builder_Extra_167:Builder.Extra Tryz.prog Tryz.lays167_ren:={
 sizeBuilder:=by kernel_rfl
 liesBuilder:=by kernel_rfl
 t5:=Tryz.underlying5
 a5:=Tryz.isAgg5
 z5:=Tryz.sizeOf5
 v5:=Tryz.zeroValue5
 infoByte:=by kernel_rfl
 cellsByte:=by kernel_rfl
 sizeByte:=by kernel_rfl
 neB5:=by decide
}
open Go.RowKit in
theorem Tryz.Builder_WriteString_k(B b:Nat)(bs:List Value)(s:ByteArray)(w:World)(h:Lib.IsBuilderF 193 5 B b bs w)(hlen:bs.length+s.size≤140737488355328)(hBw:B≤w.heap.size) :
  Calls Tryz.prog 137 #[.pointer (some ⟨b,0,none⟩),.string s] w fun e w'=>e = .returned (.tuple #[.int .i64 s.size,.nilIface])∧(Lib.BuilderAtF 193 5 B b (.pointer (some ⟨b,0,none⟩)) (bs++Lib.strCells s) w'∧Below B w w'∧Lib.OthersKept 5 (some b) w w'):=Any.Builder_WriteString_k Tryz.lays166 Tryz.Builder_Extra_166 B b bs s w h hlen hBw
open Go.RowKit in
theorem Tryz.Builder_WriteByte_k(B b:Nat)(bs:List Value)(c:Int)(w:World)(h:Lib.IsBuilderF 193 5 B b bs w)(hlen:bs.length+1≤140737488355328)(hBw:B≤w.heap.size) :
  Calls Tryz.prog 136 #[.pointer (some ⟨b,0,none⟩),.int .u8 c] w fun e w'=>e = .returned .nilIface∧(Lib.BuilderAtF 193 5 B b (.pointer (some ⟨b,0,none⟩)) (bs++[.int .u8 c]) w'∧Below B w w'∧Lib.OthersKept 5 (some b) w w'):=Any.Builder_WriteByte_k Tryz.lays167 Tryz.Builder_Extra_167 B b bs c w h hlen hBw
end Go.Proofs
namespace Go.Proofs.YthgpheopnhajaaaGreatDoor
section
open Go.RowKit Go.Shelf
attribute [local go_sem] size_bs toList_bs extract_bs get_bs append_bs lit_append append_lit
def Bld(B b:Nat)(l:Bs)(w:World):Prop:=Lib.IsBuilderF 193 5 B b (Lib.byteCells l) w
theorem Bld.ext{B b:Nat}{l:Bs}{w w':World}(h:Bld B b l w)(hx:Ext w w'):Bld B b l w':=by
 have key:∀p,Lib.BuilderAtF 193 5 B b p (Lib.byteCells l) w→Lib.BuilderAtF 193 5 B b p (Lib.byteCells l) w':=by
  rintro p⟨hB,v,hb,hown,hne⟩
  have hlt:b<w.heap.size:=by
   rcases Nat.lt_or_ge b w.heap.size with h|h
   ·exact h
   ·rw[Array.getElem?_eq_none h]at hb;cases hb
  exact⟨hB,v,(hx.block b hlt).trans hb,hown.kept (row:=none) ⟨hx.os,hx.tape,hx.output,hx.size,fun i hi _=>hx.block i hi⟩ (by cases v.ownBlock <;> simp),hne⟩
 rcases h with h|h
 ·exact .inl (key _ h)
 ·exact .inr (key _ h)
theorem Bld.new(w:World):Bld w.heap.size w.heap.size [] (w.alloc (.cells #[.pointer none,.slice none 0 0] 193)) :=
 .inl ⟨Nat.le_refl _,.slice none 0 0,heap_alloc_new w _,World.ownsRowF_nil _ _ _ _,by simp[Value.ownBlock]⟩
end
section
open Go.RowKit
attribute [local go_sem] size_bs toList_bs extract_bs get_bs append_bs lit_append append_lit
theorem bldWrite(B b:Nat)(cur l:Bs)(w:World)(hB:Bld B b cur w)(hl:cur.length+l.length≤1000000000)(hBw:B≤w.heap.size) :
  Calls Tryz.prog 137 #[.pointer (some ⟨b,0,none⟩),.string (bs l)] w fun e w'=>e = .returned (.tuple #[.int .i64 l.length,.nilIface])∧Bld B b (cur++l) w'∧Below B w w':=by
 refine(Tryz.Builder_WriteString_k B b (Lib.byteCells cur) (bs l) w hB (by rw[Lib.byteCells_length,size_bs];omega) hBw).mono ?_;rintro e w'⟨rfl,h1,h2,_⟩
 have e:Lib.byteCells cur++Lib.strCells (bs l)=Lib.byteCells (cur++l):=by
  unfold Lib.strCells Lib.byteCells;rw[data_bs];exact List.map_append.symm
 rw[e]at h1;exact⟨by rw[size_bs],.inr h1,h2⟩
theorem bldMinus(B b:Nat)(cur:Bs)(w:World)(hB:Bld B b cur w)(hl:cur.length≤1000000000)(hBw:B≤w.heap.size) :
  Calls Tryz.prog 136 #[.pointer (some ⟨b,0,none⟩),.int .u8 45] w fun e w'=>e = .returned .nilIface∧Bld B b (cur++[45]) w'∧Below B w w':=by
 refine(Tryz.Builder_WriteByte_k B b (Lib.byteCells cur) 45 w hB (by rw[Lib.byteCells_length];omega) hBw).mono ?_;rintro e w'⟨rfl,h1,h2,_⟩
 have e:Lib.byteCells cur++[.int .u8 45]=Lib.byteCells (cur++[45]):=by
  unfold Lib.byteCells;rw[List.map_append];rfl
 rw[e]at h1;exact⟨rfl,.inr h1,h2⟩
theorem repeat_zero(k:Nat):Lib.repeatL [48] k=List.replicate k 48:=by
 induction k with
 |zero=>rfl
 |succ k ih=>rw[List.replicate_succ,←ih];simp[Lib.repeatL]
def txt(b:Bool)(n:Nat):Bs:=if n=0 then [] else if b then 45 :: dig10 n else dig10 n
theorem txt_ofI(b:Bool)(n:Nat):txt b n=ofI (sgn b n):=by
 by_cases h:n=0
 ·subst h;have e:sgn b 0=0:=by cases b <;> rfl
  rw[e,(ofI_nil_iff 0).2 rfl];rfl
 ·cases b
  ·have e:sgn false n=(n:Int):=rfl;have h2:ofI (n:Int)=dig10 n:=by unfold ofI;rw[if_neg (by omega),Int.natAbs_natCast]
   rw[e,h2];unfold txt;rw[if_neg h];rfl
  ·have e:sgn true n = -(n:Int):=rfl;have h2:ofI (-(n:Int))=45 :: dig10 n:=by unfold ofI;rw[if_pos (by omega),Int.natAbs_neg,Int.natAbs_natCast]
   rw[e,h2];unfold txt;rw[if_neg h];rfl
def preT(b:Bool):Bs:=if b then [45] else []
def TextAt(b:Bool)(top:Nat)(r:List Nat)(_w w1:World)(z:Value)(wr:World):Prop :=
 ∃k:Nat,k≤r.length∧z = .int .i64 ((k:Int)-1)∧Bld w1.heap.size w1.heap.size (preT b++fmtU top++lowT (r.drop k)) wr∧Ext w1 wr
theorem intText(b:Bool)(n:Nat)(A:Option Addr)(c:Nat)(w:World)(hA:RdU w A (gr n))(hn:(gr n).length≤1000000)(hc:(gr n).length≤c)(hm:c≤maxLen)(hE:Env w) :
  Calls Tryz.prog 80 #[.agg #[.bool b,.slice A (gr n).length c]] w fun e w'=>e = .returned (.string (bs (txt b n)))∧Ext w w':=by
 have HCUT:=Lib.hid (fun W h=>intCut (gr n) A c W h hc hm (gr_lt n));rw[cutL_gr_self]at HCUT;have HE:=Lib.hid hE;clear hE;by_cases h0:n=0
 ·subst h0;have HA:=Lib.hid hA;clear hA;rw[gr_zero]at *;go_enter Tryz.func80,Tryz.ntmps80;go_wp2_with fail;refine(HCUT.out _ (HA.out.ext (Ext.new _ _))).mono ?_;rintro e w1⟨rfl,rfl⟩;go_wp2_with fail;go_ret;exact⟨rfl,Ext.new _ _⟩
 ·obtain⟨r,top,hr⟩:∃r top,gr n=r++[top]:=by
   have:gr n≠[]:=by rw[gr_pos h0];simp
   exact⟨(gr n).dropLast,(gr n).getLast this,(List.dropLast_concat_getLast this).symm⟩
  have HT:Hid (preT b++fmtU top++lowT r=txt b n):=Lib.hid (by
   rw[List.append_assoc,text_gr hr];unfold preT txt;rw[if_neg h0];cases b <;> rfl)
  have hb:=gr_lt n;rw[hr]at hb hA hc HCUT hn ⊢;have HB:=Lib.hid (fun g (hg:g ∈ r)=>hb g (List.mem_append_left _ hg));have htop:top<1000000000:=hb top (by simp);have hrl:(r++[top]).length=r.length+1:=by simp
  rw[hrl]at hc hn HCUT ⊢;have hln:r.length≤1000000:=by omega
  have HA:=Lib.hid hA;have hft:=fmtU_len (g:=top) htop;clear hA hb hr hrl h0;go_enter Tryz.func80,Tryz.ntmps80;go_wp2_with fail;refine(HCUT.out _ (HA.out.ext (Ext.new _ _))).mono ?_;rintro e w0⟨rfl,rfl⟩;obtain⟨ab,ao,rfl,hab,hcell0⟩:=HA.out.at_ (k:=r.length) (by simp);have HCT:Hid (w.cell? ⟨ab,ao+r.length,none⟩=some (.int .u64 top)):=Lib.hid (by simpa using hcell0)
  have HCR:Hid (∀(k:Nat) (h:k<r.length),w.cell? ⟨ab,ao+k,none⟩=some (.int .u64 (r[k]'h))):=Lib.hid (fun k h=>by
   have:=Reads.cell HA.out (j:=k) (u := .int .u64 (r[k]'h)) (by rw[ucells,List.map_append,List.getElem?_append_left (by simpa using h)];simp[h]);exact this)
  clear hcell0;have HX0:Hid (Ext w (w.alloc (.cells #[.bool b,.slice (some ⟨ab,ao,none⟩) (r.length+1) c] 124))):=Lib.hid (Ext.new _ _);have HBX:=Lib.hid (blk_at w 124 #[.bool b,.slice (some ⟨ab,ao,none⟩) (r.length+1) c] w.heap.size rfl);have x0:=HBX.out.cell 0;simp only[List.getElem?_toArray,List.getElem?_cons_zero]at x0;generalize (w.alloc (.cells #[.bool b,.slice (some ⟨ab,ao,none⟩) (r.length+1) c] 124))=w1 at *;have hl1:=HBX.out.lt;have hlz:((r.length:Int)+1 == 0)=false:=by rw[beq_eq_false_iff_ne];omega
  have hab1:ab<w1.heap.size:=Nat.lt_of_lt_of_le hab HX0.out.size;have hct:=(HX0.out.cell (p:=⟨ab,ao+r.length,none⟩) hab).trans HCT.out
  cases b
  ·go_wp2_with fail;refine(fmtUint top (by omega) _ (HE.out.ext (HX0.out.trans (Ext.new _ _)))).mono ?_;rintro e w2⟨rfl,hx2⟩;have HX2:=Lib.hid hx2;clear hx2;go_wp2_with fail;refine(bldWrite w1.heap.size w1.heap.size [] (fmtU top) _ ((Bld.new w1).ext HX2.out) (by simp;omega) (HX2.out.of_alloc).size).mono ?_;rintro e w3⟨rfl,hB3,hb3⟩
   have HB3:Hid (Bld w1.heap.size w1.heap.size (preT false++fmtU top++lowT (r.drop r.length)) w3):=Lib.hid (by
    rw[List.drop_length];simpa[preT,lowT] using hB3)
   have HX3:Hid (Ext w1 w3):=Lib.hid (Below.trans (HX2.out.of_alloc) hb3);clear hB3 hb3 HX2 hct;go_wp2_with fail;go_loopw [5,6] (fun z _ wr=>TextAt false top r w w1 z wr) (fun z _ _=>(intOf z+1).toNat)
   case atStart=>exact⟨r.length,Nat.le_refl _,by first|rfl|go_num|(congr 1;omega),HB3.out,HX3.out⟩
   case round =>
    clear HB3 HX3;obtain⟨k,hk,rfl,hB,hx⟩:=hrel;have HBr:=Lib.hid hB;have HXr:=Lib.hid hx;clear hB hx;rcases Nat.eq_zero_or_pos k with h0|h0
    ·subst h0;have HB9:Hid (Bld w1.heap.size w1.heap.size (txt false n) wr):=Lib.hid (by rw[←HT.out];exact HBr.out);go_wp2_with fail;refine(Tryz.Builder_String_any_f w1.heap.size w1.heap.size (txt false n) _ HB9.out HXr.out.size).mono ?_;rintro e w6⟨rfl,_,hb6⟩;go_wp2_with fail;go_ret;exact⟨rfl,HX0.out.trans (Below.trans HXr.out hb6)⟩
    ·obtain⟨j,rfl⟩:∃j,k=j+1:=⟨k-1,by omega⟩;have hj:j<r.length:=by omega
     have hcj:=(HXr.out.cell (p:=⟨ab,ao+j,none⟩) hab1).trans ((HX0.out.cell (p:=⟨ab,ao+j,none⟩) hab).trans (HCR.out j hj));have hg:(r[j]'hj)<1000000000:=HB.out _ (List.getElem_mem hj);have HGL:=Lib.hid (fmtU_len (g:=r[j]'hj) hg)
     have HNX:Hid (preT false++fmtU top++lowT (r.drop (j+1))++(List.replicate (9-(fmtU (r[j]'hj)).length) 48++fmtU (r[j]'hj))=preT false++fmtU top++lowT (r.drop j)):=Lib.hid (by
      rw[List.drop_eq_getElem_cons hj,lowT_cons];unfold pad9;simp only[List.append_assoc])
     have HCL:Hid ((preT false++fmtU top++lowT (r.drop (j+1))).length≤9000100):=Lib.hid (by
      rw[List.length_append,List.length_append,lowT_len _ (fun g hg=>HB.out g (List.mem_of_mem_drop hg)),List.length_drop];have:(preT false).length≤1:=by decide
      omega)
     have e0:((j+1:Nat):Int)-1=(j:Int):=by omega
     rw[e0];clear e0;generalize r[j]'hj=g at *;go_wp2_with fail;refine(fmtUint g (by omega) _ (HE.out.ext (HX0.out.trans HXr.out))).mono ?_;rintro e w4⟨rfl,hx4⟩;have HX4:=Lib.hid hx4;clear hx4;have hfl:=HGL.out;generalize fmtU g=fg at *;go_wp2_with fail;refine(repeat_any [48] (9-(fg.length:Int)) _ (by omega) (by omega) (by simp)).mono ?_;rintro e w5⟨rfl,hx5⟩;have er:Lib.repeatL [48] (9-(fg.length:Int)).toNat=List.replicate (9-fg.length) 48:=by rw[repeat_zero];congr 1;omega
     rw[er];have HX5:=Lib.hid (HX4.out.trans hx5);clear hx5 er;have hrl:(List.replicate (9-fg.length) (48:UInt8)).length≤9:=by simp
     generalize hrp:List.replicate (9-fg.length) (48:UInt8)=rp at *;clear hrp;go_wp2_with fail;refine(bldWrite w1.heap.size w1.heap.size _ (rp++fg) _ (HBr.out.ext HX5.out) (by have:=HCL.out;have h2:(rp++fg).length=rp.length+fg.length:=List.length_append;omega) (Nat.le_trans HXr.out.size HX5.out.size)).mono ?_;rintro e w7⟨rfl,hB7,hb7⟩;rw[HNX.out]at hB7;have HB7:=Lib.hid hB7;have HX7:Hid (Ext w1 w7):=Lib.hid (Below.trans (HXr.out.trans HX5.out) hb7);clear hB7 hb7;go_wp2_with fail;exact⟨⟨j,by omega,by first|rfl|go_num,HB7.out,HX7.out⟩,by simp[intOf] <;> omega⟩
  ·go_wp2_with fail;refine(bldMinus w1.heap.size w1.heap.size [] _ (Bld.new w1) (by simp) (Ext.new w1 _).size).mono ?_;rintro e w2⟨rfl,hB2,hb2⟩;have HX2:Hid (Ext w1 w2):=Lib.hid (Below.trans (Ext.new w1 _) hb2);have HB2:=Lib.hid hB2;have hct2:=(HX2.out.cell (p:=⟨ab,ao+r.length,none⟩) hab1).trans hct;clear hB2 hb2 hct;go_wp2_with fail;refine(fmtUint top (by omega) _ (HE.out.ext (HX0.out.trans HX2.out))).mono ?_;rintro e w4⟨rfl,hx4⟩;have HX4:=Lib.hid hx4;clear hx4 hct2;go_wp2_with fail;refine(bldWrite w1.heap.size w1.heap.size _ (fmtU top) _ (HB2.out.ext HX4.out) (by simp;omega) (HX2.out.trans HX4.out).size).mono ?_;rintro e w3⟨rfl,hB3,hb3⟩
   have HB3:Hid (Bld w1.heap.size w1.heap.size (preT true++fmtU top++lowT (r.drop r.length)) w3):=Lib.hid (by
    rw[List.drop_length];simpa[preT,lowT] using hB3)
   have HX3:Hid (Ext w1 w3):=Lib.hid (Below.trans (HX2.out.trans HX4.out) hb3);clear hB3 hb3 HX2 HX4 HB2;go_wp2_with fail;go_loopw [5,6] (fun z _ wr=>TextAt true top r w w1 z wr) (fun z _ _=>(intOf z+1).toNat)
   case atStart=>exact⟨r.length,Nat.le_refl _,by first|rfl|go_num|(congr 1;omega),HB3.out,HX3.out⟩
   case round =>
    clear HB3 HX3;obtain⟨k,hk,rfl,hB,hx⟩:=hrel;have HBr:=Lib.hid hB;have HXr:=Lib.hid hx;clear hB hx;rcases Nat.eq_zero_or_pos k with h0|h0
    ·subst h0;have HB9:Hid (Bld w1.heap.size w1.heap.size (txt true n) wr):=Lib.hid (by rw[←HT.out];exact HBr.out);go_wp2_with fail;refine(Tryz.Builder_String_any_f w1.heap.size w1.heap.size (txt true n) _ HB9.out HXr.out.size).mono ?_;rintro e w6⟨rfl,_,hb6⟩;go_wp2_with fail;go_ret;exact⟨rfl,HX0.out.trans (Below.trans HXr.out hb6)⟩
    ·obtain⟨j,rfl⟩:∃j,k=j+1:=⟨k-1,by omega⟩;have hj:j<r.length:=by omega
     have hcj:=(HXr.out.cell (p:=⟨ab,ao+j,none⟩) hab1).trans ((HX0.out.cell (p:=⟨ab,ao+j,none⟩) hab).trans (HCR.out j hj));have hg:(r[j]'hj)<1000000000:=HB.out _ (List.getElem_mem hj);have HGL:=Lib.hid (fmtU_len (g:=r[j]'hj) hg)
     have HNX:Hid (preT true++fmtU top++lowT (r.drop (j+1))++(List.replicate (9-(fmtU (r[j]'hj)).length) 48++fmtU (r[j]'hj))=preT true++fmtU top++lowT (r.drop j)):=Lib.hid (by
      rw[List.drop_eq_getElem_cons hj,lowT_cons];unfold pad9;simp only[List.append_assoc])
     have HCL:Hid ((preT true++fmtU top++lowT (r.drop (j+1))).length≤9000100):=Lib.hid (by
      rw[List.length_append,List.length_append,lowT_len _ (fun g hg=>HB.out g (List.mem_of_mem_drop hg)),List.length_drop];have:(preT true).length≤1:=by decide
      omega)
     have e0:((j+1:Nat):Int)-1=(j:Int):=by omega
     rw[e0];clear e0;generalize r[j]'hj=g at *;go_wp2_with fail;refine(fmtUint g (by omega) _ (HE.out.ext (HX0.out.trans HXr.out))).mono ?_;rintro e w4⟨rfl,hx4⟩;have HX4:=Lib.hid hx4;clear hx4;have hfl:=HGL.out;generalize fmtU g=fg at *;go_wp2_with fail;refine(repeat_any [48] (9-(fg.length:Int)) _ (by omega) (by omega) (by simp)).mono ?_;rintro e w5⟨rfl,hx5⟩;have er:Lib.repeatL [48] (9-(fg.length:Int)).toNat=List.replicate (9-fg.length) 48:=by rw[repeat_zero];congr 1;omega
     rw[er];have HX5:=Lib.hid (HX4.out.trans hx5);clear hx5 er;have hrl:(List.replicate (9-fg.length) (48:UInt8)).length≤9:=by simp
     generalize hrp:List.replicate (9-fg.length) (48:UInt8)=rp at *;clear hrp;go_wp2_with fail;refine(bldWrite w1.heap.size w1.heap.size _ (rp++fg) _ (HBr.out.ext HX5.out) (by have:=HCL.out;have h2:(rp++fg).length=rp.length+fg.length:=List.length_append;omega) (Nat.le_trans HXr.out.size HX5.out.size)).mono ?_;rintro e w7⟨rfl,hB7,hb7⟩;rw[HNX.out]at hB7;have HB7:=Lib.hid hB7;have HX7:Hid (Ext w1 w7):=Lib.hid (Below.trans (HXr.out.trans HX5.out) hb7);clear hB7 hb7;go_wp2_with fail;exact⟨⟨j,by omega,by first|rfl|go_num,HB7.out,HX7.out⟩,by simp[intOf] <;> omega⟩
end
section
open Go.RowKit
attribute [local go_sem] size_bs toList_bs
def icells(gs:List Nat):List Value:=gs.map fun g:Nat=>Value.int .i64 (g:Int)
def RdI(w:World)(A:Option Addr)(gs:List Nat):Prop:=Reads w 1 A gs.length (icells gs)
theorem RdI.ext{w w':World}{A:Option Addr}{gs:List Nat}(h:RdI w A gs)(he:Ext w w'):RdI w' A gs:=Reads.ext h he
theorem RdI.at_{w:World}{A:Option Addr}{gs:List Nat}(h:RdI w A gs){k:Nat}(hk:k<gs.length) :
  ∃b o,A=some ⟨b,o,none⟩∧b<w.heap.size∧w.cell? ⟨b,o+k,none⟩=some (.int .i64 (gs[k]'hk)):=by
 obtain⟨b,o,rfl,hb⟩:=Reads.at_ h (by omega);exact⟨b,o,rfl,hb,Reads.cell h (by simp[icells,hk])⟩
end
section
open Go.RowKit Go.Shelf
attribute [local go_sem] size_bs toList_bs extract_bs get_bs append_bs lit_append append_lit
theorem i64Info:(Tryz.prog.info? 3).map (fun i=>(i.zero,i.size,i.bytes))=some (some (.int .i64 0),1,8):=by kernel_rfl
end
section
open Go.RowKit
attribute [local go_sem] size_bs toList_bs
theorem RdI.far{w:World}{A:Option Addr}{gs:List Nat}(h:RdI w A gs){g i:Nat}(u:Value)(hne:0<gs.length→∀b o,A=some ⟨b,o,none⟩→b≠g):RdI (w.setCell ⟨g,i,none⟩ u) A gs:=by
 refine⟨h.1,fun hn=>?_⟩;obtain⟨b,o,rfl,hb,hc⟩:=h.2 hn;have hbg:=hne hn b o rfl;refine⟨b,o,rfl,by simpa[World.setCell] using hb,fun j v hv=>?_⟩;rw[←hc j v hv];unfold World.cell?;rw[Below.heap_setCell w ⟨g,i,none⟩ u b hbg]
end
section
open Go.RowKit
attribute [local go_sem] size_bs toList_bs
theorem gr_len10{n L:Nat}(h:n<10 ^ L):(gr n).length≤L:=gr_len_le (Nat.lt_of_lt_of_le h (Nat.pow_le_pow_left (by decide) L))
theorem natOf_mag_lt(l:Bs):natOf (mag l)<10 ^ l.length:=Nat.lt_of_lt_of_le (natOf_lt (mag_all l)) (Nat.pow_le_pow_right (by decide) (mag_le l))
theorem sum_len{b b1 b2:Bool}{n x y L:Nat}(h:sgn b n=sgn b1 x+sgn b2 y)(hx:x<10 ^ L)(hy:y<10 ^ L):(gr n).length≤L+1:=by
 refine gr_len10 ?_;have hn:n≤x+y:=by unfold sgn at h;cases b <;> cases b1 <;> cases b2 <;> simp at h <;> omega
 rw[Nat.pow_succ];omega
theorem mag_pow(l:Bs){L:Nat}(h:l.length≤L):natOf (mag l)<10 ^ L:=Nat.lt_of_lt_of_le (natOf_mag_lt l) (Nat.pow_le_pow_right (by decide) h)
end
section
open Go.RowKit
attribute [local go_sem] size_bs toList_bs
theorem intAddS(a b:Bs)(w:World)(ha:a.length≤100000)(hb:b.length≤100000)(hE:Env w) :
  Calls Tryz.prog 21 #[.string (bs a),.string (bs b)] w fun e w'=>e = .returned (.string (bs (ofI (valI a+valI b))))∧Ext w w':=by
 have HR1:=Lib.hid (fun W=>intRead a W (by omega));have HR2:=Lib.hid (fun W=>intRead b W (by omega));obtain⟨L,hLa,hLb,hL⟩:∃L:Nat,a.length≤L∧b.length≤L∧L≤100000:=⟨max a.length b.length,by omega,by omega,by omega⟩;have HL1:Hid ((gr (natOf (mag a))).length≤1000000):=Lib.hid (by have:=gr_len10 (mag_pow a hLa);omega);have HL2:Hid ((gr (natOf (mag b))).length≤1000000):=Lib.hid (by have:=gr_len10 (mag_pow b hLb);omega);have HP1:=Lib.hid (mag_pow a hLa);have HP2:=Lib.hid (mag_pow b hLb);have HE:=Lib.hid hE;have HV:Hid (valI a+valI b=sgn (neg a) (natOf (mag a))+sgn (neg b) (natOf (mag b))):=Lib.hid rfl;generalize valI a+valI b=z at *;generalize natOf (mag a)=x at *;generalize natOf (mag b)=y at *;generalize neg a=ba at *;generalize neg b=bb at *;clear ha hb hLa hLb hE;go_enter Tryz.func21,Tryz.ntmps21;go_wp2_with fail;refine(HR1.out _).mono ?_;rintro e w2⟨A,c,rfl,hrd1,hx1,_,_⟩;go_wp2_with fail;refine(HR2.out _).mono ?_;rintro e w3⟨A',c',rfl,hrd2,hx2,_,_⟩;have HD1:=Lib.hid (hrd1.ext hx2);have HD2:=Lib.hid hrd2;have HX:=Lib.hid (hx1.trans hx2);clear hrd1 hrd2 hx1 hx2;go_wp2_with fail;refine(intAdd ba bb x y A A' c c' _ HD1.out HD2.out HL1.out HL2.out).mono ?_;rintro e w4⟨bs',n',A1,c1,rfl,hs,hrd,hx,hc1,hc2⟩;have HD:=Lib.hid hrd;have HX4:=Lib.hid (HX.out.trans hx);have HC:=Lib.hid (And.intro hc1 hc2);have HLN:Hid ((gr n').length≤1000000):=Lib.hid (by have:=sum_len hs HP1.out HP2.out;omega);have HS:Hid (txt bs' n'=ofI z):=Lib.hid (by rw[txt_ofI,hs,←HV.out]);clear hs hrd hx hc1 hc2;go_wp2_with fail;refine(intText bs' n' A1 c1 _ HD.out HLN.out HC.out.1 HC.out.2 (HE.out.ext HX4.out)).mono ?_;rintro e w5⟨rfl,hx5⟩;rw[HS.out];go_wp2_with fail;go_ret;exact⟨rfl,HX4.out.trans hx5⟩
theorem sgn_not(b:Bool)(n:Nat):sgn (!b) n = -(sgn b n):=by cases b <;> simp[sgn]
theorem intSub(a b:Bs)(w:World)(ha:a.length≤100000)(hb:b.length≤100000)(hE:Env w) :
  Calls Tryz.prog 27 #[.string (bs a),.string (bs b)] w fun e w'=>e = .returned (.string (bs (ofI (valI a-valI b))))∧Ext w w':=by
 have HR1:=Lib.hid (fun W=>intRead a W (by omega));have HR2:=Lib.hid (fun W=>intRead b W (by omega));obtain⟨L,hLa,hLb,hL⟩:∃L:Nat,a.length≤L∧b.length≤L∧L≤100000:=⟨max a.length b.length,by omega,by omega,by omega⟩;have HL1:Hid ((gr (natOf (mag a))).length≤1000000):=Lib.hid (by have:=gr_len10 (mag_pow a hLa);omega);have HL2:Hid ((gr (natOf (mag b))).length≤1000000):=Lib.hid (by have:=gr_len10 (mag_pow b hLb);omega);have HP1:=Lib.hid (mag_pow a hLa);have HP2:=Lib.hid (mag_pow b hLb);have HE:=Lib.hid hE;have HV:Hid (valI a-valI b=sgn (neg a) (natOf (mag a))+sgn (!neg b) (natOf (mag b))):=Lib.hid (by rw[sgn_not];exact Int.sub_eq_add_neg);generalize valI a-valI b=z at *;generalize natOf (mag a)=x at *;generalize natOf (mag b)=y at *;generalize neg a=ba at *;generalize neg b=bb at *;clear ha hb hLa hLb hE;go_enter Tryz.func27,Tryz.ntmps27;go_wp2_with fail;refine(HR2.out _).mono ?_;rintro e w1⟨A',c',rfl,hrd2,hx1,_,_⟩;have HD2:=Lib.hid hrd2;have HX1:=Lib.hid hx1;clear hrd2 hx1;generalize hnb:(!bb)=nb at *;go_wp2_with fail;clear hnb;have HBX:=Lib.hid (blk_at w1 124 #[.bool nb,.slice A' (gr y).length c'] w1.heap.size rfl);have HXW:=Lib.hid (HX1.out.trans (Ext.new w1 (.cells #[.bool nb,.slice A' (gr y).length c'] 124)));have HDW:=Lib.hid (HD2.out.ext (Ext.new w1 (.cells #[.bool nb,.slice A' (gr y).length c'] 124)));have HBW:=Lib.hid (Ext.refl (w1.alloc (.cells #[.bool nb,.slice A' (gr y).length c'] 124)));generalize (w1.alloc (.cells #[.bool nb,.slice A' (gr y).length c'] 124))=W at *;generalize w1.heap.size=g at *;have x0:=HBX.out.cell 0;have x1:=HBX.out.cell 1;simp only[List.getElem?_toArray,List.getElem?_cons_zero,List.getElem?_cons_succ]at x0 x1
 go_region_held3 (fun w'=>w'.cell? ⟨g,0,none⟩=some (.bool nb)∧w'.cell? ⟨g,1,none⟩=some (.slice A' (gr y).length c'))
  (go_keep)
  (first
   |(go_at_call 77;((with_reducible refine(HR1.out _).mono ?_);rintro e w2⟨A,c,rfl,hrd1,hx2,_,_⟩);have hbx:=HBX.out.drew.ext hx2;have u0:=hbx.cell 0;have u1:=hbx.cell 1;simp only[List.getElem?_toArray,List.getElem?_cons_zero,List.getElem?_cons_succ]at u0 u1;have HX2:=Lib.hid (HXW.out.drew.trans hx2);have HD1:=Lib.hid hrd1;have HD2W:=Lib.hid ((HDW.out.ext HBW.out.drew).ext hx2);have HBX2:=Lib.hid hbx;clear hbx hx2 hrd1)
   |(go_at_call 79;((with_reducible refine(intAdd ba nb x y A A' c c' _ HD1.out HD2W.out HL1.out HL2.out).mono ?_);rintro e w4⟨bs',n',A1,c1,rfl,hs,hrd,hx,hc1,hc2⟩);have HD:=Lib.hid hrd;have hbx:=HBX2.out.ext hx;have v0:=hbx.cell 0;have v1:=hbx.cell 1;simp only[List.getElem?_toArray,List.getElem?_cons_zero,List.getElem?_cons_succ]at v0 v1;have HBX4:=Lib.hid hbx;have HX4:=Lib.hid (HX2.out.trans hx);have HC:=Lib.hid (And.intro hc1 hc2);have HLN:Hid ((gr n').length≤1000000):=Lib.hid (by have:=sum_len hs HP1.out HP2.out;omega);have HS:Hid (txt bs' n'=ofI z):=Lib.hid (by rw[txt_ofI,hs,←HV.out]);clear hs hrd hx hc1 hc2 hbx)
   |(go_at_call 80;((with_reducible refine(intText bs' n' A1 c1 _ HD.out HLN.out HC.out.1 HC.out.2 (HE.out.ext HX4.out)).mono ?_);rintro e w5⟨rfl,hx5⟩);have hbx:=HBX4.out.ext hx5;have y0:=hbx.cell 0;have y1:=hbx.cell 1;simp only[List.getElem?_toArray,List.getElem?_cons_zero,List.getElem?_cons_succ]at y0 y1;have HX5:=Lib.hid (HX4.out.trans hx5);clear hx5 hbx))
 all_goals
  rw[HS.out];go_wp2_with fail;go_ret;exact⟨rfl,HX5.out⟩
end
section
open Go.RowKit
def AllB(R:List Nat):Prop:=∀g ∈ R,g<B9
theorem AllB.set{R:List Nat}(h:AllB R)(j v:Nat)(hv:v<B9):AllB (R.set j v):=fun g hg=>by
 rcases List.mem_or_eq_of_mem_set hg with h1|h1
 ·exact h g h1
 ·rw[h1];exact hv
theorem AllB.at0{R:List Nat}(h:AllB R)(j:Nat):at0 R j<B9:=at0_bd h j
theorem at0_set{R:List Nat}{j v:Nat}(h:j<R.length)(i:Nat):at0 (R.set j v) i=if i=j then v else at0 R i:=by
 unfold Go.Proofs.YthgpheopnhajaaaGreatDoor.at0;rw[List.getD_eq_getElem?_getD,List.getD_eq_getElem?_getD,List.getElem?_set];by_cases e:j=i
 ·subst e;rw[if_pos rfl,if_pos h,if_pos rfl];rfl
 ·rw[if_neg e,if_neg (fun h=>e h.symm)]
theorem gval_append(a b:List Nat):gval (a++b)=gval a+B9 ^ a.length*gval b:=by
 induction a with
 |nil=>simp[gval]
 |cons g r ih =>
  have e1:gval ((g :: r)++b)=g+B9*gval (r++b):=rfl;have e2:gval (g :: r)=g+B9*gval r:=rfl;rw[e1,e2,ih,Nat.mul_add,List.length_cons,Nat.pow_succ,Nat.add_assoc,←Nat.mul_assoc,Nat.mul_comm B9 (B9 ^ r.length)]
theorem gval_set:∀ {R:List Nat} {j:Nat} (v:Nat),j<R.length→gval (R.set j v)+at0 R j*B9 ^ j=gval R+v*B9 ^ j
 |g :: r,0,v,_=>by
  have e1:gval ((g :: r).set 0 v)=v+B9*gval r:=rfl;have e2:gval (g :: r)=g+B9*gval r:=rfl;have e3:at0 (g :: r) 0=g:=rfl;rw[e1,e2,e3,Nat.pow_zero];omega
 |g :: r,j+1,v,h=>by
  have ih:=gval_set (R:=r) (j:=j) v (by simpa using h);have e1:gval ((g :: r).set (j+1) v)=g+B9*gval (r.set j v):=rfl;have e2:gval (g :: r)=g+B9*gval r:=rfl;have e3:at0 (g :: r) (j+1)=at0 r j:=rfl;rw[e1,e2,e3,Nat.pow_succ];have h1:B9*(gval (r.set j v)+at0 r j*B9 ^ j)=B9*(gval r+v*B9 ^ j):=by rw[ih]
  rw[Nat.mul_add,Nat.mul_add]at h1;have h2:∀x:Nat,x*(B9 ^ j*B9)=B9*(x*B9 ^ j):=fun x=>by rw[←Nat.mul_assoc,Nat.mul_comm]
  rw[h2,h2];omega
theorem gval_take_succ(l:List Nat)(k:Nat):gval (l.take (k+1))=gval (l.take k)+at0 l k*B9 ^ k:=by
 rcases Nat.lt_or_ge k l.length with h|h
 ·rw[List.take_succ_eq_append_getElem h,gval_snoc,at0_lt h,List.length_take,Nat.min_eq_left (by omega)]
 ·rw[at0_ge h,List.take_of_length_le (by omega),List.take_of_length_le (by omega)];simp
theorem gval_lt{R:List Nat}(h:AllB R):gval R<B9 ^ R.length:=by
 rw[gval_gsum R R.length (Nat.le_refl _)];exact gsum_lt (at0_bd h) _
theorem mul_step{R:List Nat}{P X c x y j:Nat}(hj:j<R.length)(hc:gval R+c*B9 ^ j=P)(hx:X=c+at0 R j+x*y) :
  gval (R.set j (X % B9))+X / B9*B9 ^ (j+1)=P+x*y*B9 ^ j:=by
 have h1:=gval_set (R:=R) (j:=j) (X % B9) hj;have h2:=Nat.mod_add_div X B9;rw[Nat.pow_succ];generalize B9 ^ j=p at *;have h3:X / B9*(p*B9)=B9*(X / B9)*p:=by rw[Nat.mul_comm p B9,←Nat.mul_assoc,Nat.mul_comm (X / B9) B9]
 have h4:(X % B9+B9*(X / B9))*p=(c+at0 R j+x*y)*p:=by rw[h2,hx]
 rw[Nat.add_mul,Nat.add_mul,Nat.add_mul]at h4;rw[h3,←hc];generalize B9*(X / B9)*p=u1 at *;generalize X % B9*p=u2 at *;generalize c*p=u3 at *;generalize at0 R j*p=u4 at *;generalize x*y*p=u5 at *;generalize gval (R.set j (X % B9))=u6 at *;omega
theorem mul_bound{c o x y:Nat}(hc:c<B9)(ho:o<B9)(hx:x<B9)(hy:y<B9):c+o+x*y<B9*B9∧c+o+x*y<1000000000000000000:=by
 have e:B9=1000000000:=rfl;rw[e]at hc ho hx hy ⊢;have h1:x*y≤999999999*999999999:=Nat.mul_le_mul (by omega) (by omega);generalize x*y=z at *;omega
structure MulIn (x:Nat) (n:List Nat) (P L i k c:Nat) (R:List Nat):Prop where
 len:R.length=L
 all:AllB R
 cb:c<B9
 val:gval R+c*B9 ^ (i+k)=P+x*gval (n.take k)*B9 ^ i
 tail:∀j,i+n.length≤j→at0 R j=0
theorem MulIn.start{x:Nat}{n R:List Nat}{P L i:Nat}(hl:R.length=L)(ha:AllB R)(hv:gval R=P)(ht:∀j,i+n.length≤j→at0 R j=0):MulIn x n P L i 0 0 R :=
 ⟨hl,ha,by decide,by simp[gval,hv],ht⟩
theorem MulIn.step{x:Nat}{n R:List Nat}{P L i k c:Nat}(h:MulIn x n P L i k c R)(hx:x<B9)(hn:AllB n)(hk:k<n.length)(hL:i+n.length≤L) :
  MulIn x n P L i (k+1) ((c+at0 R (i+k)+x*at0 n k) / B9) (R.set (i+k) ((c+at0 R (i+k)+x*at0 n k) % B9)):=by
 have hj:i+k<R.length:=by rw[h.len];omega
 have hb:=(mul_bound h.cb (h.all.at0 (i+k)) hx (hn.at0 k)).1;refine⟨by rw[List.length_set];exact h.len,h.all.set _ _ (Nat.mod_lt _ (by decide)),by rw[Nat.div_lt_iff_lt_mul (by decide)];exact hb,?_,fun j hjt=>?_⟩
 ·have:=mul_step hj h.val (x:=x) (y:=at0 n k) rfl;rw[show i+(k+1)=i+k+1 by omega,this,gval_take_succ,Nat.mul_add,Nat.add_mul,Nat.pow_add,Nat.add_assoc];congr 2
  rw[Nat.mul_assoc,Nat.mul_assoc,Nat.mul_assoc,Nat.mul_comm (B9 ^ k) (B9 ^ i)]
 ·rw[at0_set hj,if_neg (by omega)];exact h.tail j hjt
theorem MulIn.done{x:Nat}{n R:List Nat}{P L i c:Nat}(h:MulIn x n P L i n.length c R)(hL:i+n.length<L) :
  (R.set (i+n.length) (at0 R (i+n.length)+c)).length=L∧AllB (R.set (i+n.length) (at0 R (i+n.length)+c))∧gval (R.set (i+n.length) (at0 R (i+n.length)+c))=P+x*gval n*B9 ^ i∧∀j,i+1+n.length≤j→at0 (R.set (i+n.length) (at0 R (i+n.length)+c)) j=0:=by
 have hj:i+n.length<R.length:=by rw[h.len];exact hL
 have h0:=h.tail (i+n.length) (Nat.le_refl _);rw[h0,Nat.zero_add];refine⟨by rw[List.length_set];exact h.len,h.all.set _ _ h.cb,?_,fun j hjt=>?_⟩
 ·have h1:=gval_set (R:=R) (j:=i+n.length) c hj;have h2:=h.val;rw[h0,Nat.zero_mul,Nat.add_zero]at h1;rw[List.take_length]at h2;rw[h1,h2]
 ·rw[at0_set hj,if_neg (by omega)];exact h.tail j (by omega)
structure MulOut (m n:List Nat) (L i:Nat) (R:List Nat):Prop where
 len:R.length=L
 all:AllB R
 val:gval R=gval (m.take i)*gval n
 tail:∀j,i+n.length≤j→at0 R j=0
theorem MulOut.start(m n:List Nat)(L:Nat):MulOut m n L 0 (List.replicate L 0):=by
 have h0:∀j,at0 (List.replicate L 0) j=0:=fun j=>by
  unfold Go.Proofs.YthgpheopnhajaaaGreatDoor.at0;rw[List.getD_eq_getElem?_getD,List.getElem?_replicate];split <;> rfl
 refine⟨by simp,fun g hg=>by rw[(List.mem_replicate.1 hg).2];decide,?_,fun j _=>h0 j⟩;rw[gval_gsum _ _ (Nat.le_refl _),gsum_congr (g:=fun _=>0) (fun k _=>h0 k)]
 have:∀L,gsum (fun _=>0) L=0:=by
  intro L;induction L with
  |zero=>rfl
  |succ L ih=>unfold gsum;rw[ih];simp
 rw[this];simp[gval]
theorem MulOut.in_{m n R:List Nat}{L i:Nat}(h:MulOut m n L i R)(x:Nat):MulIn x n (gval (m.take i)*gval n) L i 0 0 R:=MulIn.start h.len h.all h.val h.tail
theorem MulOut.next{m n R:List Nat}{L i:Nat}(hl:R.length=L)(ha:AllB R)(hv:gval R=gval (m.take i)*gval n+at0 m i*gval n*B9 ^ i)(ht:∀j,i+1+n.length≤j→at0 R j=0):MulOut m n L (i+1) R:=by
 refine⟨hl,ha,?_,ht⟩;rw[hv,gval_take_succ,Nat.add_mul,Nat.mul_assoc,Nat.mul_assoc,Nat.mul_comm (gval n) (B9 ^ i)]
theorem MulOut.fin{m n R:List Nat}{L i:Nat}(h:MulOut m n L i R)(hi:m.length≤i):cutL R=gr (gval m*gval n):=by
 rw[cutL_gr h.all,h.val,List.take_of_length_le hi]
end
end Go.Proofs.YthgpheopnhajaaaGreatDoor
