/- The seat's texts, part U4. -/
import Derived.Test.YthgpheopnhajaaaGreatDoorU0
import Derived.Test.YthgpheopnhajaaaGreatDoorU1
import Derived.Test.YthgpheopnhajaaaGreatDoorU2
import Derived.Test.YthgpheopnhajaaaGreatDoorU3
import Derived.Lib.AppendIntMem
import Derived.Lib.OthersKept
import Derived.Test.YthgpheopnhajaaaGreatDoorProg
import Derived.Laws.Runes
import Derived.IntWalk
set_option maxRecDepth 100000
set_option maxHeartbeats 8000000
namespace Go.Proofs.YthgpheopnhajaaaGreatDoor
section
open Go.RowKit Go.Shelf
theorem cell_in {w:World} {p:Addr} {v:Value} (h:w.cell? p=some v):p.block<w.heap.size:=by
 rcases Nat.lt_or_ge p.block w.heap.size with k | k
 ·exact k
 ·unfold World.cell? at h;rw [Array.getElem?_eq_none k] at h;simp at h
structure Env (w:World):Prop where
 tab:Lib.TabIs Tryz.prog w "internal/strconv.uint64pow10" .u64 Lib.pow10Tab
 len:∃ m:Int,w.cell? ⟨3,0,none⟩=some (.int .i64 m)
 big:0<w.heap.size∧3<w.heap.size
 syn:∃ v,w.cell? ⟨1,0,none⟩=some v∧(v = .nilIface∨∃ te pe,v = .iface te pe)
 rng:∃ v,w.cell? ⟨2,0,none⟩=some v∧(v = .nilIface∨∃ te pe,v = .iface te pe)
theorem Env.ext {w w':World} (h:Env w) (he:Ext w w'):Env w':=by
 refine ⟨?_,?_,⟨Nat.lt_of_lt_of_le h.big.1 he.size,Nat.lt_of_lt_of_le h.big.2 he.size⟩,?_,?_⟩
 ·exact var?_below he (g:=0) (by kernel_rfl) h.big.1 h.tab
 ·obtain ⟨m,hm⟩:=h.len
  exact ⟨m,(he.cell (p:=⟨3,0,none⟩) h.big.2).trans hm⟩
 ·obtain ⟨v,hv,k⟩:=h.syn
  exact ⟨v,(he.cell (p:=⟨1,0,none⟩) (cell_in hv)).trans hv,k⟩
 ·obtain ⟨v,hv,k⟩:=h.rng
  exact ⟨v,(he.cell (p:=⟨2,0,none⟩) (cell_in hv)).trans hv,k⟩
theorem itoa_any (n:Int) (w:World) (h0 : -9223372036854775808≤n) (h1:n≤9223372036854775807) (hE:Env w) :
  Calls Tryz.prog 56 #[.int .i64 n] w fun e w'=>e = .returned (.string (bs (Lib.itoa n)))∧Ext w w':=by
 refine (Tryz.strconv_Itoa n h0 h1 w hE.tab).mono ?_
 rintro e w' ⟨rfl,k,os,rfl⟩
 exact ⟨rfl,Lib.below_grow _ w (Nat.le_refl _) k os⟩
theorem repeat_any (l:Bs) (c:Int) (w:World) (h0:0≤c) (hc:c≤1000) (hl:l.length≤1000) :
  Calls Tryz.prog 139 #[.string (bs l),.int .i64 c] w fun e w'=>e = .returned (.string (bs (Lib.repeatL l c.toNat)))∧Ext w w':=by
 obtain ⟨n,rfl⟩:=Int.eq_ofNat_of_zero_le h0
 refine (Tryz.strings_Repeat (bs l) n w (by omega) (by rw [size_bs];exact Nat.le_trans (Nat.mul_le_mul hl (show n≤1000 by omega)) (by decide))).mono ?_
 rintro e w' ⟨rfl,hb⟩
 exact ⟨by rw [data_bs,Int.toNat_natCast];rfl,hb⟩
end
section
open Go.RowKit Go.Lib Go.Sort
theorem fmtIn (u:Nat) (hu64:u<9223372036854775808) (w:World) (hE:Env w) :
  Calls Tryz.prog 208 #[.int .u64 u,.int .i64 10] w fun e w'=>e = .returned (.string (bs (Lib.decDigits u)))∧Ext w w':=by
 by_cases hs:u<100
 ·go_enter Tryz.func208,Tryz.ntmps208
  go_wp2_with fail
  refine (Tryz.internal_strconv_small u hs _).mono ?_
  rintro e w' ⟨rfl,rfl⟩
  go_wp2_with fail
  go_ret
  exact ⟨rfl,Ext.refl _⟩
 ·have hu1:1≤u:=by omega
  have hu:u<18446744073709551616:=by omega
  have hnd20:Lib.nDigits u≤20:=by have:=Lib.numDigits_eq u hu1 hu;split at this <;> omega
  have hH0:=Lib.holds_zero0 w 254 (Lib.nDigits u) (by omega)
  have hfmt:=Tryz.internal_strconv_formatBase10 w.heap.size 0 24 u (Array.replicate (Lib.nDigits u) 0) (w.alloc (.cells Lib.zeros24 254)) hH0 (by rw [Array.size_replicate];exact Lib.lt_pow_nDigits u) hu (by rw [Array.size_replicate];omega)
  rw [Array.size_replicate] at hfmt
  have HH0:=Lib.hid hH0
  have HF:=Lib.hid hfmt
  have HT:=Lib.hid (Lib.tabIs_alloc hE.tab (.cells Lib.zeros24 254))
  clear hH0 hfmt
  have hal:Tryz.prog.arrayLen 254=24:=by kernel_rfl
  have hsl:∀ W,(Instr.sliceAt 254 (.pointer (some ⟨w.heap.size,0,none⟩)) none (some (.int .i64 (Lib.nDigits u:Int))) none).run Tryz.prog W = .ok (.slice (some ⟨w.heap.size,0,none⟩) (Lib.nDigits u) 24) W:=fun W=>by
   rw [run_sliceAt_array_h W 254 ⟨w.heap.size,0,none⟩ (by simp [Program.arrayLen,Program.elem,Tryz.underlying254]) .i64 (Lib.nDigits u:Int) (by omega) (by rw [hal];omega)]
   rw [hal,Int.toNat_natCast,show Tryz.prog.elem 254=5 from by kernel_rfl,Tryz.sizeOf5]
   simp [Result.andThen,slicedAt,Addr.add]
  clear hal
  go_enter Tryz.func208,Tryz.ntmps208
  go_wp2_with fail
  refine (Tryz.internal_strconv_numDigits u hu1 hu _ HT.out).mono ?_
  rintro e w' ⟨rfl,rfl⟩
  go_wp2_with fail
  refine HF.out.mono ?_
  rintro e w' ⟨rfl,k,v',dk,rfl,hF⟩
  have hcv:(convert 191 9 (.slice (some ⟨w.heap.size,0,none⟩) (Lib.nDigits u) 24)).run Tryz.prog ((putRow (fun (b:UInt8)=>Value.int .u8 (b.toNat:Int)) (w.alloc (.cells Lib.zeros24 254)) w.heap.size 0 dk).drewN k) = .ok (.string ⟨(Lib.decDigits u).toArray⟩) ((putRow (fun (b:UInt8)=>Value.int .u8 (b.toNat:Int)) (w.alloc (.cells Lib.zeros24 254)) w.heap.size 0 dk).drewN k):=by
   have h:=run_convert_bytes_back (P:=Tryz.prog) ((putRow (fun (b:UInt8)=>Value.int .u8 (b.toNat:Int)) (w.alloc (.cells Lib.zeros24 254)) w.heap.size 0 dk).drewN k) 191 9 5 ⟨w.heap.size,0,none⟩ 24 (Lib.decDigits u) Tryz.underlying191 Tryz.underlying5 Tryz.underlying9 (fun j hj=>by
    rw [Lib.row_is_numeral hF j hj,Lib.add_plain,World.cell?_drewN]
    exact cell?_putRow (fun (b:UInt8)=>Value.int .u8 (b.toNat:Int)) _ w.heap.size 0 _ dk HH0.out (by rw [hF.size,Array.size_replicate]) j (by rw [hF.size];rw [Lib.decDigits_length] at hj;exact hj))
   rw [Lib.decDigits_length] at h
   exact h
  obtain ⟨os,eo⟩:=Lib.fin_at w (.cells Lib.zeros24 254) dk k 0
  have HX:Hid (Ext w ((putRow (fun (b:UInt8)=>Value.int .u8 (b.toNat:Int)) (w.alloc (.cells Lib.zeros24 254)) w.heap.size 0 dk).drewN k)):=Lib.hid (by rw [eo];exact Lib.below_grow _ w (Nat.le_refl _) k os)
  clear eo hF
  generalize (putRow (fun (b:UInt8)=>Value.int .u8 (b.toNat:Int)) (w.alloc (.cells Lib.zeros24 254)) w.heap.size 0 dk).drewN k=W at *
  go_wp2_with fail
  go_ret
  exact ⟨rfl,HX.out⟩
theorem dec_pos (u:Nat) (h:u≠0):Lib.decDigits u=dig10 u:=by
 induction u using Nat.strongRecOn with
 |ind u ih =>
  rw [Lib.decDigits]
  by_cases h10:u<10
  ·rw [dif_pos h10,dig10_pos h,show u / 10=0 by omega,dig10_zero,Nat.mod_eq_of_lt h10];rfl
  ·rw [dif_neg h10,dig10_pos h,ih (u / 10) (by omega) (by omega)]
theorem dec_fmtU (u:Nat):Lib.decDigits u=fmtU u:=by
 unfold fmtU;split
 ·rename_i h;subst h;rw [Lib.decDigits];rfl
 ·exact dec_pos u (by assumption)
theorem fmtUint (u:Nat) (hu64:u<9223372036854775808) (w:World) (hE:Env w) :
  Calls Tryz.prog 138 #[.int .u64 u,.int .i64 10] w fun e w'=>e = .returned (.string (bs (fmtU u)))∧Ext w w':=by
 go_enter Tryz.func138,Tryz.ntmps138
 go_wp2_with fail
 refine (fmtIn u hu64 _ hE).mono ?_
 rw [dec_fmtU]
 rintro e w' ⟨rfl,hx⟩
 go_wp2_with fail
 go_ret
 exact ⟨rfl,hx⟩
end
end Go.Proofs.YthgpheopnhajaaaGreatDoor
namespace Go.Proofs
open Go.Shelf
def Tryz.lays240_ren:Go.Shelf.Ren:=⟨fun | 240=>207 | 276=>269 | n=>n,fun | 70=>190 | 72=>193 | 37=>191 | 164=>278 | 75=>185 | 80=>198 | 20=>20 | 0=>0 | 3=>3 | 4=>4 | 5=>5 | 9=>9 | n=>n,fun | n=>n⟩
def Tryz.lays166_ren:Go.Shelf.Ren:=⟨fun | 166=>137 | 240=>207 | 276=>269 | n=>n,fun | 70=>190 | 72=>193 | 37=>191 | 164=>278 | 75=>185 | 80=>198 | 20=>20 | 0=>0 | 3=>3 | 4=>4 | 5=>5 | 9=>9 | n=>n,fun | n=>n⟩
theorem Tryz.lays166:Go.Proofs.Lays.n166 Tryz.prog Tryz.lays166_ren:={
 mixed:=by kernel_rfl
 f166:=Tryz.func137.trans (congrArg some (by kernel_rfl))
 f240:=Tryz.func207.trans (congrArg some (by kernel_rfl))
 f276:=Tryz.func269.trans (congrArg some (by kernel_rfl))
 t0:=Tryz.underlying0
 a0:=Tryz.isAgg0
 z0:=Tryz.sizeOf0
 v0:=Tryz.zeroValue0
 t3:=Tryz.underlying3
 a3:=Tryz.isAgg3
 z3:=Tryz.sizeOf3
 v3:=Tryz.zeroValue3
 t4:=Tryz.underlying4
 a4:=Tryz.isAgg4
 z4:=Tryz.sizeOf4
 v4:=Tryz.zeroValue4
 t9:=Tryz.underlying9
 a9:=Tryz.isAgg9
 z9:=Tryz.sizeOf9
 v9:=Tryz.zeroValue9
 t20:=Tryz.underlying20
 a20:=Tryz.isAgg20
 z20:=Tryz.sizeOf20
 v20:=Tryz.zeroValue20
 t37:=Tryz.underlying191
 a37:=Tryz.isAgg191
 z37:=Tryz.sizeOf191
 v37:=Tryz.zeroValue191
 t70:=Tryz.underlying190
 a70:=Tryz.isAgg190
 z70:=Tryz.sizeOf190
 v70:=Tryz.zeroValue190
 t72:=Tryz.underlying193
 a72:=Tryz.isAgg193
 z72:=Tryz.sizeOf193
 v72:=Tryz.zeroValue193
 t75:=Tryz.underlying185
 a75:=Tryz.isAgg185
 z75:=Tryz.sizeOf185
 v75:=Tryz.zeroValue185
 t164:=Tryz.underlying278
 a164:=Tryz.isAgg278
 z164:=Tryz.sizeOf278
 v164:=Tryz.zeroValue278
}
def Tryz.lays167_ren:Go.Shelf.Ren:=⟨fun | 167=>136 | 240=>207 | 276=>269 | n=>n,fun | 70=>190 | 72=>193 | 37=>191 | 164=>278 | 75=>185 | 80=>198 | 20=>20 | 0=>0 | 3=>3 | 4=>4 | 5=>5 | 9=>9 | n=>n,fun | n=>n⟩
theorem Tryz.lays167:Go.Proofs.Lays.n167 Tryz.prog Tryz.lays167_ren:={
 mixed:=by kernel_rfl
 f167:=Tryz.func136.trans (congrArg some (by kernel_rfl))
 f240:=Tryz.func207.trans (congrArg some (by kernel_rfl))
 f276:=Tryz.func269.trans (congrArg some (by kernel_rfl))
 t0:=Tryz.underlying0
 a0:=Tryz.isAgg0
 z0:=Tryz.sizeOf0
 v0:=Tryz.zeroValue0
 t4:=Tryz.underlying4
 a4:=Tryz.isAgg4
 z4:=Tryz.sizeOf4
 v4:=Tryz.zeroValue4
 t5:=Tryz.underlying5
 a5:=Tryz.isAgg5
 z5:=Tryz.sizeOf5
 v5:=Tryz.zeroValue5
 t9:=Tryz.underlying9
 a9:=Tryz.isAgg9
 z9:=Tryz.sizeOf9
 v9:=Tryz.zeroValue9
 t20:=Tryz.underlying20
 a20:=Tryz.isAgg20
 z20:=Tryz.sizeOf20
 v20:=Tryz.zeroValue20
 t37:=Tryz.underlying191
 a37:=Tryz.isAgg191
 z37:=Tryz.sizeOf191
 v37:=Tryz.zeroValue191
 t70:=Tryz.underlying190
 a70:=Tryz.isAgg190
 z70:=Tryz.sizeOf190
 v70:=Tryz.zeroValue190
 t72:=Tryz.underlying193
 a72:=Tryz.isAgg193
 z72:=Tryz.sizeOf193
 v72:=Tryz.zeroValue193
 t75:=Tryz.underlying185
 a75:=Tryz.isAgg185
 z75:=Tryz.sizeOf185
 v75:=Tryz.zeroValue185
 t164:=Tryz.underlying278
 a164:=Tryz.isAgg278
 z164:=Tryz.sizeOf278
 v164:=Tryz.zeroValue278
}
theorem Tryz.Builder_Extra_166:Builder.Extra Tryz.prog Tryz.lays166_ren:={
 sizeBuilder:=by kernel_rfl
 liesBuilder:=by kernel_rfl
 t5:=Tryz.underlying5
 a5:=Tryz.isAgg5
 z5:=Tryz.sizeOf5
 v5:=Tryz.zeroValue5
 infoByte:=by kernel_rfl
 cellsByte:=by kernel_rfl
 sizeByte:=by kernel_rfl
 neB5:=by decide
}
theorem Tryz.Builder_Extra_167:Builder.Extra Tryz.prog Tryz.lays167_ren:={
 sizeBuilder:=by kernel_rfl
 liesBuilder:=by kernel_rfl
 t5:=Tryz.underlying5
 a5:=Tryz.isAgg5
 z5:=Tryz.sizeOf5
 v5:=Tryz.zeroValue5
 infoByte:=by kernel_rfl
 cellsByte:=by kernel_rfl
 sizeByte:=by kernel_rfl
 neB5:=by decide
}
open Go.RowKit in
theorem Tryz.Builder_WriteString_k (B b:Nat) (bs:List Value) (s:ByteArray) (w:World) (h:Lib.IsBuilderF 193 5 B b bs w) (hlen:bs.length+s.size≤140737488355328) (hBw:B≤w.heap.size) :
  Calls Tryz.prog 137 #[.pointer (some ⟨b,0,none⟩),.string s] w fun e w'=>e = .returned (.tuple #[.int .i64 s.size,.nilIface])∧(Lib.BuilderAtF 193 5 B b (.pointer (some ⟨b,0,none⟩)) (bs++Lib.strCells s) w'∧Below B w w'∧Lib.OthersKept 5 (some b) w w'):=Any.Builder_WriteString_k Tryz.lays166 Tryz.Builder_Extra_166 B b bs s w h hlen hBw
open Go.RowKit in
theorem Tryz.Builder_WriteByte_k (B b:Nat) (bs:List Value) (c:Int) (w:World) (h:Lib.IsBuilderF 193 5 B b bs w) (hlen:bs.length+1≤140737488355328) (hBw:B≤w.heap.size) :
  Calls Tryz.prog 136 #[.pointer (some ⟨b,0,none⟩),.int .u8 c] w fun e w'=>e = .returned .nilIface∧(Lib.BuilderAtF 193 5 B b (.pointer (some ⟨b,0,none⟩)) (bs++[.int .u8 c]) w'∧Below B w w'∧Lib.OthersKept 5 (some b) w w'):=Any.Builder_WriteByte_k Tryz.lays167 Tryz.Builder_Extra_167 B b bs c w h hlen hBw
end Go.Proofs
namespace Go.Proofs.YthgpheopnhajaaaGreatDoor
section
open Go.RowKit Go.Shelf
attribute [local go_sem] size_bs toList_bs extract_bs get_bs append_bs lit_append append_lit
def Bld (B b:Nat) (l:Bs) (w:World):Prop:=Lib.IsBuilderF 193 5 B b (Lib.byteCells l) w
theorem Bld.ext {B b:Nat} {l:Bs} {w w':World} (h:Bld B b l w) (hx:Ext w w'):Bld B b l w':=by
 have key:∀ p,Lib.BuilderAtF 193 5 B b p (Lib.byteCells l) w→Lib.BuilderAtF 193 5 B b p (Lib.byteCells l) w':=by
  rintro p ⟨hB,v,hb,hown,hne⟩
  have hlt:b<w.heap.size:=by
   rcases Nat.lt_or_ge b w.heap.size with h | h
   ·exact h
   ·rw [Array.getElem?_eq_none h] at hb;cases hb
  exact ⟨hB,v,(hx.block b hlt).trans hb,hown.kept (row:=none) ⟨hx.os,hx.tape,hx.output,hx.size,fun i hi _=>hx.block i hi⟩ (by cases v.ownBlock <;> simp),hne⟩
 rcases h with h | h
 ·exact .inl (key _ h)
 ·exact .inr (key _ h)
theorem Bld.new (w:World):Bld w.heap.size w.heap.size [] (w.alloc (.cells #[.pointer none,.slice none 0 0] 193)) :=
 .inl ⟨Nat.le_refl _,.slice none 0 0,heap_alloc_new w _,World.ownsRowF_nil _ _ _ _,by simp [Value.ownBlock]⟩
end
section
open Go.RowKit
theorem natOf_noZeros (t:Bs):natOf (noZeros t)=natOf t:=by
 induction t with
 |nil=>rfl
 |cons c r ih =>
  by_cases hc:(c == 48)=true
  ·have e:noZeros (c :: r)=noZeros r:=by simp only [noZeros];rw [if_pos hc]
   obtain rfl:c=48:=by simpa using hc
   rw [e,ih];exact (natOf_zeros 1 r).symm
  ·have e:noZeros (c :: r)=c :: r:=by simp only [noZeros];rw [if_neg hc]
   rw [e]
theorem isMin_dig {t:Bs} (h:t.all isD=true):isMin t=false:=by
 cases t with
 |nil=>rfl
 |cons c r =>
  simp only [List.all_cons,Bool.and_eq_true] at h
  have:=(isD_iff c).1 h.1
  simp only [isMin,beq_eq_false_iff_ne]
  rintro rfl;revert this;decide
theorem valI_dig {t:Bs} (h:t.all isD=true):valI t=(natOf t:Int):=by
 have hm:mag t=noZeros t:=by
  show magT (strip t)=_
  unfold strip;rw [isMin_dig h];exact magT_good t h
 have hn:neg t=false:=by show negT (isMin t) (strip t)=false;rw [isMin_dig h];rfl
 unfold valI;rw [hn,hm,natOf_noZeros];rfl
theorem valI_min {t:Bs} (h:t.all isD=true):valI (45 :: t) = -(natOf t:Int):=by
 have hm:mag (45 :: t)=noZeros t:=magT_good t h
 have hn:neg (45 :: t)=!(noZeros t).isEmpty:=by
  show negT true t=_
  unfold negT;rw [magT_good t h];rfl
 unfold valI;rw [hn,hm,natOf_noZeros]
 cases hz:noZeros t with
 |nil =>
  have:=natOf_noZeros t
  rw [hz,natOf_nil] at this
  rw [← this];rfl
 |cons c r=>rfl
theorem valI_ofI (z:Int):valI (ofI z)=z:=by
 unfold ofI;split
 ·rw [valI_min (dig10_all _),natOf_dig10];omega
 ·rw [valI_dig (dig10_all _),natOf_dig10];omega
theorem lowT_val:∀ (r:List Nat),(∀ g ∈ r,g<B9)→natOf (lowT r)=gval r
 |[],_=>rfl
 |g :: r,h=>by
  rw [lowT_cons,natOf_append,pad9_len (h g (by simp)),pad9_val,lowT_val r (fun x hx=>h x (by simp [hx]))]
  show _=g+B9*gval r
  rw [show (10:Nat) ^ 9=B9 from rfl,Nat.mul_comm];omega
theorem canon_low (b:Bool) (gs:List Nat) (h:∀ g ∈ gs,g<B9):canon (if b then 45 :: lowT gs else lowT gs)=ofI (if b then -(gval gs:Int) else gval gs):=by
 rw [canon_ofI]
 cases b
 ·rw [if_neg (by decide),if_neg (by decide),valI_dig (lowT_all gs),lowT_val gs h]
 ·rw [if_pos rfl,if_pos rfl,valI_min (lowT_all gs),lowT_val gs h]
theorem ofI_nil_iff (z:Int):ofI z=[]↔z=0:=by
 constructor
 ·intro h
  have:=valI_ofI z
  rw [h] at this;rw [← this];decide
 ·rintro rfl;unfold ofI;rw [if_neg (by decide)];exact dig10_zero
def lastT (n:Nat):Nat→Bs | 0=>[] | j+1=>UInt8.ofNat (48+n / 10 ^ j % 10) :: lastT n j
theorem lastT_len (n j:Nat):(lastT n j).length=j:=by induction j with | zero=>rfl | succ j ih=>simp [lastT,ih]
theorem dig_isD (n:Nat):isD (UInt8.ofNat (48+n % 10))=true:=(dig_of _ (Nat.mod_lt _ (by decide))).1
theorem lastT_all (n j:Nat):(lastT n j).all isD=true:=by
 induction j with
 |zero=>rfl
 |succ j ih=>rw [lastT,List.all_cons,ih,Bool.and_true];exact dig_isD _
theorem lastT_val (n j:Nat):natOf (lastT n j)=n % 10 ^ j:=by
 induction j with
 |zero=>simp [lastT,natOf,Nat.mod_one]
 |succ j ih =>
  have e:natOf (lastT n (j+1))=natOf [UInt8.ofNat (48+n / 10 ^ j % 10)]*10 ^ (lastT n j).length+natOf (lastT n j):=natOf_append [_] (lastT n j)
  have e2:natOf [UInt8.ofNat (48+n / 10 ^ j % 10)]=n / 10 ^ j % 10:=by
   show 10*0+dval _=_
   rw [dval_dig (Nat.mod_lt _ (by decide))];omega
  rw [e,e2,lastT_len,ih,Nat.pow_succ,Nat.mod_mul,Nat.mul_comm];omega
theorem dig_inj:∀ {a b:Bs},a.all isD=true→b.all isD=true→a.length=b.length→natOf a=natOf b→a=b:=by
 intro a
 induction a using snocInd with
 |h0=>intro b _ _ hl _;exact (List.length_eq_zero_iff.1 hl.symm).symm
 |h1 a x ih =>
  intro b ha hb hl hv
  have hne:b≠[]:=by intro h;subst h;simp at hl
  obtain ⟨b',y,rfl⟩:∃ b' y,b=b'++[y]:=⟨b.dropLast,b.getLast hne,(List.dropLast_concat_getLast hne).symm⟩
  rw [List.all_append,Bool.and_eq_true] at ha hb
  rw [natOf_snoc,natOf_snoc] at hv
  have hx:isD x=true:=by simpa using ha.2
  have hy:isD y=true:=by simpa using hb.2
  have h1:=dval_lt hx
  have h2:=dval_lt hy
  have h3:dval x=dval y:=by omega
  have h4:natOf a=natOf b':=by omega
  rw [ih ha.1 hb.1 (by simpa using hl) h4]
  have hx':=(isD_iff x).1 hx
  have hy':=(isD_iff y).1 hy
  have:x=y:=UInt8.toNat_inj.1 (by unfold dval at h3;omega)
  rw [this]
theorem lastT_nine {g:Nat} (h:g<B9):lastT g 9=pad9 g:=by
 refine dig_inj (lastT_all g 9) (pad9_all g) (by rw [lastT_len,pad9_len h]) ?_
 rw [lastT_val,pad9_val];exact Nat.mod_eq_of_lt h
theorem natOf_take_succ (m:Bs) (k:Nat) (h:k<m.length):natOf (m.take (k+1))=10*natOf (m.take k)+dval (m[k]'h):=by
 rw [List.take_succ_eq_append_getElem h,natOf_snoc]
theorem lowT_len (r:List Nat) (h:∀ g ∈ r,g<B9):(lowT r).length=9*r.length:=by
 induction r with
 |nil=>rfl
 |cons g r ih=>rw [lowT_cons,List.length_append,ih (fun x hx=>h x (by simp [hx])),pad9_len (h g (by simp)),List.length_cons];omega
end
section
open Go.RowKit
attribute [local go_sem] size_bs toList_bs extract_bs get_bs append_bs lit_append append_lit
theorem bldWrite (B b:Nat) (cur l:Bs) (w:World) (hB:Bld B b cur w) (hl:cur.length+l.length≤1000000000) (hBw:B≤w.heap.size) :
  Calls Tryz.prog 137 #[.pointer (some ⟨b,0,none⟩),.string (bs l)] w fun e w'=>e = .returned (.tuple #[.int .i64 l.length,.nilIface])∧Bld B b (cur++l) w'∧Below B w w':=by
 refine (Tryz.Builder_WriteString_k B b (Lib.byteCells cur) (bs l) w hB (by rw [Lib.byteCells_length,size_bs];omega) hBw).mono ?_
 rintro e w' ⟨rfl,h1,h2,_⟩
 have e:Lib.byteCells cur++Lib.strCells (bs l)=Lib.byteCells (cur++l):=by
  unfold Lib.strCells Lib.byteCells;rw [data_bs];exact List.map_append.symm
 rw [e] at h1
 exact ⟨by rw [size_bs],.inr h1,h2⟩
theorem bldMinus (B b:Nat) (cur:Bs) (w:World) (hB:Bld B b cur w) (hl:cur.length≤1000000000) (hBw:B≤w.heap.size) :
  Calls Tryz.prog 136 #[.pointer (some ⟨b,0,none⟩),.int .u8 45] w fun e w'=>e = .returned .nilIface∧Bld B b (cur++[45]) w'∧Below B w w':=by
 refine (Tryz.Builder_WriteByte_k B b (Lib.byteCells cur) 45 w hB (by rw [Lib.byteCells_length];omega) hBw).mono ?_
 rintro e w' ⟨rfl,h1,h2,_⟩
 have e:Lib.byteCells cur++[.int .u8 45]=Lib.byteCells (cur++[45]):=by
  unfold Lib.byteCells;rw [List.map_append];rfl
 rw [e] at h1
 exact ⟨rfl,.inr h1,h2⟩
theorem repeat_zero (k:Nat):Lib.repeatL [48] k=List.replicate k 48:=by
 induction k with
 |zero=>rfl
 |succ k ih=>rw [List.replicate_succ,← ih];simp [Lib.repeatL]
def txt (b:Bool) (n:Nat):Bs:=if n=0 then [] else if b then 45 :: dig10 n else dig10 n
theorem txt_ofI (b:Bool) (n:Nat):txt b n=ofI (sgn b n):=by
 by_cases h:n=0
 ·subst h
  have e:sgn b 0=0:=by cases b <;> rfl
  rw [e,(ofI_nil_iff 0).2 rfl];rfl
 ·cases b
  ·have e:sgn false n=(n:Int):=rfl
   have h2:ofI (n:Int)=dig10 n:=by unfold ofI;rw [if_neg (by omega),Int.natAbs_natCast]
   rw [e,h2];unfold txt;rw [if_neg h];rfl
  ·have e:sgn true n = -(n:Int):=rfl
   have h2:ofI (-(n:Int))=45 :: dig10 n:=by unfold ofI;rw [if_pos (by omega),Int.natAbs_neg,Int.natAbs_natCast]
   rw [e,h2];unfold txt;rw [if_neg h];rfl
def preT (b:Bool):Bs:=if b then [45] else []
def TextAt (b:Bool) (top:Nat) (r:List Nat) (_w w1:World) (z:Value) (wr:World):Prop :=
 ∃ k:Nat,k≤r.length∧z = .int .i64 ((k:Int)-1)∧Bld w1.heap.size w1.heap.size (preT b++fmtU top++lowT (r.drop k)) wr∧Ext w1 wr
theorem intText (b:Bool) (n:Nat) (A:Option Addr) (c:Nat) (w:World) (hA:RdU w A (gr n)) (hn:(gr n).length≤1000000) (hc:(gr n).length≤c) (hm:c≤maxLen) (hE:Env w) :
  Calls Tryz.prog 80 #[.agg #[.bool b,.slice A (gr n).length c]] w fun e w'=>e = .returned (.string (bs (txt b n)))∧Ext w w':=by
 have HCUT:=Lib.hid (fun W h=>intCut (gr n) A c W h hc hm (gr_lt n))
 rw [cutL_gr_self] at HCUT
 have HE:=Lib.hid hE
 clear hE
 by_cases h0:n=0
 ·subst h0
  have HA:=Lib.hid hA
  clear hA
  rw [gr_zero] at *
  go_enter Tryz.func80,Tryz.ntmps80
  go_wp2_with fail
  refine (HCUT.out _ (HA.out.ext (Ext.new _ _))).mono ?_
  rintro e w1 ⟨rfl,rfl⟩
  go_wp2_with fail
  go_ret
  exact ⟨rfl,Ext.new _ _⟩
 ·obtain ⟨r,top,hr⟩:∃ r top,gr n=r++[top]:=by
   have:gr n≠[]:=by rw [gr_pos h0];simp
   exact ⟨(gr n).dropLast,(gr n).getLast this,(List.dropLast_concat_getLast this).symm⟩
  have HT:Hid (preT b++fmtU top++lowT r=txt b n):=Lib.hid (by
   rw [List.append_assoc,text_gr hr];unfold preT txt;rw [if_neg h0];cases b <;> rfl)
  have hb:=gr_lt n
  rw [hr] at hb hA hc HCUT hn ⊢
  have HB:=Lib.hid (fun g (hg:g ∈ r)=>hb g (List.mem_append_left _ hg))
  have htop:top<1000000000:=hb top (by simp)
  have hrl:(r++[top]).length=r.length+1:=by simp
  rw [hrl] at hc hn HCUT ⊢
  have hln:r.length≤1000000:=by omega
  have HA:=Lib.hid hA
  have hft:=fmtU_len (g:=top) htop
  clear hA hb hr hrl h0
  go_enter Tryz.func80,Tryz.ntmps80
  go_wp2_with fail
  refine (HCUT.out _ (HA.out.ext (Ext.new _ _))).mono ?_
  rintro e w0 ⟨rfl,rfl⟩
  obtain ⟨ab,ao,rfl,hab,hcell0⟩:=HA.out.at_ (k:=r.length) (by simp)
  have HCT:Hid (w.cell? ⟨ab,ao+r.length,none⟩=some (.int .u64 top)):=Lib.hid (by simpa using hcell0)
  have HCR:Hid (∀ (k:Nat) (h:k<r.length),w.cell? ⟨ab,ao+k,none⟩=some (.int .u64 (r[k]'h))):=Lib.hid (fun k h=>by
   have:=Reads.cell HA.out (j:=k) (u := .int .u64 (r[k]'h)) (by rw [ucells,List.map_append,List.getElem?_append_left (by simpa using h)];simp [h])
   exact this)
  clear hcell0
  have HX0:Hid (Ext w (w.alloc (.cells #[.bool b,.slice (some ⟨ab,ao,none⟩) (r.length+1) c] 124))):=Lib.hid (Ext.new _ _)
  have HBX:=Lib.hid (blk_at w 124 #[.bool b,.slice (some ⟨ab,ao,none⟩) (r.length+1) c] w.heap.size rfl)
  have x0:=HBX.out.cell 0
  simp only [List.getElem?_toArray,List.getElem?_cons_zero] at x0
  generalize (w.alloc (.cells #[.bool b,.slice (some ⟨ab,ao,none⟩) (r.length+1) c] 124))=w1 at *
  have hl1:=HBX.out.lt
  have hlz:((r.length:Int)+1 == 0)=false:=by rw [beq_eq_false_iff_ne];omega
  have hab1:ab<w1.heap.size:=Nat.lt_of_lt_of_le hab HX0.out.size
  have hct:=(HX0.out.cell (p:=⟨ab,ao+r.length,none⟩) hab).trans HCT.out
  cases b
  ·go_wp2_with fail
   refine (fmtUint top (by omega) _ (HE.out.ext (HX0.out.trans (Ext.new _ _)))).mono ?_
   rintro e w2 ⟨rfl,hx2⟩
   have HX2:=Lib.hid hx2
   clear hx2
   go_wp2_with fail
   refine (bldWrite w1.heap.size w1.heap.size [] (fmtU top) _ ((Bld.new w1).ext HX2.out) (by simp;omega) (HX2.out.of_alloc).size).mono ?_
   rintro e w3 ⟨rfl,hB3,hb3⟩
   have HB3:Hid (Bld w1.heap.size w1.heap.size (preT false++fmtU top++lowT (r.drop r.length)) w3):=Lib.hid (by
    rw [List.drop_length];simpa [preT,lowT] using hB3)
   have HX3:Hid (Ext w1 w3):=Lib.hid (Below.trans (HX2.out.of_alloc) hb3)
   clear hB3 hb3 HX2 hct
   go_wp2_with fail
   go_loopw [5,6] (fun z _ wr=>TextAt false top r w w1 z wr) (fun z _ _=>(intOf z+1).toNat)
   case atStart=>exact ⟨r.length,Nat.le_refl _,by first | rfl | go_num | (congr 1;omega),HB3.out,HX3.out⟩
   case round =>
    clear HB3 HX3
    obtain ⟨k,hk,rfl,hB,hx⟩:=hrel
    have HBr:=Lib.hid hB
    have HXr:=Lib.hid hx
    clear hB hx
    rcases Nat.eq_zero_or_pos k with h0 | h0
    ·subst h0
     have HB9:Hid (Bld w1.heap.size w1.heap.size (txt false n) wr):=Lib.hid (by rw [← HT.out];exact HBr.out)
     go_wp2_with fail
     refine (Tryz.Builder_String_any_f w1.heap.size w1.heap.size (txt false n) _ HB9.out HXr.out.size).mono ?_
     rintro e w6 ⟨rfl,_,hb6⟩
     go_wp2_with fail
     go_ret
     exact ⟨rfl,HX0.out.trans (Below.trans HXr.out hb6)⟩
    ·obtain ⟨j,rfl⟩:∃ j,k=j+1:=⟨k-1,by omega⟩
     have hj:j<r.length:=by omega
     have hcj:=(HXr.out.cell (p:=⟨ab,ao+j,none⟩) hab1).trans ((HX0.out.cell (p:=⟨ab,ao+j,none⟩) hab).trans (HCR.out j hj))
     have hg:(r[j]'hj)<1000000000:=HB.out _ (List.getElem_mem hj)
     have HGL:=Lib.hid (fmtU_len (g:=r[j]'hj) hg)
     have HNX:Hid (preT false++fmtU top++lowT (r.drop (j+1))++(List.replicate (9-(fmtU (r[j]'hj)).length) 48++fmtU (r[j]'hj))=preT false++fmtU top++lowT (r.drop j)):=Lib.hid (by
      rw [List.drop_eq_getElem_cons hj,lowT_cons];unfold pad9;simp only [List.append_assoc])
     have HCL:Hid ((preT false++fmtU top++lowT (r.drop (j+1))).length≤9000100):=Lib.hid (by
      rw [List.length_append,List.length_append,lowT_len _ (fun g hg=>HB.out g (List.mem_of_mem_drop hg)),List.length_drop]
      have:(preT false).length≤1:=by decide
      omega)
     have e0:((j+1:Nat):Int)-1=(j:Int):=by omega
     rw [e0]
     clear e0
     generalize r[j]'hj=g at *
     go_wp2_with fail
     refine (fmtUint g (by omega) _ (HE.out.ext (HX0.out.trans HXr.out))).mono ?_
     rintro e w4 ⟨rfl,hx4⟩
     have HX4:=Lib.hid hx4
     clear hx4
     have hfl:=HGL.out
     generalize fmtU g=fg at *
     go_wp2_with fail
     refine (repeat_any [48] (9-(fg.length:Int)) _ (by omega) (by omega) (by simp)).mono ?_
     rintro e w5 ⟨rfl,hx5⟩
     have er:Lib.repeatL [48] (9-(fg.length:Int)).toNat=List.replicate (9-fg.length) 48:=by rw [repeat_zero];congr 1;omega
     rw [er]
     have HX5:=Lib.hid (HX4.out.trans hx5)
     clear hx5 er
     have hrl:(List.replicate (9-fg.length) (48:UInt8)).length≤9:=by simp
     generalize hrp:List.replicate (9-fg.length) (48:UInt8)=rp at *
     clear hrp
     go_wp2_with fail
     refine (bldWrite w1.heap.size w1.heap.size _ (rp++fg) _ (HBr.out.ext HX5.out) (by have:=HCL.out;have h2:(rp++fg).length=rp.length+fg.length:=List.length_append;omega) (Nat.le_trans HXr.out.size HX5.out.size)).mono ?_
     rintro e w7 ⟨rfl,hB7,hb7⟩
     rw [HNX.out] at hB7
     have HB7:=Lib.hid hB7
     have HX7:Hid (Ext w1 w7):=Lib.hid (Below.trans (HXr.out.trans HX5.out) hb7)
     clear hB7 hb7
     go_wp2_with fail
     exact ⟨⟨j,by omega,by first | rfl | go_num,HB7.out,HX7.out⟩,by simp [intOf] <;> omega⟩
  ·go_wp2_with fail
   refine (bldMinus w1.heap.size w1.heap.size [] _ (Bld.new w1) (by simp) (Ext.new w1 _).size).mono ?_
   rintro e w2 ⟨rfl,hB2,hb2⟩
   have HX2:Hid (Ext w1 w2):=Lib.hid (Below.trans (Ext.new w1 _) hb2)
   have HB2:=Lib.hid hB2
   have hct2:=(HX2.out.cell (p:=⟨ab,ao+r.length,none⟩) hab1).trans hct
   clear hB2 hb2 hct
   go_wp2_with fail
   refine (fmtUint top (by omega) _ (HE.out.ext (HX0.out.trans HX2.out))).mono ?_
   rintro e w4 ⟨rfl,hx4⟩
   have HX4:=Lib.hid hx4
   clear hx4 hct2
   go_wp2_with fail
   refine (bldWrite w1.heap.size w1.heap.size _ (fmtU top) _ (HB2.out.ext HX4.out) (by simp;omega) (HX2.out.trans HX4.out).size).mono ?_
   rintro e w3 ⟨rfl,hB3,hb3⟩
   have HB3:Hid (Bld w1.heap.size w1.heap.size (preT true++fmtU top++lowT (r.drop r.length)) w3):=Lib.hid (by
    rw [List.drop_length];simpa [preT,lowT] using hB3)
   have HX3:Hid (Ext w1 w3):=Lib.hid (Below.trans (HX2.out.trans HX4.out) hb3)
   clear hB3 hb3 HX2 HX4 HB2
   go_wp2_with fail
   go_loopw [5,6] (fun z _ wr=>TextAt true top r w w1 z wr) (fun z _ _=>(intOf z+1).toNat)
   case atStart=>exact ⟨r.length,Nat.le_refl _,by first | rfl | go_num | (congr 1;omega),HB3.out,HX3.out⟩
   case round =>
    clear HB3 HX3
    obtain ⟨k,hk,rfl,hB,hx⟩:=hrel
    have HBr:=Lib.hid hB
    have HXr:=Lib.hid hx
    clear hB hx
    rcases Nat.eq_zero_or_pos k with h0 | h0
    ·subst h0
     have HB9:Hid (Bld w1.heap.size w1.heap.size (txt true n) wr):=Lib.hid (by rw [← HT.out];exact HBr.out)
     go_wp2_with fail
     refine (Tryz.Builder_String_any_f w1.heap.size w1.heap.size (txt true n) _ HB9.out HXr.out.size).mono ?_
     rintro e w6 ⟨rfl,_,hb6⟩
     go_wp2_with fail
     go_ret
     exact ⟨rfl,HX0.out.trans (Below.trans HXr.out hb6)⟩
    ·obtain ⟨j,rfl⟩:∃ j,k=j+1:=⟨k-1,by omega⟩
     have hj:j<r.length:=by omega
     have hcj:=(HXr.out.cell (p:=⟨ab,ao+j,none⟩) hab1).trans ((HX0.out.cell (p:=⟨ab,ao+j,none⟩) hab).trans (HCR.out j hj))
     have hg:(r[j]'hj)<1000000000:=HB.out _ (List.getElem_mem hj)
     have HGL:=Lib.hid (fmtU_len (g:=r[j]'hj) hg)
     have HNX:Hid (preT true++fmtU top++lowT (r.drop (j+1))++(List.replicate (9-(fmtU (r[j]'hj)).length) 48++fmtU (r[j]'hj))=preT true++fmtU top++lowT (r.drop j)):=Lib.hid (by
      rw [List.drop_eq_getElem_cons hj,lowT_cons];unfold pad9;simp only [List.append_assoc])
     have HCL:Hid ((preT true++fmtU top++lowT (r.drop (j+1))).length≤9000100):=Lib.hid (by
      rw [List.length_append,List.length_append,lowT_len _ (fun g hg=>HB.out g (List.mem_of_mem_drop hg)),List.length_drop]
      have:(preT true).length≤1:=by decide
      omega)
     have e0:((j+1:Nat):Int)-1=(j:Int):=by omega
     rw [e0]
     clear e0
     generalize r[j]'hj=g at *
     go_wp2_with fail
     refine (fmtUint g (by omega) _ (HE.out.ext (HX0.out.trans HXr.out))).mono ?_
     rintro e w4 ⟨rfl,hx4⟩
     have HX4:=Lib.hid hx4
     clear hx4
     have hfl:=HGL.out
     generalize fmtU g=fg at *
     go_wp2_with fail
     refine (repeat_any [48] (9-(fg.length:Int)) _ (by omega) (by omega) (by simp)).mono ?_
     rintro e w5 ⟨rfl,hx5⟩
     have er:Lib.repeatL [48] (9-(fg.length:Int)).toNat=List.replicate (9-fg.length) 48:=by rw [repeat_zero];congr 1;omega
     rw [er]
     have HX5:=Lib.hid (HX4.out.trans hx5)
     clear hx5 er
     have hrl:(List.replicate (9-fg.length) (48:UInt8)).length≤9:=by simp
     generalize hrp:List.replicate (9-fg.length) (48:UInt8)=rp at *
     clear hrp
     go_wp2_with fail
     refine (bldWrite w1.heap.size w1.heap.size _ (rp++fg) _ (HBr.out.ext HX5.out) (by have:=HCL.out;have h2:(rp++fg).length=rp.length+fg.length:=List.length_append;omega) (Nat.le_trans HXr.out.size HX5.out.size)).mono ?_
     rintro e w7 ⟨rfl,hB7,hb7⟩
     rw [HNX.out] at hB7
     have HB7:=Lib.hid hB7
     have HX7:Hid (Ext w1 w7):=Lib.hid (Below.trans (HXr.out.trans HX5.out) hb7)
     clear hB7 hb7
     go_wp2_with fail
     exact ⟨⟨j,by omega,by first | rfl | go_num,HB7.out,HX7.out⟩,by simp [intOf] <;> omega⟩
end
section
open Go.RowKit
attribute [local go_sem] size_bs toList_bs extract_bs get_bs append_bs lit_append append_lit
theorem refDigits_core (l t:Bs) (b:Bool) (w:World) (hs:(t.length:Int)≤1000000000000) (hcase:(l=45 :: t∧b=true)∨(t=l∧b=false∧isMin t=false)) :
  Calls Tryz.prog 200 #[.string (bs l)] w fun e w'=>e = .returned (.tuple #[.string (bs (magT t)),.bool (negT b t)])∧w=w':=by
 have key:(l=45 :: t∧b=true)∨(t=l∧b=false∧∃ h0:0<t.length,((t[0].toNat:Int) == 45)=false)∨(t=l∧b=false∧¬ 0<t.length):=by
  rcases hcase with h | ⟨rfl,rfl,hm⟩
  ·exact .inl h
  ·cases t with
   |nil=>exact .inr (.inr ⟨rfl,rfl,by simp⟩)
   |cons c r=>exact .inr (.inl ⟨rfl,rfl,by simp,by have:=byte_ne (c:=c) (d:=45) (by simpa [isMin] using hm);simpa using this⟩)
 clear hcase
 rcases key with ⟨rfl,rfl⟩ | ⟨rfl,rfl,h0,h1⟩ | ⟨rfl,rfl,h0⟩
 all_goals
  go_enter Tryz.func200,Tryz.ntmps200
  go_wp2
  go_loop [6] (fun i=>∃ k:Nat,k≤t.length∧i = .int .i64 k∧(t.take k).all isD=true) (fun i=>t.length-(intOf i).toNat)
  case atStart=>exact ⟨0,Nat.zero_le _,rfl,rfl⟩
  case round =>
   obtain ⟨k,hk,rfl,hd⟩:=hrel
   have HD:=Lib.hid hd
   clear hd
   by_cases hlt:k<t.length
   ·by_cases hA:(t[k].toNat:Int)<48
    ·go_wp2
     go_ret2
     exact ⟨by rw [magT_bad t k hlt (by left;exact_mod_cast hA),negT_bad _ t k hlt (by left;exact_mod_cast hA)];rfl,rfl⟩
    ·by_cases hB:57<(t[k].toNat:Int)
     ·go_wp2
      go_ret2
      exact ⟨by rw [magT_bad t k hlt (by right;exact_mod_cast hB),negT_bad _ t k hlt (by right;exact_mod_cast hB)];rfl,rfl⟩
     ·go_wp2
      go_round
      case rel=>exact ⟨k+1,by omega,by go_num,take_all_succ t k hlt HD.out (by omega) (by omega)⟩
      case measure=>simp [intOf];omega
   ·have hall:=Lib.hid (take_all_end t k hlt HD.out)
    go_wp2
    go_loop [4] (fun v=>∃ r:Bs,v = .string (bs r)∧r.length≤t.length∧noZeros r=noZeros t) (fun v=>strLen v)
    case atStart=>exact ⟨t,rfl,Nat.le_refl _,rfl⟩
    case round =>
     obtain ⟨r,rfl,hrl,hz⟩:=hrel
     have HZ:=Lib.hid hz
     clear hz
     cases r with
     |nil =>
      go_wp2
      go_ret2
      exact ⟨by rw [magT_good t hall.out,negT_good _ t hall.out,← HZ.out];simp [noZeros],rfl⟩
     |cons c q =>
      by_cases hc:c=48
      ·subst hc
       go_wp2
       go_round
       case rel=>exact ⟨q,rfl,by simp at hrl;omega,HZ.out⟩
       case measure=>simp [strLen,size_bs]
      ·have hcb:((c.toNat:Int) == 48)=false:=by have:=byte_ne (c:=c) (d:=48) hc;simpa using this
       go_wp2
       go_ret2
       exact ⟨by rw [magT_good t hall.out,negT_good _ t hall.out,← HZ.out];simp [noZeros,hc],rfl⟩
theorem refDigits (l:Bs) (w:World) (hs:l.length≤1000000000) :
  Calls Tryz.prog 200 #[.string (bs l)] w fun e w'=>e = .returned (.tuple #[.string (bs (mag l)),.bool (neg l)])∧w=w':=by
 have hl:=strip_le l
 refine refDigits_core l (strip l) (isMin l) w (by omega) ?_
 unfold strip
 cases l with
 |nil=>exact .inr ⟨rfl,rfl,rfl⟩
 |cons c r =>
  by_cases h:c=45
  ·left;simp [isMin,h]
  ·right;simp [isMin,h]
theorem refCanonical (l:Bs) (w:World) (hs:l.length≤1000000000) :
  Calls Tryz.prog 129 #[.string (bs l)] w fun e w'=>e = .returned (.string (bs (canon l)))∧w=w':=by
 have hm:=mag_le l
 go_enter Tryz.func129,Tryz.ntmps129
 go_wp2_with fail
 refine (refDigits l _ hs).mono ?_
 rintro e w1 ⟨rfl,rfl⟩
 by_cases hn:neg l=true
 ·go_wp2_with fail
  go_ret
  exact ⟨by unfold canon;rw [if_pos hn];rfl,rfl⟩
 ·have hnb:neg l=false:=by simpa using hn
  go_wp2_with fail
  go_ret
  exact ⟨by unfold canon;rw [if_neg hn];rfl,rfl⟩
theorem refCheckI (l:Bs) (w:World) (hs:l.length≤1000000000) :
  Calls Tryz.prog 74 #[.string (bs l)] w fun e w'=>e = .returned (.int .i64 (checkI l))∧w=w':=by
 have HS:=Lib.hid hs
 clear hs
 go_enter Tryz.func74,Tryz.ntmps74
 go_wp2_with fail
 refine (refCanonical l _ HS.out).mono ?_
 rintro e w1 ⟨rfl,rfl⟩
 by_cases hn:canon l=l
 ·have hb:(canon l == l)=true:=beq_iff_eq.2 hn
  have HN:=Lib.hid hn
  clear hn
  go_wp2_with fail
  go_ret
  exact ⟨by unfold checkI;rw [if_pos HN.out];rfl,rfl⟩
 ·have hb:(canon l == l)=false:=beq_eq_false_iff_ne.2 hn
  have HN:=Lib.hid hn
  clear hn
  go_wp2_with fail
  go_ret
  exact ⟨by unfold checkI;rw [if_neg HN.out];rfl,rfl⟩
end
section
open Go.RowKit
attribute [local go_sem] size_bs toList_bs extract_bs get_bs append_bs lit_append append_lit
theorem encode_one (n:Nat) (h:n<128):Utf8.encode (n:Int)=bs [UInt8.ofNat n]:=by
 unfold Utf8.encode
 have hv:Utf8.valid (n:Int)=true:=by simp [Utf8.valid];omega
 rw [hv]
 simp only [if_true,Int.toNat_natCast]
 rw [if_pos h];rfl
theorem encode_dig (q:Nat):Utf8.encode (48+(q:Int) % 10)=bs [UInt8.ofNat (48+q % 10)]:=by
 have:(48+(q:Int) % 10)=((48+q % 10:Nat):Int):=by omega
 rw [this];exact encode_one _ (by omega)
theorem dig10_step {q n:Nat} {l:Bs} (h0:q≠0) (h:dig10 q++l=dig10 n):dig10 (q / 10)++(UInt8.ofNat (48+q % 10) :: l)=dig10 n:=by
 rw [← h,dig10_pos h0];simp
theorem dval_u8 {c:UInt8} (h:isD c=true):48≤(c.toNat:Int)∧(c.toNat:Int)≤57∧(dval c:Int)=(c.toNat:Int)-48:=by
 have:=(isD_iff c).1 h
 unfold dval;omega
theorem refOf_pos (n:Nat) (hn:n≤4000000000000000000) (w:World) :
  Calls Tryz.prog 192 #[.int .i64 (n:Int)] w fun e w'=>e = .returned (.string (bs (ofI n)))∧w=w':=by
 by_cases h0:n=0
 ·subst h0
  go_enter Tryz.func192,Tryz.ntmps192
  go_wp2_with fail
  go_ret
  exact ⟨by rw [show ofI ((0:Nat):Int)=[] from (ofI_nil_iff 0).2 rfl];rfl,rfl⟩
 ·have hb:((n:Int) == 0)=false:=by rw [beq_eq_false_iff_ne];omega
  have hng:¬ ((n:Int)<0):=by omega
  have HO:Hid (dig10 n=ofI (n:Int)):=Lib.hid (by unfold ofI;rw [if_neg (by omega),Int.natAbs_natCast])
  have HLN:Hid ((dig10 n).length≤19):=Lib.hid (dig10_len (by omega))
  clear h0
  go_enter Tryz.func192,Tryz.ntmps192
  go_wp2_with fail
  go_loop [3,4,5] (fun t v _=>∃ (q:Nat) (l:Bs),q≤n∧v = .int .i64 (q:Int)∧t = .string (bs l)∧dig10 q++l=dig10 n) (fun _ v _=>(intOf v).toNat)
  case atStart=>exact ⟨n,[],Nat.le_refl _,rfl,rfl,by simp⟩
  case round =>
   obtain ⟨q,l,hq,rfl,rfl,hl⟩:=hrel
   have hll:l.length≤19:=by have h1:=congrArg List.length hl;have h2:=HLN.out;rw [List.length_append] at h1;omega
   by_cases hz:q=0
   ·subst hz
    have HL:Hid (l=ofI (n:Int)):=Lib.hid (by rw [dig10_zero,List.nil_append] at hl;rw [hl];exact HO.out)
    clear hl
    go_wp2_with fail
    go_ret
    exact ⟨by rw [HL.out];rfl,rfl⟩
   ·have HL:=Lib.hid (dig10_step hz hl)
    have hqb:((q:Int) == 0)=false:=by rw [beq_eq_false_iff_ne];omega
    have hqb2:((q:Int) != 0)=true:=by rw [bne_iff_ne];omega
    have hd:¬ ((q:Int) % 10<0):=by omega
    have he:=encode_dig q
    clear hl
    have hcv:∀ W:World,(convert 21 9 (.int .i32 (48+(q:Int) % 10))).run Tryz.prog W = .ok (.string (bs [UInt8.ofNat (48+q % 10)])) W:=fun W=>by rw [run_convert_int_string W _ _ _ _ (by rw [Tryz.underlying21];rfl) Tryz.underlying9,he]
    clear he
    generalize hdd:UInt8.ofNat (48+q % 10)=dd at *
    clear hdd
    go_wp2_with fail
    go_round
    case rel=>exact ⟨q / 10,_,by omega,by go_num,rfl,HL.out⟩
    case measure=>simp [intOf];omega
theorem tmod_neg (q:Nat):(-(q:Int)).tmod 10 = -((q % 10:Nat):Int):=by
 rw [Int.neg_tmod];rfl
theorem tdiv_neg (q:Nat):(-(q:Int)).tdiv 10 = -((q / 10:Nat):Int):=by
 rw [Int.neg_tdiv];rfl
theorem refOf_neg (n:Nat) (h0:n≠0) (hn:n≤4000000000000000000) (w:World) :
  Calls Tryz.prog 192 #[.int .i64 (-(n:Int))] w fun e w'=>e = .returned (.string (bs (ofI (-(n:Int)))))∧w=w':=by
 have hb:(-(n:Int) == 0)=false:=by rw [beq_eq_false_iff_ne];omega
 have hng : -(n:Int)<0:=by omega
 have HO:Hid (45 :: dig10 n=ofI (-(n:Int))):=Lib.hid (by unfold ofI;rw [if_pos (by omega),Int.natAbs_neg,Int.natAbs_natCast])
 have HLN:Hid ((dig10 n).length≤19):=Lib.hid (dig10_len (by omega))
 clear h0
 go_enter Tryz.func192,Tryz.ntmps192
 go_wp2_with fail
 go_loop [3,4,5] (fun t v _=>∃ (q:Nat) (l:Bs),q≤n∧v = .int .i64 (-(q:Int))∧t = .string (bs l)∧dig10 q++l=dig10 n) (fun _ v _=>(- intOf v).toNat)
 case atStart=>exact ⟨n,[],Nat.le_refl _,rfl,rfl,by simp⟩
 case round =>
  obtain ⟨q,l,hq,rfl,rfl,hl⟩:=hrel
  have hll:l.length≤19:=by have h1:=congrArg List.length hl;have h2:=HLN.out;rw [List.length_append] at h1;omega
  by_cases hz:q=0
  ·subst hz
   have HL:Hid (45 :: l=ofI (-(n:Int))):=Lib.hid (by rw [dig10_zero,List.nil_append] at hl;rw [hl];exact HO.out)
   clear hl
   go_wp2_with fail
   go_ret
   exact ⟨by rw [← HL.out];rfl,rfl⟩
  ·have HL:=Lib.hid (dig10_step hz hl)
   have hqb:(-(q:Int) == 0)=false:=by rw [beq_eq_false_iff_ne];omega
   have hqb2:(-(q:Int) != 0)=true:=by rw [bne_iff_ne];omega
   have hr:=tmod_neg q
   have ht:=tdiv_neg q
   have hr9:q % 10<10:=Nat.mod_lt _ (by decide)
   have htq:q / 10<q:=by omega
   have HQ:Hid (q / 10≤n):=Lib.hid (by omega)
   clear hl
   generalize q % 10=r at *
   have he:Utf8.encode (48+(r:Int))=bs [UInt8.ofNat (48+r)]:=by
    have:(48+(r:Int))=((48+r:Nat):Int):=by omega
    rw [this];exact encode_one _ (by omega)
   have hcv:∀ W:World,(convert 21 9 (.int .i32 (48+(r:Int)))).run Tryz.prog W = .ok (.string (bs [UInt8.ofNat (48+r)])) W:=fun W=>by rw [run_convert_int_string W _ _ _ _ (by rw [Tryz.underlying21];rfl) Tryz.underlying9,he]
   clear he
   by_cases hr0:r=0
   ·subst hr0
    have hr':(-(q:Int)).tmod 10=0:=hr
    have hcv':∀ W:World,(convert 21 9 (.int .i32 48)).run Tryz.prog W = .ok (.string (bs [UInt8.ofNat (48+0)])) W:=fun W=>hcv W
    clear hr hcv
    generalize hdd:UInt8.ofNat (48+0)=dd at *
    clear hdd
    generalize q / 10=p at *
    go_wp2_with fail
    go_round
    case rel=>exact ⟨p,_,HQ.out,by go_num,rfl,HL.out⟩
    case measure=>simp [intOf];omega
   ·have hneg : -(r:Int)<0:=by omega
    have hr1:(r:Int)<10:=by omega
    generalize hdd:UInt8.ofNat (48+r)=dd at *
    clear hdd
    generalize q / 10=p at *
    go_wp2_with fail
    go_round
    case rel=>exact ⟨p,_,HQ.out,by go_num,rfl,HL.out⟩
    case measure=>simp [intOf];omega
theorem refIntOf (z:Int) (h1 : -4000000000000000000≤z) (h2:z≤4000000000000000000) (w:World) :
  Calls Tryz.prog 192 #[.int .i64 z] w fun e w'=>e = .returned (.string (bs (ofI z)))∧w=w':=by
 by_cases h:0≤z
 ·obtain ⟨n,rfl⟩:=Int.eq_ofNat_of_zero_le h
  exact refOf_pos n (by omega) w
 ·obtain ⟨n,rfl⟩:∃ n:Nat,z = -(n:Int):=⟨z.natAbs,by omega⟩
  exact refOf_neg n (by omega) (by omega) w
theorem natOf_take_lt {m:Bs} (hd:m.all isD=true) (hl:m.length≤17) (k:Nat):natOf (m.take k)<100000000000000000:=by
 have h1:=natOf_lt (l:=m.take k) (all_take hd k)
 have h2:(m.take k).length≤17:=by rw [List.length_take];omega
 exact Nat.lt_of_lt_of_le h1 (Nat.le_trans (Nat.pow_le_pow_right (by decide) h2) (by decide))
theorem all_at {m:Bs} (h:m.all isD=true) {k:Nat} (hk:k<m.length):isD (m[k]'hk)=true:=List.all_eq_true.1 h _ (List.getElem_mem hk)
theorem refShort (l:Bs) (w:World) (hs:l.length≤1000000000) (hl:(mag l).length≤17) :
  Calls Tryz.prog 191 #[.string (bs l)] w fun e w'=>e = .returned (.tuple #[.int .i64 (valI l),.bool true])∧w=w':=by
 have HDIG:=Lib.hid (fun w=>refDigits l w hs)
 have HD:=Lib.hid (mag_all l)
 have HV:Hid (valI l=if neg l then -(natOf (mag l):Int) else natOf (mag l)):=Lib.hid rfl
 generalize valI l=z at *
 generalize mag l=m at *
 generalize neg l=b at *
 clear hs
 have HL:=Lib.hid hl
 have hlb:¬ (17<(m.length:Int)):=by omega
 clear hl
 go_enter Tryz.func191,Tryz.ntmps191
 go_wp2_with fail
 refine (HDIG.out _).mono ?_
 rintro e w1 ⟨rfl,rfl⟩
 go_wp2_with fail
 go_loop [6,7] (fun v i=>∃ k:Nat,k≤m.length∧i = .int .i64 k∧v = .int .i64 (natOf (m.take k):Nat)) (fun _ i=>m.length-(intOf i).toNat)
 case atStart=>exact ⟨0,Nat.zero_le _,rfl,rfl⟩
 case round =>
  obtain ⟨k,hk,rfl,rfl⟩:=hrel
  by_cases hlt:k<m.length
  ·have hv:=natOf_take_lt HD.out HL.out k
   have HS:=Lib.hid (natOf_take_succ m k hlt)
   obtain ⟨hc1,hc2,hc3⟩:=dval_u8 (all_at HD.out hlt)
   have HC:=Lib.hid hc3
   clear hc3
   generalize natOf (m.take k)=p at *
   go_wp2_with fail
   go_round
   case rel=>exact ⟨k+1,by omega,by go_num,by rw [HS.out];have:=HC.out;congr 1;omega⟩
   case measure=>simp [intOf];omega
  ·have hv:=natOf_take_lt HD.out HL.out k
   have HT:Hid (natOf (m.take k)=natOf m):=Lib.hid (by rw [List.take_of_length_le (by omega)])
   generalize natOf (m.take k)=p at *
   cases b
   ·go_wp2_with fail
    go_ret2
    exact ⟨by rw [HV.out,← HT.out];rfl,rfl⟩
   ·go_wp2_with fail
    go_ret2
    exact ⟨by rw [HV.out,← HT.out];rfl,rfl⟩
theorem refShort_no (l:Bs) (w:World) (hs:l.length≤1000000000) (hl:¬ (mag l).length≤17) :
  Calls Tryz.prog 191 #[.string (bs l)] w fun e w'=>e = .returned (.tuple #[.int .i64 0,.bool false])∧w=w':=by
 have HDIG:=Lib.hid (fun w=>refDigits l w hs)
 generalize mag l=m at *
 generalize neg l=b at *
 clear hs
 have hlb:17<(m.length:Int):=by omega
 clear hl
 go_enter Tryz.func191,Tryz.ntmps191
 go_wp2_with fail
 refine (HDIG.out _).mono ?_
 rintro e w1 ⟨rfl,rfl⟩
 go_wp2_with fail
 go_ret2
 exact ⟨rfl,rfl⟩
theorem ofI_neg (l:Bs):ofI (-(valI l))=if neg l=true∨mag l=[] then mag l else 45 :: mag l:=by
 have hd:=dig10_natOf (mag_all l) (mag_lead l)
 by_cases h:neg l=true
 ·have h0:=neg_mag h
  have hv:valI l = -(natOf (mag l):Int):=by unfold valI;rw [if_pos h]
  rw [if_pos (Or.inl h),hv,Int.neg_neg]
  unfold ofI
  rw [if_neg (by omega),Int.natAbs_natCast,hd]
 ·have hv:valI l=(natOf (mag l):Int):=by unfold valI;rw [if_neg h]
  by_cases hm:mag l=[]
  ·rw [if_pos (Or.inr hm),hv,hm];exact (ofI_nil_iff 0).2 rfl
  ·have hp:natOf (mag l)≠0:=by rw [Ne,natOf_zero (mag_all l) (mag_lead l)];exact hm
   have hno:¬ (neg l=true∨mag l=[]):=fun x=>x.elim h hm
   rw [if_neg hno,hv]
   unfold ofI
   rw [if_pos (by omega),Int.natAbs_neg,Int.natAbs_natCast,hd]
theorem refNeg (l:Bs) (w:World) (hs:l.length≤1000000000) :
  Calls Tryz.prog 125 #[.string (bs l)] w fun e w'=>e = .returned (.string (bs (ofI (-(valI l)))))∧w=w':=by
 have HDIG:=Lib.hid (fun w=>refDigits l w hs)
 have HO:=Lib.hid (ofI_neg l)
 have HML:Hid ((mag l).length≤1000000000):=Lib.hid (Nat.le_trans (mag_le l) hs)
 generalize ofI (-(valI l))=r at *
 generalize mag l=m at *
 generalize neg l=b at *
 clear hs
 by_cases h:b=true∨m=[]
 ·have HR:Hid (r=m):=Lib.hid (by rw [HO.out,if_pos h])
  clear HO
  rcases h with h | h
  ·subst h
   go_enter Tryz.func125,Tryz.ntmps125
   go_wp2_with fail
   refine (HDIG.out _).mono ?_
   rintro e w1 ⟨rfl,rfl⟩
   go_wp2_with fail
   go_ret
   exact ⟨by rw [HR.out];rfl,rfl⟩
  ·subst h
   go_enter Tryz.func125,Tryz.ntmps125
   go_wp2_with fail
   refine (HDIG.out _).mono ?_
   rintro e w1 ⟨rfl,rfl⟩
   cases b
   all_goals
    go_wp2_with fail
    go_ret
    exact ⟨by rw [HR.out];rfl,rfl⟩
 ·have HR:Hid (r=45 :: m):=Lib.hid (by rw [HO.out,if_neg h])
  clear HO
  have hb:b=false:=by cases b;rfl;exact absurd (.inl rfl) h
  have hm:m≠[]:=fun e=>h (.inr e)
  subst hb
  have hmb:m.isEmpty=false:=by simpa using hm
  have hmb2:(m == [])=false:=by simpa using hm
  have hml:=HML.out
  clear h hm
  go_enter Tryz.func125,Tryz.ntmps125
  go_wp2_with fail
  refine (HDIG.out _).mono ?_
  rintro e w1 ⟨rfl,rfl⟩
  go_wp2_with fail
  go_ret
  exact ⟨by rw [HR.out];rfl,rfl⟩
end
end Go.Proofs.YthgpheopnhajaaaGreatDoor
