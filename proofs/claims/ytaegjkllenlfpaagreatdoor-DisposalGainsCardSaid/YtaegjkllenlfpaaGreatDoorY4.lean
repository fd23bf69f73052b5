/- The seat's texts, part Y4. -/
import Derived.Test.YtaegjkllenlfpaaGreatDoorY3
set_option maxRecDepth 100000
set_option maxHeartbeats 8000000
namespace Go.Proofs.YtaegjkllenlfpaaGreatDoor
open Tryz
variable {w w':World}{A:Option Addr}{gs R m a0 l a' a1:List Nat}{k g x y j v P X c o d rest bo ca W T D p low yl e:Nat}
section
open Go.RowKit
attribute [local go_sem] size_bs toList_bs extract_bs get_bs append_bs lit_append append_lit
theorem mq(B b:Nat)(cur l:Bs)(w:World)(hB:Bld B b cur w)(hl:cur.length+l.length<=1000000000)(hBw:B<=w.heap.size) :
  Calls prog 144 #[.pointer (some ⟨b,0,none⟩),.string (bs l)] w fun e w'=>e = .returned (.tuple #[.int .i64 l.length,.nilIface])∧Bld B b (cur++l) w'∧Below B w w':=by
 refine(Builder_WriteString_k B b (Lib.byteCells cur) (bs l) w hB (by rw[Lib.byteCells_length,size_bs];omega) hBw).mono ?_;rintro e w'⟨rfl,h1,h2,_⟩
 have e:Lib.byteCells cur++Lib.strCells (bs l)=Lib.byteCells (cur++l):=by
  unfold Lib.strCells Lib.byteCells;rw[data_bs];exact List.map_append.symm
 rw[e]at h1;exact⟨by rw[size_bs],.inr h1,h2⟩
theorem Bi(B b:Nat)(cur:Bs)(w:World)(hB:Bld B b cur w)(hl:cur.length<=1000000000)(hBw:B<=w.heap.size) :
  Calls prog 143 #[.pointer (some ⟨b,0,none⟩),.int .u8 45] w fun e w'=>e = .returned .nilIface∧Bld B b (cur++[45]) w'∧Below B w w':=by
 refine(Builder_WriteByte_k B b (Lib.byteCells cur) 45 w hB (by rw[Lib.byteCells_length];omega) hBw).mono ?_;rintro e w'⟨rfl,h1,h2,_⟩
 have e:Lib.byteCells cur++[.int .u8 45]=Lib.byteCells (cur++[45]):=by
  unfold Lib.byteCells;rw[Pp];rfl
 rw[e]at h1;exact⟨rfl,.inr h1,h2⟩
theorem oM(k:Nat):Lib.repeatL [48] k=List.replicate k 48:=by
 induction k with
 |zero=>rfl
 |succ k ih=>rw[List.replicate_succ,←ih];simp[Lib.repeatL]
def dL(b:Bool)(n:Nat):Bs:=if n=0 then [] else if b then 45 :: dig10 n else dig10 n
theorem fX(b:Bool)(n:Nat):dL b n=ofI (sgn b n):=by
 by_cases h:n=0
 ·subst h;have e:sgn b 0=0:=by cases b <;> rfl
  rw[e,(ofI_nil_iff 0).2 rfl];rfl
 ·cases b
  ·have e:sgn false n=(n:Int):=rfl;have h2:ofI (n:Int)=dig10 n:=by unfold ofI;rw[Mj (by omega),NL]
   rw[e,h2];unfold dL;rw[Mj h];rfl
  ·have e:sgn true n = -(n:Int):=rfl;have h2:ofI (-(n:Int))=45 :: dig10 n:=by unfold ofI;rw[Mq (by omega),Rj,NL]
   rw[e,h2];unfold dL;rw[Mj h];rfl
def gQ(b:Bool):Bs:=if b then [45] else []
def yD(b:Bool)(top:Nat)(r:List Nat)(_w w1:World)(z:Value)(wr:World):Prop :=
 ∃k:Nat,k<=r.length∧z = .int .i64 ((k:Int)-1)∧Bld w1.heap.size w1.heap.size (gQ b++fmtU top++lowT (r.drop k)) wr∧Ext w1 wr
theorem cJ(b:Bool)(n:Nat)(A:Option Addr)(c:Nat)(w:World)(hA:RdU w A (gr n))(hn:(gr n).length<=1000000)(hc:(gr n).length<=c)(hm:c<=maxLen)(hE:Env w) :
  Calls prog 69 #[.agg #[.bool b,.slice A (gr n).length c]] w fun e w'=>e = .returned (.string (bs (dL b n)))∧Ext w w':=by
 have HCUT:=qh (fun W h=>jB (gr n) A c W h hc hm (gr_lt n));rw[cutL_gr_self]at HCUT;have HE:=qh hE;clear hE;by_cases h0:n=0
 ·subst h0;have HA:=qh hA;clear hA;rw[gr_zero]at *;go_enter func69,ntmps69;go_wp2_with fail;refine(HCUT.out _ (HA.out.ext (Id _ _))).mono ?_;rintro e w1⟨rfl,rfl⟩;go_wp2_with fail;go_ret;exact⟨rfl,Id _ _⟩
 ·obtain⟨r,top,hr⟩:∃r top,gr n=r++[top]:=by
   have:gr n≠[]:=by rw[gr_pos h0];simp
   exact⟨(gr n).dropLast,(gr n).getLast this,(QG this).symm⟩
  have HT:Hid (gQ b++fmtU top++lowT r=dL b n):=qh (by
   rw[Mz,text_gr hr];unfold gQ dL;rw[Mj h0];cases b <;> rfl)
  have hb:=gr_lt n;rw[hr]at hb hA hc HCUT hn ⊢;have HB:=qh (fun g (hg:g ∈ r)=>hb g (Ph _ hg));have htop:top<1000000000:=hb top (by simp);have hrl:(r++[top]).length=r.length+1:=by simp
  rw[hrl]at hc hn HCUT ⊢;have hln:r.length<=1000000:=by omega
  have HA:=qh hA;have hft:=fmtU_len (g:=top) htop;clear hA hb hr hrl h0;go_enter func69,ntmps69;go_wp2_with fail;refine(HCUT.out _ (HA.out.ext (Id _ _))).mono ?_;rintro e w0⟨rfl,rfl⟩;obtain⟨ab,ao,rfl,hab,hcell0⟩:=HA.out.at_ (k:=r.length) (by simp);have HCT:Hid (w.cell? ⟨ab,ao+r.length,none⟩=some (.int .u64 top)):=qh (by simpa using hcell0)
  have HCR:Hid (∀(k:Nat) (h:k<r.length),w.cell? ⟨ab,ao+k,none⟩=some (.int .u64 (r[k]'h))):=qh (fun k h=>by
   have:=Reads.cell HA.out (j:=k) (u := .int .u64 (r[k]'h)) (by rw[ucells,Pp,OY (by simpa using h)];simp[h]);exact this)
  clear hcell0;have HX0:Hid (Ext w (w.alloc (.cells #[.bool b,.slice (some ⟨ab,ao,none⟩) (r.length+1) c] 112))):=qh (Id _ _);have HBX:=qh (blk_at w 112 #[.bool b,.slice (some ⟨ab,ao,none⟩) (r.length+1) c] w.heap.size rfl);have x0:=HBX.out.cell 0;simp only[Mk,Mm]at x0;generalize (w.alloc (.cells #[.bool b,.slice (some ⟨ab,ao,none⟩) (r.length+1) c] 112))=w1 at *;have hl1:=HBX.out.lt;have hlz:((r.length:Int)+1 == 0)=false:=by rw[Mt];omega
  have hab1:ab<w1.heap.size:=M5 hab HX0.out.size;have hct:=(HX0.out.cell (p:=⟨ab,ao+r.length,none⟩) hab).trans HCT.out
  cases b
  ·go_wp2_with fail;refine(fmtUint top (by omega) _ (HE.out.ext (HX0.out.trans (Id _ _)))).mono ?_;rintro e w2⟨rfl,hx2⟩;have HX2:=qh hx2;clear hx2;go_wp2_with fail;refine(mq w1.heap.size w1.heap.size [] (fmtU top) _ ((Bld.new w1).ext HX2.out) (by simp;omega) (HX2.out.of_alloc).size).mono ?_;rintro e w3⟨rfl,hB3,hb3⟩
   have HB3:Hid (Bld w1.heap.size w1.heap.size (gQ false++fmtU top++lowT (r.drop r.length)) w3):=qh (by
    rw[O9];simpa[gQ,lowT] using hB3)
   have HX3:Hid (Ext w1 w3):=qh (PZ (HX2.out.of_alloc) hb3);clear hB3 hb3 HX2 hct;go_wp2_with fail;go_loopw [5,6] (fun z _ wr=>yD false top r w w1 z wr) (fun z _ _=>(intOf z+1).toNat)
   case atStart=>exact⟨r.length,Mn _,by first|rfl|go_num|(congr 1;omega),HB3.out,HX3.out⟩
   case round =>
    clear HB3 HX3;obtain⟨k,hk,rfl,hB,hx⟩:=hrel;have HBr:=qh hB;have HXr:=qh hx;clear hB hx;rcases MB k with h0|h0
    ·subst h0;have HB9:Hid (Bld w1.heap.size w1.heap.size (dL false n) wr):=qh (by rw[←HT.out];exact HBr.out);go_wp2_with fail;refine(Builder_String_any_f w1.heap.size w1.heap.size (dL false n) _ HB9.out HXr.out.size).mono ?_;rintro e w6⟨rfl,_,hb6⟩;go_wp2_with fail;go_ret;exact⟨rfl,HX0.out.trans (PZ HXr.out hb6)⟩
    ·obtain⟨j,rfl⟩:∃j,k=j+1:=⟨k-1,by omega⟩;have hj:j<r.length:=by omega
     have hcj:=(HXr.out.cell (p:=⟨ab,ao+j,none⟩) hab1).trans ((HX0.out.cell (p:=⟨ab,ao+j,none⟩) hab).trans (HCR.out j hj));have hg:(r[j]'hj)<1000000000:=HB.out _ (Ml hj);have HGL:=qh (fmtU_len (g:=r[j]'hj) hg)
     have HNX:Hid (gQ false++fmtU top++lowT (r.drop (j+1))++(List.replicate (9-(fmtU (r[j]'hj)).length) 48++fmtU (r[j]'hj))=gQ false++fmtU top++lowT (r.drop j)):=qh (by
      rw[MR hj,lowT_cons];unfold pad9;simp only[Mz])
     have HCL:Hid ((gQ false++fmtU top++lowT (r.drop (j+1))).length<=9000100):=qh (by
      rw[Mp,Mp,lowT_len _ (fun g hg=>HB.out g (NA hg)),MU];have:(gQ false).length<=1:=by decide
      omega)
     have e0:((j+1:Nat):Int)-1=(j:Int):=by omega
     rw[e0];clear e0;generalize r[j]'hj=g at *;go_wp2_with fail;refine(fmtUint g (by omega) _ (HE.out.ext (HX0.out.trans HXr.out))).mono ?_;rintro e w4⟨rfl,hx4⟩;have HX4:=qh hx4;clear hx4;have hfl:=HGL.out;generalize fmtU g=fg at *;go_wp2_with fail;refine(repeat_any [48] (9-(fg.length:Int)) _ (by omega) (by omega) (by simp)).mono ?_;rintro e w5⟨rfl,hx5⟩;have er:Lib.repeatL [48] (9-(fg.length:Int)).toNat=List.replicate (9-fg.length) 48:=by rw[oM];congr 1;omega
     rw[er];have HX5:=HX4.qt hx5;clear hx5 er;have hrl:(List.replicate (9-fg.length) (48:UInt8)).length<=9:=by simp
     generalize hrp:List.replicate (9-fg.length) (48:UInt8)=rp at *;clear hrp;go_wp2_with fail;refine(mq w1.heap.size w1.heap.size _ (rp++fg) _ (HBr.out.ext HX5.out) (by have:=HCL.out;have h2:(rp++fg).length=rp.length+fg.length:=Mp;omega) (Mx HXr.out.size HX5.out.size)).mono ?_;rintro e w7⟨rfl,hB7,hb7⟩;rw[HNX.out]at hB7;have HB7:=qh hB7;have HX7:Hid (Ext w1 w7):=qh (PZ (HXr.out.trans HX5.out) hb7);clear hB7 hb7;go_wp2_with fail;exact⟨⟨j,by omega,by first|rfl|go_num,HB7.out,HX7.out⟩,by simp[intOf] <;> omega⟩
  ·go_wp2_with fail;refine(Bi w1.heap.size w1.heap.size [] _ (Bld.new w1) (by simp) (Id w1 _).size).mono ?_;rintro e w2⟨rfl,hB2,hb2⟩;have HX2:Hid (Ext w1 w2):=qh (PZ (Id w1 _) hb2);have HB2:=qh hB2;have hct2:=(HX2.out.cell (p:=⟨ab,ao+r.length,none⟩) hab1).trans hct;clear hB2 hb2 hct;go_wp2_with fail;refine(fmtUint top (by omega) _ (HE.out.ext (HX0.out.trans HX2.out))).mono ?_;rintro e w4⟨rfl,hx4⟩;have HX4:=qh hx4;clear hx4 hct2;go_wp2_with fail;refine(mq w1.heap.size w1.heap.size _ (fmtU top) _ (HB2.out.ext HX4.out) (by simp;omega) (HX2.out.trans HX4.out).size).mono ?_;rintro e w3⟨rfl,hB3,hb3⟩
   have HB3:Hid (Bld w1.heap.size w1.heap.size (gQ true++fmtU top++lowT (r.drop r.length)) w3):=qh (by
    rw[O9];simpa[gQ,lowT] using hB3)
   have HX3:Hid (Ext w1 w3):=qh (PZ (HX2.out.trans HX4.out) hb3);clear hB3 hb3 HX2 HX4 HB2;go_wp2_with fail;go_loopw [5,6] (fun z _ wr=>yD true top r w w1 z wr) (fun z _ _=>(intOf z+1).toNat)
   case atStart=>exact⟨r.length,Mn _,by first|rfl|go_num|(congr 1;omega),HB3.out,HX3.out⟩
   case round =>
    clear HB3 HX3;obtain⟨k,hk,rfl,hB,hx⟩:=hrel;have HBr:=qh hB;have HXr:=qh hx;clear hB hx;rcases MB k with h0|h0
    ·subst h0;have HB9:Hid (Bld w1.heap.size w1.heap.size (dL true n) wr):=qh (by rw[←HT.out];exact HBr.out);go_wp2_with fail;refine(Builder_String_any_f w1.heap.size w1.heap.size (dL true n) _ HB9.out HXr.out.size).mono ?_;rintro e w6⟨rfl,_,hb6⟩;go_wp2_with fail;go_ret;exact⟨rfl,HX0.out.trans (PZ HXr.out hb6)⟩
    ·obtain⟨j,rfl⟩:∃j,k=j+1:=⟨k-1,by omega⟩;have hj:j<r.length:=by omega
     have hcj:=(HXr.out.cell (p:=⟨ab,ao+j,none⟩) hab1).trans ((HX0.out.cell (p:=⟨ab,ao+j,none⟩) hab).trans (HCR.out j hj));have hg:(r[j]'hj)<1000000000:=HB.out _ (Ml hj);have HGL:=qh (fmtU_len (g:=r[j]'hj) hg)
     have HNX:Hid (gQ true++fmtU top++lowT (r.drop (j+1))++(List.replicate (9-(fmtU (r[j]'hj)).length) 48++fmtU (r[j]'hj))=gQ true++fmtU top++lowT (r.drop j)):=qh (by
      rw[MR hj,lowT_cons];unfold pad9;simp only[Mz])
     have HCL:Hid ((gQ true++fmtU top++lowT (r.drop (j+1))).length<=9000100):=qh (by
      rw[Mp,Mp,lowT_len _ (fun g hg=>HB.out g (NA hg)),MU];have:(gQ true).length<=1:=by decide
      omega)
     have e0:((j+1:Nat):Int)-1=(j:Int):=by omega
     rw[e0];clear e0;generalize r[j]'hj=g at *;go_wp2_with fail;refine(fmtUint g (by omega) _ (HE.out.ext (HX0.out.trans HXr.out))).mono ?_;rintro e w4⟨rfl,hx4⟩;have HX4:=qh hx4;clear hx4;have hfl:=HGL.out;generalize fmtU g=fg at *;go_wp2_with fail;refine(repeat_any [48] (9-(fg.length:Int)) _ (by omega) (by omega) (by simp)).mono ?_;rintro e w5⟨rfl,hx5⟩;have er:Lib.repeatL [48] (9-(fg.length:Int)).toNat=List.replicate (9-fg.length) 48:=by rw[oM];congr 1;omega
     rw[er];have HX5:=HX4.qt hx5;clear hx5 er;have hrl:(List.replicate (9-fg.length) (48:UInt8)).length<=9:=by simp
     generalize hrp:List.replicate (9-fg.length) (48:UInt8)=rp at *;clear hrp;go_wp2_with fail;refine(mq w1.heap.size w1.heap.size _ (rp++fg) _ (HBr.out.ext HX5.out) (by have:=HCL.out;have h2:(rp++fg).length=rp.length+fg.length:=Mp;omega) (Mx HXr.out.size HX5.out.size)).mono ?_;rintro e w7⟨rfl,hB7,hb7⟩;rw[HNX.out]at hB7;have HB7:=qh hB7;have HX7:Hid (Ext w1 w7):=qh (PZ (HXr.out.trans HX5.out) hb7);clear hB7 hb7;go_wp2_with fail;exact⟨⟨j,by omega,by first|rfl|go_num,HB7.out,HX7.out⟩,by simp[intOf] <;> omega⟩
end
section
open Go.RowKit
attribute [local go_sem] size_bs toList_bs
def icells(gs:List Nat):List Value:=gs.map fun g:Nat=>Value.int .i64 (g:Int)
def RdI(w:World)(A:Option Addr)(gs:List Nat):Prop:=Reads w 1 A gs.length (icells gs)
theorem RdI.ext(h:RdI w A gs)(he:Ext w w'):RdI w' A gs:=Reads.ext h he
theorem RdI.at_(h:RdI w A gs)(hk:k<gs.length) :
  ∃b o,A=some ⟨b,o,none⟩∧b<w.heap.size∧w.cell? ⟨b,o+k,none⟩=some (.int .i64 (gs[k]'hk)):=by
 obtain⟨b,o,rfl,hb⟩:=Reads.at_ h (by omega);exact⟨b,o,rfl,hb,Reads.cell h (by simp[icells,hk])⟩
end
section
open Go.RowKit Go.Shelf
attribute [local go_sem] size_bs toList_bs extract_bs get_bs append_bs lit_append append_lit
theorem i64Info:(prog.info? 3).map (fun i=>(i.zero,i.size,i.bytes))=some (some (.int .i64 0),1,8):=by kernel_rfl
end
section
open Go.RowKit Go.Shelf
attribute [local go_sem] size_bs toList_bs
end
section
open Go.RowKit
attribute [local go_sem] size_bs toList_bs
theorem RdI.far(h:RdI w A gs){i:Nat}(u:Value)(hne:0<gs.length->∀b o,A=some ⟨b,o,none⟩->b≠g):RdI (w.setCell ⟨g,i,none⟩ u) A gs:=by
 refine⟨h.1,fun hn=>?_⟩;obtain⟨b,o,rfl,hb,hc⟩:=h.2 hn;have hbg:=hne hn b o rfl;refine⟨b,o,rfl,by simpa[World.setCell] using hb,fun j v hv=>?_⟩;rw[←hc j v hv];unfold World.cell?;rw[Px w ⟨g,i,none⟩ u b hbg]
theorem bM{n L:Nat}(h:n<10 ^ L):(gr n).length<=L:=gr_len_le (M5 h (Nat.pow_le_pow_left (by decide) L))
theorem m7(l:Bs):natOf (mag l)<10 ^ l.length:=M5 (natOf_lt (mag_all l)) (NW (by decide) (mag_le l))
theorem qX{b b1 b2:Bool}{n L:Nat}(h:sgn b n=sgn b1 x+sgn b2 y)(hx:x<10 ^ L)(hy:y<10 ^ L):(gr n).length<=L+1:=by
 refine bM ?_;have hn:n<=x+y:=by unfold sgn at h;cases b <;> cases b1 <;> cases b2 <;> simp at h <;> omega
 rw[Nf];omega
theorem be(l:Bs){L:Nat}(h:l.length<=L):natOf (mag l)<10 ^ L:=M5 (m7 l) (NW (by decide) h)
theorem qY{z:Int}{L:Nat}(h:z.natAbs<10 ^ L):(ofI z).length<=L+1:=by
 have:=dig10_len h;unfold ofI;split <;> simp <;> omega
theorem EH(a b:Bs)(w:World)(ha:a.length<=100000)(hb:b.length<=100000)(hE:Env w) :
  Calls prog 19 #[.string (bs a),.string (bs b)] w fun e w'=>e = .returned (.string (bs (ofI (valI a+valI b))))∧Ext w w':=by
 have HR1:=qh (fun W=>cW a W (by omega));have HR2:=qh (fun W=>cW b W (by omega));obtain⟨L,hLa,hLb,hL⟩:∃L:Nat,a.length<=L∧b.length<=L∧L<=100000:=⟨max a.length b.length,by omega,by omega,by omega⟩;have HL1:Hid ((gr (natOf (mag a))).length<=1000000):=qh (by have:=bM (be a hLa);omega);have HL2:Hid ((gr (natOf (mag b))).length<=1000000):=qh (by have:=bM (be b hLb);omega);have HP1:=qh (be a hLa);have HP2:=qh (be b hLb);have HE:=qh hE;have HV:Hid (valI a+valI b=sgn (neg a) (natOf (mag a))+sgn (neg b) (natOf (mag b))):=qh rfl;generalize valI a+valI b=z at *;generalize natOf (mag a)=x at *;generalize natOf (mag b)=y at *;generalize neg a=ba at *;generalize neg b=bb at *;clear ha hb hLa hLb hE;go_enter func19,ntmps19;go_wp2_with fail;refine(HR1.out _).mono ?_;rintro e w2⟨A,c,rfl,hrd1,hx1,_,_⟩;go_wp2_with fail;refine(HR2.out _).mono ?_;rintro e w3⟨A',c',rfl,hrd2,hx2,_,_⟩;have HD1:=qh (hrd1.ext hx2);have HD2:=qh hrd2;have HX:=qh (hx1.trans hx2);clear hrd1 hrd2 hx1 hx2;go_wp2_with fail;refine(intAdd ba bb x y A A' c c' _ HD1.out HD2.out HL1.out HL2.out).mono ?_;rintro e w4⟨bs',n',A1,c1,rfl,hs,hrd,hx,hc1,hc2⟩;have HD:=qh hrd;have HX4:=HX.qt hx;have HC:=qh (MC hc1 hc2);have HLN:Hid ((gr n').length<=1000000):=qh (by have:=qX hs HP1.out HP2.out;omega);have HS:Hid (dL bs' n'=ofI z):=qh (by rw[fX,hs,←HV.out]);clear hs hrd hx hc1 hc2;go_wp2_with fail;refine(cJ bs' n' A1 c1 _ HD.out HLN.out HC.out.1 HC.out.2 (HE.out.ext HX4.out)).mono ?_;rintro e w5⟨rfl,hx5⟩;rw[HS.out];go_wp2_with fail;go_ret;exact⟨rfl,HX4.out.trans hx5⟩
theorem wl(b:Bool)(n:Nat):sgn (!b) n = -(sgn b n):=by cases b <;> simp[sgn]
theorem Gr(a b:Bs)(w:World)(ha:a.length<=100000)(hb:b.length<=100000)(hE:Env w) :
  Calls prog 18 #[.string (bs a),.string (bs b)] w fun e w'=>e = .returned (.string (bs (ofI (valI a-valI b))))∧Ext w w':=by
 have HR1:=qh (fun W=>cW a W (by omega));have HR2:=qh (fun W=>cW b W (by omega));obtain⟨L,hLa,hLb,hL⟩:∃L:Nat,a.length<=L∧b.length<=L∧L<=100000:=⟨max a.length b.length,by omega,by omega,by omega⟩;have HL1:Hid ((gr (natOf (mag a))).length<=1000000):=qh (by have:=bM (be a hLa);omega);have HL2:Hid ((gr (natOf (mag b))).length<=1000000):=qh (by have:=bM (be b hLb);omega);have HP1:=qh (be a hLa);have HP2:=qh (be b hLb);have HE:=qh hE;have HV:Hid (valI a-valI b=sgn (neg a) (natOf (mag a))+sgn (!neg b) (natOf (mag b))):=qh (by rw[wl];exact Int.sub_eq_add_neg);generalize valI a-valI b=z at *;generalize natOf (mag a)=x at *;generalize natOf (mag b)=y at *;generalize neg a=ba at *;generalize neg b=bb at *;clear ha hb hLa hLb hE;go_enter func18,ntmps18;go_wp2_with fail;refine(HR2.out _).mono ?_;rintro e w1⟨A',c',rfl,hrd2,hx1,_,_⟩;have HD2:=qh hrd2;have HX1:=qh hx1;clear hrd2 hx1;generalize hnb:(!bb)=nb at *;go_wp2_with fail;clear hnb;have HBX:=qh (blk_at w1 112 #[.bool nb,.slice A' (gr y).length c'] w1.heap.size rfl);have HXW:=qh (HX1.out.trans (Id w1 (.cells #[.bool nb,.slice A' (gr y).length c'] 112)));have HDW:=qh (HD2.out.ext (Id w1 (.cells #[.bool nb,.slice A' (gr y).length c'] 112)));have HBW:=qh (iD (w1.alloc (.cells #[.bool nb,.slice A' (gr y).length c'] 112)));generalize (w1.alloc (.cells #[.bool nb,.slice A' (gr y).length c'] 112))=W at *;generalize w1.heap.size=g at *;have x0:=HBX.out.cell 0;have x1:=HBX.out.cell 1;simp only[Mk,Mm,Ms]at x0 x1
 go_region_held3 (fun w'=>w'.cell? ⟨g,0,none⟩=some (.bool nb)∧w'.cell? ⟨g,1,none⟩=some (.slice A' (gr y).length c'))
  (go_keep)
  (first
   |(go_at_call 66;((with_reducible refine(HR1.out _).mono ?_);rintro e w2⟨A,c,rfl,hrd1,hx2,_,_⟩);have hbx:=HBX.out.drew.ext hx2;have u0:=hbx.cell 0;have u1:=hbx.cell 1;simp only[Mk,Mm,Ms]at u0 u1;have HX2:=qh (HXW.out.drew.trans hx2);have HD1:=qh hrd1;have HD2W:=qh ((HDW.out.ext HBW.out.drew).ext hx2);have HBX2:=qh hbx;clear hbx hx2 hrd1)
   |(go_at_call 68;((with_reducible refine(intAdd ba nb x y A A' c c' _ HD1.out HD2W.out HL1.out HL2.out).mono ?_);rintro e w4⟨bs',n',A1,c1,rfl,hs,hrd,hx,hc1,hc2⟩);have HD:=qh hrd;have hbx:=HBX2.out.ext hx;have v0:=hbx.cell 0;have v1:=hbx.cell 1;simp only[Mk,Mm,Ms]at v0 v1;have HBX4:=qh hbx;have HX4:=HX2.qt hx;have HC:=qh (MC hc1 hc2);have HLN:Hid ((gr n').length<=1000000):=qh (by have:=qX hs HP1.out HP2.out;omega);have HS:Hid (dL bs' n'=ofI z):=qh (by rw[fX,hs,←HV.out]);clear hs hrd hx hc1 hc2 hbx)
   |(go_at_call 69;((with_reducible refine(cJ bs' n' A1 c1 _ HD.out HLN.out HC.out.1 HC.out.2 (HE.out.ext HX4.out)).mono ?_);rintro e w5⟨rfl,hx5⟩);have hbx:=HBX4.out.ext hx5;have y0:=hbx.cell 0;have y1:=hbx.cell 1;simp only[Mk,Mm,Ms]at y0 y1;have HX5:=HX4.qt hx5;clear hx5 hbx))
 all_goals
  rw[HS.out];go_wp2_with fail;go_ret;exact⟨rfl,HX5.out⟩
end
section
open Go.RowKit
def bf(R:List Nat):Prop:=∀g ∈ R,g<B9
theorem bf.set(h:bf R)(j v:Nat)(hv:v<B9):bf (R.set j v):=fun g hg=>by
 rcases QW hg with h1|h1
 ·exact h g h1
 ·rw[h1];exact hv
theorem bf.at0(h:bf R)(j:Nat):at0 R j<B9:=at0_bd h j
theorem lR(h:j<R.length)(i:Nat):at0 (R.set j v) i=if i=j then v else at0 R i:=by
 unfold Go.Proofs.YtaegjkllenlfpaaGreatDoor.at0;rw[NJ,NJ,List.getElem?_set];by_cases e:j=i
 ·subst e;rw[Mq rfl,Mq h,Mq rfl];rfl
 ·rw[Mj e,Mj (fun h=>e h.symm)]
theorem lz(a b:List Nat):gval (a++b)=gval a+B9 ^ a.length*gval b:=by
 induction a with
 |nil=>simp[gval]
 |cons g r ih =>
  have e1:gval ((g :: r)++b)=g+B9*gval (r++b):=rfl;have e2:gval (g :: r)=g+B9*gval r:=rfl;rw[e1,e2,ih,NU,MG,Nf,Pg,←Na,MF B9 (B9 ^ r.length)]
theorem jf:∀ {R:List Nat} {j:Nat} (v:Nat),j<R.length->gval (R.set j v)+at0 R j*B9 ^ j=gval R+v*B9 ^ j
 |g :: r,0,v,_=>by
  have e1:gval ((g :: r).set 0 v)=v+B9*gval r:=rfl;have e2:gval (g :: r)=g+B9*gval r:=rfl;have e3:at0 (g :: r) 0=g:=rfl;rw[e1,e2,e3,Nat.pow_zero];omega
 |g :: r,j+1,v,h=>by
  have ih:=jf (R:=r) (j:=j) v (by simpa using h);have e1:gval ((g :: r).set (j+1) v)=g+B9*gval (r.set j v):=rfl;have e2:gval (g :: r)=g+B9*gval r:=rfl;have e3:at0 (g :: r) (j+1)=at0 r j:=rfl;rw[e1,e2,e3,Nf];have h1:B9*(gval (r.set j v)+at0 r j*B9 ^ j)=B9*(gval r+v*B9 ^ j):=by rw[ih]
  rw[NU,NU]at h1;have h2:∀x:Nat,x*(B9 ^ j*B9)=B9*(x*B9 ^ j):=fun x=>by rw[←Na,MF]
  rw[h2,h2];omega
theorem fY(l:List Nat)(k:Nat):gval (l.take (k+1))=gval (l.take k)+at0 l k*B9 ^ k:=by
 rcases Nw k l.length with h|h
 ·rw[Mo h,gval_snoc,at0_lt h,Mu,Ot (by omega)]
 ·rw[at0_ge h,Mv (by omega),Mv (by omega)];simp
theorem nT(h:bf R):gval R<B9 ^ R.length:=by
 rw[gval_gsum R R.length (Mn _)];exact gsum_lt (at0_bd h) _
theorem Bj(hj:j<R.length)(hc:gval R+c*B9 ^ j=P)(hx:X=c+at0 R j+x*y) :
  gval (R.set j (X % B9))+X / B9*B9 ^ (j+1)=P+x*y*B9 ^ j:=by
 have h1:=jf (R:=R) (j:=j) (X % B9) hj;have h2:=Qq X B9;rw[Nf];generalize B9 ^ j=p at *;have h3:X / B9*(p*B9)=B9*(X / B9)*p:=by rw[MF p B9,←Na,MF (X / B9) B9]
 have h4:(X % B9+B9*(X / B9))*p=(c+at0 R j+x*y)*p:=by rw[h2,hx]
 rw[MY,MY,MY]at h4;rw[h3,←hc];generalize B9*(X / B9)*p=u1 at *;generalize X % B9*p=u2 at *;generalize c*p=u3 at *;generalize at0 R j*p=u4 at *;generalize x*y*p=u5 at *;generalize gval (R.set j (X % B9))=u6 at *;omega
theorem yE(hc:c<B9)(ho:o<B9)(hx:x<B9)(hy:y<B9):c+o+x*y<B9*B9∧c+o+x*y<1000000000000000000:=by
 have e:B9=1000000000:=rfl;rw[e]at hc ho hx hy ⊢;have h1:x*y<=999999999*999999999:=P9 (by omega) (by omega);generalize x*y=z at *;omega
structure MulIn (x:Nat) (n:List Nat) (P L i k c:Nat) (R:List Nat):Prop where
 len:R.length=L
 all:bf R
 cb:c<B9
 val:gval R+c*B9 ^ (i+k)=P+x*gval (n.take k)*B9 ^ i
 tail:∀j,i+n.length<=j->at0 R j=0
theorem MulIn.start{n:List Nat}{L i:Nat}(hl:R.length=L)(ha:bf R)(hv:gval R=P)(ht:∀j,i+n.length<=j->at0 R j=0):MulIn x n P L i 0 0 R :=
 ⟨hl,ha,by decide,by simp[gval,hv],ht⟩
theorem MulIn.step{n:List Nat}{L i:Nat}(h:MulIn x n P L i k c R)(hx:x<B9)(hn:bf n)(hk:k<n.length)(hL:i+n.length<=L) :
  MulIn x n P L i (k+1) ((c+at0 R (i+k)+x*at0 n k) / B9) (R.set (i+k) ((c+at0 R (i+k)+x*at0 n k) % B9)):=by
 have hj:i+k<R.length:=by rw[h.len];omega
 have hb:=(yE h.cb (h.all.at0 (i+k)) hx (hn.at0 k)).1;refine⟨by rw[MM];exact h.len,h.all.set _ _ (NV _ (by decide)),by rw[OZ (by decide)];exact hb,?_,fun j hjt=>?_⟩
 ·have:=Bj hj h.val (x:=x) (y:=at0 n k) rfl;rw[show i+(k+1)=i+k+1 by omega,this,fY,NU,MY,Pr,Pg];congr 2
  rw[Na,Na,Na,MF (B9 ^ k) (B9 ^ i)]
 ·rw[lR hj,Mj (by omega)];exact h.tail j hjt
theorem MulIn.done{n:List Nat}{L i:Nat}(h:MulIn x n P L i n.length c R)(hL:i+n.length<L) :
  (R.set (i+n.length) (at0 R (i+n.length)+c)).length=L∧bf (R.set (i+n.length) (at0 R (i+n.length)+c))∧gval (R.set (i+n.length) (at0 R (i+n.length)+c))=P+x*gval n*B9 ^ i∧∀j,i+1+n.length<=j->at0 (R.set (i+n.length) (at0 R (i+n.length)+c)) j=0:=by
 have hj:i+n.length<R.length:=by rw[h.len];exact hL
 have h0:=h.tail (i+n.length) (Mn _);rw[h0,MV];refine⟨by rw[MM];exact h.len,h.all.set _ _ h.cb,?_,fun j hjt=>?_⟩
 ·have h1:=jf (R:=R) (j:=i+n.length) c hj;have h2:=h.val;rw[h0,O6,Nj]at h1;rw[MK]at h2;rw[h1,h2]
 ·rw[lR hj,Mj (by omega)];exact h.tail j (by omega)
structure MulOut (m n:List Nat) (L i:Nat) (R:List Nat):Prop where
 len:R.length=L
 all:bf R
 val:gval R=gval (m.take i)*gval n
 tail:∀j,i+n.length<=j->at0 R j=0
theorem MulOut.start(m n:List Nat)(L:Nat):MulOut m n L 0 (List.replicate L 0):=by
 have h0:∀j,at0 (List.replicate L 0) j=0:=fun j=>by
  unfold Go.Proofs.YtaegjkllenlfpaaGreatDoor.at0;rw[NJ,List.getElem?_replicate];split <;> rfl
 refine⟨by simp,fun g hg=>by rw[(RY.1 hg).2];decide,?_,fun j _=>h0 j⟩;rw[gval_gsum _ _ (Mn _),gsum_congr (g:=fun _=>0) (fun k _=>h0 k)]
 have:∀L,gsum (fun _=>0) L=0:=by
  intro L;induction L with
  |zero=>rfl
  |succ L ih=>unfold gsum;rw[ih];simp
 rw[this];simp[gval]
theorem MulOut.in_{n:List Nat}{L i:Nat}(h:MulOut m n L i R)(x:Nat):MulIn x n (gval (m.take i)*gval n) L i 0 0 R:=MulIn.start h.len h.all h.val h.tail
theorem MulOut.next{n:List Nat}{L i:Nat}(hl:R.length=L)(ha:bf R)(hv:gval R=gval (m.take i)*gval n+at0 m i*gval n*B9 ^ i)(ht:∀j,i+1+n.length<=j->at0 R j=0):MulOut m n L (i+1) R:=by
 refine⟨hl,ha,?_,ht⟩;rw[hv,fY,MY,Na,Na,MF (gval n) (B9 ^ i)]
theorem MulOut.fin{n:List Nat}{L i:Nat}(h:MulOut m n L i R)(hi:m.length<=i):cutL R=gr (gval m*gval n):=by
 rw[cutL_gr h.all,h.val,Mv hi]
theorem dA(l:List Nat)(i:Nat)(h:i<l.length):gval (l.drop i)=at0 l i+B9*gval (l.drop (i+1)):=by
 rw[MR h,at0_lt h];rfl
theorem bT(l:List Nat)(i:Nat)(h:i<=l.length):gval l=gval (l.take i)+B9 ^ i*gval (l.drop i):=by
 conv=>lhs;rw[←MP i l]
 rw[lz,Mu,Ot h]
structure SgAt (m:List Nat) (d i rest:Nat) (R:List Nat):Prop where
 len:R.length=m.length
 all:bf R
 rb:rest<d
 val:gval (m.drop i)=gval (R.drop i)*d+rest
theorem SgAt.start(hd:0<d)(R:List Nat)(hl:R.length=m.length)(ha:bf R):SgAt m d m.length 0 R :=
 ⟨hl,ha,hd,by rw[Nt (Mn _),Nt (by omega)];simp[gval]⟩
theorem Bk(hr:rest<d)(hx:x<B9):rest*B9+x<d*B9:=by
 have h:(rest+1)*B9<=d*B9:=MO _ hr;rw[MY,OJ]at h;omega
theorem SgAt.step{i:Nat}(h:SgAt m d (i+1) rest R)(hm:bf m)(hi:i<m.length):SgAt m d i ((rest*B9+at0 m i) % d) (R.set i ((rest*B9+at0 m i) / d)):=by
 have hd:0<d:=NY (Om _) h.rb;have hR:i<R.length:=by rw[h.len];exact hi
 have hb:=Bk h.rb (hm.at0 i);refine⟨by rw[MM];exact h.len,h.all.set _ _ (by rw[OZ hd,MF B9 d];exact hb),NV _ hd,?_⟩;rw[dA m i hi,h.val,dA _ i (by rw[MM];exact hR),lR hR,Mq rfl,PI (by omega)];have h1:=Qq (rest*B9+at0 m i) d;generalize (rest*B9+at0 m i) / d=q at *;generalize (rest*B9+at0 m i) % d=r at *;generalize gval (R.drop (i+1))=Q at *;have h2:B9*(Q*d+rest)=B9*Q*d+rest*B9:=by rw[NU,←Na,MF B9 rest]
 rw[h2,MY];have h3:d*q=q*d:=MF _ _;generalize B9*Q*d=u at *;generalize rest*B9=v at *;omega
theorem SgAt.fin(h:SgAt m d 0 rest R):gval m / d=gval R∧gval m % d=rest∧cutL R=gr (gval m / d):=by
 have hd:0<d:=NY (Om _) h.rb;have hv:gval m=gval R*d+rest:=by simpa using h.val
 have h1:gval m / d=gval R:=by
  rw[hv,MF,Nat.mul_add_div hd,O5 h.rb];rfl
 have h2:gval m % d=rest:=by
  rw[hv,MF,Nat.mul_add_mod,O3 h.rb]
 exact⟨h1,h2,by rw[cutL_gr h.all,h1]⟩
theorem kV{a b:List Nat}(h:a.drop k=b.drop k):a.drop (k+1)=b.drop (k+1):=by
 have e:∀l:List Nat,l.drop (k+1)=(l.drop k).drop 1:=fun l=>by rw[QH]
 rw[e,e,h]
structure SubIn (g:Nat) (b a0:List Nat) (i j bo:Nat) (a:List Nat):Prop where
 len:a.length=a0.length
 all:bf a
 bb:bo<B9
 val:gval a+g*gval (b.take j)*B9 ^ i=gval a0+bo*B9 ^ (i+j)
 low:a.take i=a0.take i
 high:a.drop (i+j)=a0.drop (i+j)
theorem SubIn.start{b:List Nat}{i:Nat}(ha:bf a0):SubIn g b a0 i 0 0 a0:=⟨rfl,ha,by decide,by simp[gval],rfl,rfl⟩
def dZ(g x bo:Nat):Nat:=(g*x+bo) % B9
def jZ(g x bo o:Nat):Nat:=(g*x+bo) / B9+if o<dZ g x bo then 1 else 0
def gJ(g x bo o:Nat):Nat:=if o<dZ g x bo then o+B9-dZ g x bo else o-dZ g x bo
theorem pW(hg:g<B9)(hx:x<B9)(hb:bo<B9)(ho:o<B9):jZ g x bo o<B9∧gJ g x bo o<B9∧g*x+bo<1000000000000000000∧gJ g x bo o+(g*x+bo)=o+jZ g x bo o*B9:=by
 have e:B9=1000000000:=rfl;have h1:g*x<=999999999*999999999:=P9 (by omega) (by omega);unfold jZ gJ dZ;rw[e]at hg hx hb ho ⊢;generalize g*x=z at *;split <;> omega
theorem SubIn.step{b a:List Nat}{i:Nat}(h:SubIn g b a0 i j bo a)(hg:g<B9)(hb:bf b)(hj:i+j<a0.length) :
  SubIn g b a0 i (j+1) (jZ g (at0 b j) bo (at0 a (i+j))) (a.set (i+j) (gJ g (at0 b j) bo (at0 a (i+j)))):=by
 obtain⟨h1,h2,_,h4⟩:=pW hg (hb.at0 j) h.bb (h.all.at0 (i+j));have hl:i+j<a.length:=by rw[h.len];exact hj
 refine⟨by rw[MM];exact h.len,h.all.set _ _ h2,h1,?_,by rw[PH (by omega)];exact h.low,by rw[show i+(j+1)=i+j+1 by omega,PI (by omega),kV h.high]⟩;have h5:=jf (R:=a) (j:=i+j) (gJ g (at0 b j) bo (at0 a (i+j))) hl;have h6:=h.val;rw[fY,NU,MY,show i+(j+1)=i+j+1 by omega,Nf];generalize hG:gJ g (at0 b j) bo (at0 a (i+j))=G at *;generalize hB:jZ g (at0 b j) bo (at0 a (i+j))=Bo at *
 have h7:g*(at0 b j*B9 ^ j)*B9 ^ i=g*at0 b j*B9 ^ (i+j):=by
  rw[Pr,Na,Na,Na,MF (B9 ^ j) (B9 ^ i)]
 rw[h7];have h8:(G+(g*at0 b j+bo))*B9 ^ (i+j)=(at0 a (i+j)+Bo*B9)*B9 ^ (i+j):=by rw[h4]
 rw[MY,MY,MY]at h8;have h9:Bo*(B9 ^ (i+j)*B9)=Bo*B9*B9 ^ (i+j):=by rw[MF (B9 ^ (i+j)) B9,←Na]
 rw[h9];generalize B9 ^ (i+j)=p at *;generalize g*gval (b.take j)*B9 ^ i=u0 at *;generalize g*at0 b j*p=u1 at *;generalize Bo*B9*p=u2 at *;generalize at0 a (i+j)*p=u3 at *;generalize G*p=u4 at *;generalize bo*p=u5 at *;generalize gval (a.set (i+j) G)=u6 at *;omega
structure AddIn (b a0:List Nat) (i j ca:Nat) (a:List Nat):Prop where
 len:a.length=a0.length
 all:bf a
 cb:ca<=1
 val:gval a+ca*B9 ^ (i+j)=gval a0+gval (b.take j)*B9 ^ i
 low:a.take i=a0.take i
 high:a.drop (i+j)=a0.drop (i+j)
theorem AddIn.start{b:List Nat}{i:Nat}(ha:bf a0):AddIn b a0 i 0 0 a0:=⟨rfl,ha,by decide,by simp[gval],rfl,rfl⟩
theorem AddIn.step{b a:List Nat}{i:Nat}(h:AddIn b a0 i j ca a)(hb:bf b)(hj:i+j<a0.length) :
  AddIn b a0 i (j+1) ((at0 a (i+j)+(at0 b j+ca)) / B9) (a.set (i+j) ((at0 a (i+j)+(at0 b j+ca)) % B9)):=by
 have hl:i+j<a.length:=by rw[h.len];exact hj
 have b1:=h.all.at0 (i+j);have b2:=hb.at0 j;have b3:=h.cb;refine⟨by rw[MM];exact h.len,h.all.set _ _ (NV _ (by decide)),by have e:B9=1000000000:=rfl;rw[e]at b1 b2 ⊢;omega,?_,by rw[PH (by omega)];exact h.low,by rw[show i+(j+1)=i+j+1 by omega,PI (by omega),kV h.high]⟩;have h5:=jf (R:=a) (j:=i+j) ((at0 a (i+j)+(at0 b j+ca)) % B9) hl;have h6:=h.val;have h4:=Qq (at0 a (i+j)+(at0 b j+ca)) B9;rw[fY,MY,show i+(j+1)=i+j+1 by omega,Nf];generalize (at0 a (i+j)+(at0 b j+ca)) % B9=G at *;generalize (at0 a (i+j)+(at0 b j+ca)) / B9=Ca at *;have h7:at0 b j*B9 ^ j*B9 ^ i=at0 b j*B9 ^ (i+j):=by rw[Pr,Na,MF (B9 ^ j) (B9 ^ i)]
 rw[h7];have h8:(G+B9*Ca)*B9 ^ (i+j)=(at0 a (i+j)+(at0 b j+ca))*B9 ^ (i+j):=by rw[h4]
 rw[MY,MY,MY]at h8;have h9:Ca*(B9 ^ (i+j)*B9)=B9*Ca*B9 ^ (i+j):=by rw[MF (B9 ^ (i+j)) B9,←Na,MF Ca B9]
 rw[h9];generalize B9 ^ (i+j)=p at *;generalize gval (b.take j)*B9 ^ i=u0 at *;generalize at0 b j*p=u1 at *;generalize B9*Ca*p=u2 at *;generalize at0 a (i+j)*p=u3 at *;generalize G*p=u4 at *;generalize ca*p=u5 at *;generalize gval (a.set (i+j) G)=u6 at *;omega
theorem Bl(hW:W=T*p+low)(hl:low<p)(hy:y=D*p+yl)(hyl:yl<p)(hD:B9<=D)(hgB:g<B9)(hgT:g*D<=T)(hmax:g=B9-1∨T<(g+1)*D)(hWy:W<B9*y):W / y<=g∧g<=W / y+1:=by
 have hp:0<p:=NY (Om _) hl;have hD0:0<D:=M5 (by decide) hD;have hy0:0<y:=by rw[hy];exact M5 (Nat.mul_pos hD0 hp) (Nat.le_add_right _ _)
 constructor
 ·rw[←Nat.lt_succ_iff,OZ hy0];rcases hmax with h|h
  ·have e:B9=1000000000:=rfl;have:g.succ=B9:=by omega
   rw[this];exact hWy
  ·have h1:(T+1)*p<=(g+1)*D*p:=MO _ h
   have h2:(g+1)*D*p<=(g+1)*y:=by
    rw[Na];exact Oz _ (by rw[hy];exact Nat.le_add_right _ _)
   rw[MY,OJ]at h1;show W<(g+1)*y;omega
 ·rcases MB g with h0|h0
  ·rw[h0];exact Om _
  ·obtain⟨z,rfl⟩:∃z,g=z+1:=⟨g-1,by omega⟩
   suffices h:z*y<=W by
    exact Nat.succ_le_succ ((Nat.le_div_iff_mul_le hy0).2 h)
   have h1:(z+1)*D*p<=T*p:=MO _ hgT
   have h2:z*yl<=D*p:=by
    have a1:z*yl<=z*p:=Oz _ (by omega);have a2:z*p<=D*p:=MO _ (by omega);omega
   rw[hy,NU,←Na];rw[MY,OJ,MY]at h1;omega
structure GuessAt (top a2 b1 b2 z:Nat):Prop where
 lt:z<B9
 le:z*b1<=top
 max:z=B9-1∨top*B9+a2<(z+1)*(b1*B9+b2)
theorem GuessAt.start{top a2 b1 b2:Nat}(ha:a2<B9)(hb:0<b1):GuessAt top a2 b1 b2 (min (top / b1) (B9-1)):=by
 have e:B9=1000000000:=rfl;refine⟨by omega,?_,?_⟩
 ·exact Mx (MO _ (Nat.min_le_left _ _)) (Nat.div_mul_le_self _ _)
 ·rcases Nw (top / b1) (B9-1) with h|h
  ·right
   rw[Ot (by omega)]
   have h1:top+1<=(top / b1+1)*b1:=by
    have h2:=Qr top b1;have h3:=NV top hb;rw[MY,OJ,MF];omega
   have h4:(top+1)*B9<=(top / b1+1)*b1*B9:=MO _ h1;rw[NU,←Na];rw[MY,OJ]at h4;generalize (top / b1+1)*b1*B9=u at *;generalize (top / b1+1)*b2=v at *;generalize top*B9=t at *;omega
  ·left;omega
theorem sr{top a2 b1 b2 z:Nat}(hle:z*b1<=top):z*b2<=(top-z*b1)*B9+a2↔z*(b1*B9+b2)<=top*B9+a2:=by
 rw[NU,←Na,Nat.sub_mul];have h:z*b1*B9<=top*B9:=MO _ hle;generalize z*b1*B9=u at *;generalize top*B9=t at *;generalize z*b2=v at *;omega
theorem GuessAt.fine{top a2 b1 b2 z:Nat}(h:GuessAt top a2 b1 b2 z)(hb:b2<B9)(hc:B9<=top-z*b1∨z*b2<=(top-z*b1)*B9+a2):z*(b1*B9+b2)<=top*B9+a2:=by
 rw[←sr h.le];rcases hc with hc|hc
 ·have h1:z*b2<=B9*B9:=P9 (PE h.lt) (PE hb);have h2:B9*B9<=(top-z*b1)*B9:=MO _ hc;omega
 ·exact hc
theorem GuessAt.down{top a2 b1 b2 z:Nat}(h:GuessAt top a2 b1 b2 z)(hc:¬ z*b2<=(top-z*b1)*B9+a2):0<z∧GuessAt top a2 b1 b2 (z-1):=by
 have h0:0<z:=by
  rcases MB z with h0|h0
  ·subst h0;exact absurd (by simp) hc
  ·exact h0
 refine⟨h0,⟨by have:=h.lt;omega,Mx (MO _ (by omega)) h.le,.inr ?_⟩⟩;rw[sr h.le]at hc;rw[show z-1+1=z by omega];omega
theorem fH(l:List Nat)(i j:Nat):at0 (l.drop i) j=at0 l (i+j):=by
 unfold Go.Proofs.YtaegjkllenlfpaaGreatDoor.at0;rw[NJ,NJ,RZ]
theorem bf.drop(h:bf l)(i:Nat):bf (l.drop i):=fun g hg=>h g (NA hg)
theorem bf.take(h:bf l)(i:Nat):bf (l.take i):=fun g hg=>h g (Ng hg)
theorem iH(h:bf l)(hk:k<=l.length):gval (l.take k)<B9 ^ k:=by
 have:=nT (h.take k);rwa[Mu,Ot hk]at this
theorem kx(k:Nat):0<B9 ^ k:=Pf (by decide)
structure Dvr (b:List Nat):Prop where
 two:2<=b.length
 all:bf b
 top:0<at0 b (b.length-1)
theorem Dvr.parts{b:List Nat}(h:Dvr b):gval b=(at0 b (b.length-1)*B9+at0 b (b.length-2))*B9 ^ (b.length-2)+gval (b.take (b.length-2))∧gval (b.take (b.length-2))<B9 ^ (b.length-2):=by
 have h2:=h.two;refine⟨?_,iH h.all (by omega)⟩
 have h1:gval (b.drop (b.length-2))=at0 b (b.length-1)*B9+at0 b (b.length-2):=by
  rw[dA b _ (by omega),show b.length-2+1=b.length-1 by omega,dA b _ (by omega),show b.length-1+1=b.length by omega,O9];show _+B9*(_+B9*0)=_;rw[PL,Nj,MF B9];omega
 rw[bT b (b.length-2) (by omega),h1,MF (B9 ^ (b.length-2))];omega
theorem Dvr.pos{b:List Nat}(h:Dvr b):0<gval b:=by
 have h1:=h.parts.1;have h2:0<(at0 b (b.length-1)*B9+at0 b (b.length-2))*B9 ^ (b.length-2):=Nat.mul_pos (by have:=h.top;have e:B9=1000000000:=rfl;rw[e];omega) (kx _);omega
theorem Dvr.lt{b:List Nat}(h:Dvr b):gval b<B9 ^ b.length:=nT h.all
structure KnAt (A0:Nat) (b:List Nat) (La i:Nat) (a q:List Nat):Prop where
 la:a.length=La
 alla:bf a
 lq:q.length=La-b.length
 allq:bf q
 val:A0=gval (q.drop i)*gval b*B9 ^ i+gval a
 rest:gval (a.drop i)<gval b
section
variable {A0 La i:Nat} {b a q:List Nat}
theorem KnAt.win(h:KnAt A0 b La (i+1) a q)(hi:i+b.length<La):gval (a.drop i)<B9*gval b:=by
 rw[dA a i (by rw[h.la];omega)];have h1:=h.alla.at0 i;have h2:B9*(gval (a.drop (i+1))+1)<=B9*gval b:=Oz _ h.rest;rw[NU,QR]at h2;omega
theorem tB{a:List Nat}{i:Nat}(_ha:bf a)(hk:i+k<a.length)(hy:y<B9 ^ k)(hw:gval (a.drop i)<B9*y):gval (a.drop (i+k+1))=0:=by
 have h1:=bT (a.drop i) (k+1) (by rw[MU];omega);rw[QH,show i+(k+1)=i+k+1 by omega]at h1;have h2:B9*y<B9 ^ (k+1):=by rw[Nf,MF];exact R3 hy (by decide)
 rcases MB (gval (a.drop (i+k+1))) with h0|h0
 ·exact h0
 ·exfalso
  have h3:B9 ^ (k+1)*1<=B9 ^ (k+1)*gval (a.drop (i+k+1)):=Oz _ h0;omega
theorem nU{a:List Nat}{i:Nat}(hk:i+k<a.length)(hz:gval (a.drop (i+k+1))=0):gval (a.drop i)=gval ((a.drop i).take k)+at0 a (i+k)*B9 ^ k:=by
 rw[bT (a.drop i) k (by rw[MU];omega),QH,dA a (i+k) hk,hz];rw[PL,Nj,MF (B9 ^ k)]
theorem KnAt.three(h:KnAt A0 b La (i+1) a q)(hb:Dvr b)(hi:i+b.length<La) :
  gval (a.drop i)=((at0 a (i+b.length)*B9+at0 a (i+b.length-1))*B9+at0 a (i+b.length-2))*B9 ^ (b.length-2)+gval ((a.drop i).take (b.length-2))∧gval ((a.drop i).take (b.length-2))<B9 ^ (b.length-2):=by
 have h2:=hb.two;have hla:=h.la;refine⟨?_,iH (h.alla.drop i) (by rw[MU];omega)⟩;have hz:=tB h.alla (by rw[hla];exact hi) hb.lt (h.win hi)
 have h1:gval (a.drop (i+(b.length-2)))=(at0 a (i+b.length)*B9+at0 a (i+b.length-1))*B9+at0 a (i+b.length-2):=by
  rw[dA a _ (by omega),show i+(b.length-2)+1=i+b.length-1 by omega,dA a _ (by omega),show i+b.length-1+1=i+b.length by omega,dA a _ (by omega),hz,show i+(b.length-2)=i+b.length-2 by omega,PL,Nj];generalize at0 a (i+b.length)=x;generalize at0 a (i+b.length-1)=y;generalize at0 a (i+b.length-2)=z;have e:B9=1000000000:=rfl;rw[e];omega
 rw[bT (a.drop i) (b.length-2) (by rw[MU];omega),QH,h1,MF (B9 ^ (b.length-2))];omega
theorem KnAt.guess(h:KnAt A0 b La (i+1) a q)(hb:Dvr b)(hi:i+b.length<La){z:Nat}(hg:GuessAt (at0 a (i+b.length)*B9+at0 a (i+b.length-1)) (at0 a (i+b.length-2)) (at0 b (b.length-1)) (at0 b (b.length-2)) z)
  (hf:z*(at0 b (b.length-1)*B9+at0 b (b.length-2))<=(at0 a (i+b.length)*B9+at0 a (i+b.length-1))*B9+at0 a (i+b.length-2)):gval (a.drop i) / gval b<=z∧z<=gval (a.drop i) / gval b+1:=by
 obtain⟨w1,w2⟩:=h.three hb hi;obtain⟨y1,y2⟩:=hb.parts;exact Bl w1 w2 y1 y2 (by have:=hb.top;have e:B9=1000000000:=rfl;rw[e];omega) hg.lt hf hg.max (h.win hi)
theorem KnAt.put(h:KnAt A0 b La (i+1) a q)(_hb:Dvr b)(hi:i+b.length<La)(hl:a'.length=La)(ha:bf a')(he:e<B9)(hlow:a'.take i=a.take i)(hv:gval (a'.drop i)+e*gval b=gval (a.drop i))(hr:gval (a'.drop i)<gval b):KnAt A0 b La i a' (q.set i e):=by
 have hla:=h.la;have hlq:=h.lq;have hq:i<q.length:=by omega
 refine⟨hl,ha,by rw[MM];exact hlq,h.allq.set _ _ he,?_,hr⟩;have h1:=bT a i (by omega);have h2:=bT a' i (by omega);rw[hlow]at h2;rw[dA _ i (by rw[MM];exact hq),lR hq,Mq rfl,PI (by omega),h.val,h1,h2,←hv,Nf];generalize gval (q.drop (i+1))=Q at *;generalize gval b=y at *;generalize gval (a.take i)=L at *;generalize gval (a'.drop i)=W' at *;generalize B9 ^ i=p at *
 have e1:(e+B9*Q)*y*p=p*(e*y)+Q*y*(p*B9):=by
  rw[MY,MY,MF (e*y) p];congr 1
  rw[MF B9 Q,Na,Na,Na,Rk B9 y p,MF B9 p]
 rw[e1,NU];omega
end
theorem mr(hp:0<p){L:Nat}(h:L+p*x=L+p*y):x=y:=Nat.eq_of_mul_eq_mul_left hp (by omega)
theorem KnAt.right{A0 La i:Nat}{b a q:List Nat}(h:KnAt A0 b La (i+1) a q)(hb:Dvr b)(hi:i+b.length<La)(hs:SubIn g b a i b.length bo a1)(hg:g<B9)(hge:gval (a.drop i) / gval b<=g)(ht:bo<=at0 a (i+b.length)) :
  KnAt A0 b La i (a1.set (i+b.length) (at0 a (i+b.length)-bo)) (q.set i g)∧at0 a1 (i+b.length)=at0 a (i+b.length):=by
 have hla:=h.la;have hl1:i+b.length<a1.length:=by rw[hs.len,hla];exact hi
 have hat:at0 a1 (i+b.length)=at0 a (i+b.length):=by
  have h1:=fH a1 (i+b.length) 0;have h2:=fH a (i+b.length) 0;rw[hs.high]at h1;rw[Nj]at h1 h2;rw[←h1,←h2]
 have hb0:=hb.pos;have e1:=jf (R:=a1) (j:=i+b.length) (at0 a (i+b.length)-bo) hl1;have e2:=hs.val;rw[MK]at e2;rw[hat]at e1;have hlow:(a1.set (i+b.length) (at0 a (i+b.length)-bo)).take i=a.take i:=by rw[PH (by omega)];exact hs.low
 have s1:=bT a i (by omega);have s2:=bT (a1.set (i+b.length) (at0 a (i+b.length)-bo)) i (by rw[MM];omega);rw[hlow]at s2
 have key:gval ((a1.set (i+b.length) (at0 a (i+b.length)-bo)).drop i)+g*gval b=gval (a.drop i):=by
  apply mr (kx i) (L:=gval (a.take i));rw[NU];have c1:(at0 a (i+b.length)-bo)*B9 ^ (i+b.length)+bo*B9 ^ (i+b.length)=at0 a (i+b.length)*B9 ^ (i+b.length):=by rw[←MY,Nat.sub_add_cancel ht]
  have c2:B9 ^ i*(g*gval b)=g*gval b*B9 ^ i:=MF _ _;rw[c2];generalize g*gval b*B9 ^ i=u1 at *;generalize at0 a (i+b.length)*B9 ^ (i+b.length)=u2 at *;generalize (at0 a (i+b.length)-bo)*B9 ^ (i+b.length)=u3 at *;generalize bo*B9 ^ (i+b.length)=u4 at *;generalize gval (a1.set (i+b.length) (at0 a (i+b.length)-bo))=u5 at *;generalize B9 ^ i*gval ((a1.set (i+b.length) (at0 a (i+b.length)-bo)).drop i)=u6 at *;omega
 have hq:g=gval (a.drop i) / gval b:=by
  apply Nat.le_antisymm
  ·exact(Nat.le_div_iff_mul_le hb0).2 (by omega)
  ·exact hge
 refine⟨h.put hb hi (by rw[MM,hs.len,hla]) (hs.all.set _ _ (by have:=h.alla.at0 (i+b.length);omega)) hg hlow key ?_,hat⟩;have hm:=NV (gval (a.drop i)) hb0;have hd:=Qr (gval (a.drop i)) (gval b);rw[←hq,MF]at hd;omega
theorem KnAt.wrong{A0 La i:Nat}{b a q a2:List Nat}(h:KnAt A0 b La (i+1) a q)(hb:Dvr b)(hi:i+b.length<La)(hs:SubIn g b a i b.length bo a1)(hd:AddIn b a1 i b.length ca a2)(hg:g<B9)(hle:g<=gval (a.drop i) / gval b+1)(ht:at0 a (i+b.length)<bo) :
  0<g∧at0 a (i+b.length)+ca=bo∧at0 a2 (i+b.length)=at0 a (i+b.length)∧KnAt A0 b La i (a2.set (i+b.length) 0) (q.set i (g-1)):=by
 have hla:=h.la;have hl1:i+b.length<a1.length:=by rw[hs.len,hla];exact hi
 have hl2:i+b.length<a2.length:=by rw[hd.len];exact hl1
 have hb0:=hb.pos;have hbl:=hb.lt;have hP:=kx b.length;have hz:=tB h.alla (by rw[hla];exact hi) hb.lt (h.win hi);have hhigh:a2.drop (i+b.length)=a.drop (i+b.length):=hd.high.trans hs.high
 have at1:at0 a1 (i+b.length)=at0 a (i+b.length):=by
  have h1:=fH a1 (i+b.length) 0;have h2:=fH a (i+b.length) 0;rw[hs.high]at h1;rw[Nj]at h1 h2;rw[←h1,←h2]
 have at2:at0 a2 (i+b.length)=at0 a (i+b.length):=by
  have h1:=fH a2 (i+b.length) 0;have h2:=fH a (i+b.length) 0;rw[hhigh]at h1;rw[Nj]at h1 h2;rw[←h1,←h2]
 have hz1:gval (a1.drop (i+b.length+1))=0:=by rw[kV hs.high];exact hz
 have hz2:gval (a2.drop (i+b.length+1))=0:=by rw[kV hhigh];exact hz
 have t0:=nU (a:=a) (i:=i) (k:=b.length) (by omega) hz;have t1:=nU (a:=a1) (i:=i) (k:=b.length) hl1 hz1;have t2:=nU (a:=a2) (i:=i) (k:=b.length) hl2 hz2;rw[at1]at t1;rw[at2]at t2;have v1:gval ((a1.drop i).take b.length)<B9 ^ b.length:=iH (hs.all.drop i) (by rw[MU];omega);have v2:gval ((a2.drop i).take b.length)<B9 ^ b.length:=iH (hd.all.drop i) (by rw[MU];omega)
 have E1:gval (a1.drop i)+g*gval b=gval (a.drop i)+bo*B9 ^ b.length:=by
  apply mr (kx i) (L:=gval (a.take i));have s0:=bT a i (by omega);have s1:=bT a1 i (by omega);have e2:=hs.val;rw[MK,Pr]at e2;rw[hs.low]at s1;rw[NU,NU];have c2:B9 ^ i*(g*gval b)=g*gval b*B9 ^ i:=MF _ _;have c3:B9 ^ i*(bo*B9 ^ b.length)=bo*(B9 ^ i*B9 ^ b.length):=Rk _ _ _;rw[c2,c3];omega
 have E2:gval (a2.drop i)+ca*B9 ^ b.length=gval (a1.drop i)+gval b:=by
  apply mr (kx i) (L:=gval (a.take i));have s1:=bT a1 i (by omega);have s2:=bT a2 i (by omega);have e2:=hd.val;rw[MK,Pr]at e2;rw[hs.low]at s1;rw[hd.low,hs.low]at s2;rw[NU,NU];have c2:B9 ^ i*gval b=gval b*B9 ^ i:=MF _ _;have c3:B9 ^ i*(ca*B9 ^ b.length)=ca*(B9 ^ i*B9 ^ b.length):=Rk _ _ _;rw[c2,c3];omega
 have hbo:(at0 a (i+b.length)+1)*B9 ^ b.length<=bo*B9 ^ b.length:=MO _ ht;rw[MY,OJ]at hbo
 have hgt:gval (a.drop i)<g*gval b:=by
  rw[t0];rw[t0,t1]at E1;omega
 have hg1:g=gval (a.drop i) / gval b+1:=by
  apply Nat.le_antisymm hle;have:gval (a.drop i) / gval b<g:=(OZ hb0).2 hgt;exact this
 have hg0:0<g:=by rw[hg1];exact Nat.succ_pos _
 obtain⟨z,rfl⟩:∃z,g=z+1:=⟨g-1,by omega⟩;have hz3:z=gval (a.drop i) / gval b:=Nat.succ.inj hg1;have hm:=NV (gval (a.drop i)) hb0;have hdm:=Qr (gval (a.drop i)) (gval b);rw[←hz3,MF]at hdm;rw[MY,OJ]at E1;generalize hr:gval (a.drop i) % gval b=r at *
 have E3:gval ((a2.drop i).take b.length)+(at0 a (i+b.length)+ca)*B9 ^ b.length=r+bo*B9 ^ b.length:=by
  rw[MY];omega
 have htc:at0 a (i+b.length)+ca=bo:=by
  have d1:(gval ((a2.drop i).take b.length)+(at0 a (i+b.length)+ca)*B9 ^ b.length) / B9 ^ b.length=at0 a (i+b.length)+ca:=by
   rw[RE _ _ hP,O5 v2,MV]
  have d2:(r+bo*B9 ^ b.length) / B9 ^ b.length=bo:=by
   rw[RE _ _ hP,O5 (by omega),MV]
  rw[←d1,E3,d2]
 have hv2:gval ((a2.drop i).take b.length)=r:=by rw[htc]at E3;omega
 have hl3:(a2.set (i+b.length) 0).length=La:=by rw[MM,hd.len,hs.len,hla]
 have hdr:(a2.set (i+b.length) 0).drop i=(a2.drop i).set b.length 0:=by
  rw[List.drop_set,Mj (by omega),show i+b.length-i=b.length by omega]
 have hwn:gval ((a2.set (i+b.length) 0).drop i)=r:=by
  have hz4:gval ((a2.set (i+b.length) 0).drop (i+b.length+1))=0:=by rw[PI (by omega)];exact hz2
  rw[nU (a:=a2.set (i+b.length) 0) (i:=i) (k:=b.length) (by rw[MM];exact hl2) hz4,lR hl2,Mq rfl,O6,Nj,hdr,PH (Mn _),hv2]
 refine⟨hg0,htc,at2,h.put hb hi hl3 (hd.all.set _ _ (by decide)) (by omega) (by rw[PH (by omega),hd.low,hs.low]) ?_ (by rw[hwn];exact hm)⟩;rw[hwn,RX];omega
theorem KnAt.start{A0 La:Nat}{b a q:List Nat}(hb:Dvr b)(hl:a.length=La)(ha:bf a)(hq:q.length=La-b.length)(hqa:bf q)(hv:gval a=A0)(_hLa:b.length<=La)(hr:gval (a.drop (La-b.length))<gval b):KnAt A0 b La (La-b.length) a q:=by
 have:=hb.two;exact⟨hl,ha,hq,hqa,by rw[Nt (by omega),hv];simp[gval],hr⟩
theorem KnAt.fin{A0 La:Nat}{b a q:List Nat}(h:KnAt A0 b La 0 a q)(hb:Dvr b)(hLa:b.length<=La):A0 / gval b=gval q∧A0 % gval b=gval a∧gval (a.take b.length)=gval a:=by
 have hv:A0=gval q*gval b+gval a:=by simpa using h.val
 have hr:gval a<gval b:=by simpa using h.rest
 have hb0:=hb.pos;refine⟨?_,?_,?_⟩
 ·rw[hv,MF,Nat.mul_add_div hb0,O5 hr];rfl
 ·rw[hv,MF,Nat.mul_add_mod,O3 hr]
 ·have hs:=bT a b.length (by rw[h.la];exact hLa);have hbl:=hb.lt;rcases MB (gval (a.drop b.length)) with h0|h0
  ·rw[h0]at hs;omega
  ·exfalso
   have:B9 ^ b.length*1<=B9 ^ b.length*gval (a.drop b.length):=Oz _ h0;omega
end
end Go.Proofs.YtaegjkllenlfpaaGreatDoor
