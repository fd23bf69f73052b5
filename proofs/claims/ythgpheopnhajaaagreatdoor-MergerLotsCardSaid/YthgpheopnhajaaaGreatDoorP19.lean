/- The seat's texts, part P19. -/
import Derived.Test.YthgpheopnhajaaaGreatDoorP2
import Derived.Test.YthgpheopnhajaaaGreatDoorP8
import Derived.Test.YthgpheopnhajaaaGreatDoorP16
import Derived.Test.YthgpheopnhajaaaGreatDoorP18
set_option maxRecDepth 100000
set_option maxHeartbeats 8000000
namespace Go.Proofs.YthgpheopnhajaaaGreatDoor
section
open Go.RowKit
attribute [local go_sem] size_bs toList_bs
structure FactV where
 key:Bs
 stamp:Int
 canc:Bool
 day:Int
 kind:Int
 ins:Bs
 other:Bs
 cur:Bs
 tgt:Bs
 qty:Bs
 amt:Bs
 fee:Bs
 price:Fr
 ratio:Fr
 share:Fr
 choice:Int
abbrev af(f:FactV)(P O:Value):Array Value :=
 #[.string (bs f.key),.int .i64 f.stamp,.bool f.canc,.int .i64 f.day,.int .i64 f.kind,.string (bs f.ins),.string (bs f.other),.string (bs f.cur),.string (bs f.tgt),.string (bs f.qty),.string (bs f.amt),.string (bs f.fee),.string (bs f.price.num),.string (bs f.price.den),.string (bs f.ratio.num),.string (bs f.ratio.den),.string (bs f.share.num),.string (bs f.share.den),P,O,.int .i64 f.choice]
abbrev aB(f:FactV)(P O:Value):Value := .agg (af f P O)
theorem ae{w w':World}{g:Nat}{f:FactV}{P O:Value}(h:Blk w g 30 (af f P O))(hx:Ext w w') :
  w'.cell? ⟨g,0,none⟩=some (.string (bs f.key))∧w'.cell? ⟨g,1,none⟩=some (.int .i64 f.stamp)∧w'.cell? ⟨g,2,none⟩=some (.bool f.canc)∧w'.cell? ⟨g,3,none⟩=some (.int .i64 f.day)∧w'.cell? ⟨g,4,none⟩=some (.int .i64 f.kind)∧w'.cell? ⟨g,5,none⟩=some (.string (bs f.ins)) ∧
  w'.cell? ⟨g,6,none⟩=some (.string (bs f.other))∧w'.cell? ⟨g,7,none⟩=some (.string (bs f.cur))∧w'.cell? ⟨g,8,none⟩=some (.string (bs f.tgt))∧w'.cell? ⟨g,9,none⟩=some (.string (bs f.qty))∧w'.cell? ⟨g,10,none⟩=some (.string (bs f.amt))∧w'.cell? ⟨g,11,none⟩=some (.string (bs f.fee)) ∧
  w'.cell? ⟨g,12,none⟩=some (.string (bs f.price.num))∧w'.cell? ⟨g,13,none⟩=some (.string (bs f.price.den))∧w'.cell? ⟨g,14,none⟩=some (.string (bs f.ratio.num))∧w'.cell? ⟨g,15,none⟩=some (.string (bs f.ratio.den))∧w'.cell? ⟨g,16,none⟩=some (.string (bs f.share.num))∧w'.cell? ⟨g,17,none⟩=some (.string (bs f.share.den)) ∧
  w'.cell? ⟨g,18,none⟩=some P∧w'.cell? ⟨g,19,none⟩=some O∧w'.cell? ⟨g,20,none⟩=some (.int .i64 f.choice):=by
 have k:=h.ext hx;exact⟨k.cell 0,k.cell 1,k.cell 2,k.cell 3,k.cell 4,k.cell 5,k.cell 6,k.cell 7,k.cell 8,k.cell 9,k.cell 10,k.cell 11,k.cell 12,k.cell 13,k.cell 14,k.cell 15,k.cell 16,k.cell 17,k.cell 18,k.cell 19,k.cell 20⟩
theorem td(s:Bs)(w:World)(hs:s.length≤9000):Calls Tryz.prog 154 #[.string (bs s)] w fun e w'=>e = .returned (.int .i64 (if ax s=true then 0 else 23))∧Ext w w':=by
 have HN:=qh (i7 s w (by omega));obtain⟨r,hr⟩:∃r:Int,r=if ax s=true then 0 else 23:=⟨_,rfl⟩;rw[←hr];have HR:=qh hr;clear hr;go_enter Tryz.func154,Tryz.ntmps154;go_wp2_with fail;refine HN.out.mono ?_;rintro e v0⟨rfl,hx1⟩;have HX:=qh hx1;clear hx1 HN;generalize ax s=b at *
 cases b
 ·obtain rfl:r=23:=HR.out;clear HR;go_wp2_with fail;go_ret;exact⟨rfl,HX.out⟩
 ·obtain rfl:r=0:=HR.out;clear HR;go_wp2_with fail;go_ret;exact⟨rfl,HX.out⟩
theorem nt(s:Bs)(w:World):Calls Tryz.prog 221 #[.string (bs s)] w fun e w'=>e = .returned (.agg #[.string (bs s),.string ⟨#[]⟩])∧Ext w w':=by
 have HB:=qh (Blk.new w 26 #[.string (bs s),.string ⟨#[]⟩]);have HX:Hid (Ext w (w.alloc (.cells #[.string (bs s),.string ⟨#[]⟩] 26))):=qh (Ext.new _ _);go_enter Tryz.func221,Tryz.ntmps221;obtain⟨c0,c1,d0,d1⟩:=ah HB.out (Ext.refl _);go_wp2_with fail;refine bodyPost_ret (dQ rfl _ _ w.heap.size (.string (bs s)) (.string ⟨#[]⟩) rfl HB.out) rfl ?_;exact⟨rfl,HX.out⟩
end
section
open Go.RowKit Go.Shelf
attribute [local go_sem] size_bs toList_bs
def lA(c:UInt8):Bool:=decide (65≤c.toNat∧c.toNat≤90)
abbrev Bn:Bs:=[65,66,67,68,69,70,71,72,73,74,75,76,77,78,79,80,81,82,83,84,85,86,87,88,89,90]
def gv(l:Bs):Bool:=decide (l.length=3) && l.all lA
def lP(l:Bs):Bs:=Lib.trimS l Bn
theorem zN(c:UInt8):Bn.contains c=lA c:=by
 have h:∀n:Fin 256,Bn.contains (UInt8.ofNat n.val)=lA (UInt8.ofNat n.val):=by decide +kernel
 have hc:=h ⟨c.toNat,c.toNat_lt⟩;simpa using hc
theorem we(l:Bs):lP l=[]↔l.all lA=true:=by
 unfold lP Lib.trimS Lib.trimLeftS Lib.trimRightS;have he:(fun x=>Bn.contains x)=lA:=funext zN;rw[he,dq,List.all_reverse];constructor
 ·intro h;by_cases hn:l.reverse.dropWhile lA=[]
  ·rw[dq,List.all_reverse]at hn;exact hn
  ·exfalso
   obtain⟨c,r,hcr⟩:=List.exists_cons_of_ne_nil hn;have hd:=List.head_dropWhile_not lA hn;rw[hcr]at h;simp only[List.all_cons,Bool.and_eq_true]at h;simp only[hcr,List.head_cons]at hd;rw[h.1]at hd;simp at hd
 ·intro h;have hn:l.reverse.dropWhile lA=[]:=by rw[dq,List.all_reverse];exact h
  rw[hn];rfl
theorem xJ(l:Bs)(w:World)(hs:l.length≤1000000000) :
  Calls Tryz.prog 202 #[.string (bs l),.string ⟨#[65,66,67,68,69,70,71,72,73,74,75,76,77,78,79,80,81,82,83,84,85,86,87,88,89,90]⟩] w fun e w'=>e = .returned (.string (bs (lP l)))∧Ext w w':=by
 refine(Any.strings_Trim_laid Tryz.lays160 (by kernel_rfl) (bs l) ⟨#[65,66,67,68,69,70,71,72,73,74,75,76,77,78,79,80,81,82,83,84,85,86,87,88,89,90]⟩ w (by rw[size_bs];omega) (by decide) (ascii_of_all (by decide))).mono ?_;rintro e w'⟨rfl,hb⟩;exact⟨by rw[data_bs];rfl,hb⟩
theorem xK(l:Bs)(hl:l.length≤100000)(w:World):Calls Tryz.prog 155 #[.string (bs l)] w fun e w'=>e = .returned (.bool (gv l))∧Ext w w':=by
 have HT:=qh (fun W=>xJ l W (by omega));unfold gv;have ht:=we l;by_cases h3:l.length=3
 ·have g:((l.length:Int) == 3)=true:=by rw[beq_iff_eq];omega
  rw[decide_eq_true h3,Bool.true_and]
  have H4:Hid ((lP l).isEmpty=l.all lA):=qh (by
   cases ha:l.all lA
   ·cases hb:(lP l).isEmpty
    ·rfl
    ·rw[List.isEmpty_iff]at hb;rw[ht.1 hb]at ha
     cases ha
   ·rw[ht.2 ha];rfl)
  rw[←H4.out];generalize lP l=t at *;clear ht h3 hl H4;go_enter Tryz.func155,Tryz.ntmps155;go_wp2_with fail;refine(HT.out _).mono ?_;rintro e w1⟨rfl,hx1⟩;have HX:=qh hx1;clear hx1;go_wp2_with fail;go_ret;exact⟨rfl,HX.out⟩
 ·have g:((l.length:Int) == 3)=false:=by rw[beq_eq_false_iff_ne];omega
  rw[decide_eq_false h3,Bool.false_and];clear ht h3 hl;go_enter Tryz.func155,Tryz.ntmps155;go_wp2_with fail;go_ret;exact⟨rfl,Ext.refl _⟩
theorem Fa(l:Bs)(hl:l.length≤100000):bc 218 #[.string (bs l)] (.bool (eA l)):=by
 intro w hE;have HE:=qh hE;have hcl:=qN l;have HC:=qh (fun W h=>sI l W (by omega) h);have HN:=qh (fun W=>i7 (bF l).1 W (by omega));unfold eA;rcases Classical.em (∃v,Lib.atoiAll (bF l).2 = .ok v) with ⟨v,hk⟩|hk
 ·have HA:=qh (fun W=>uG (bF l).2 v hk (by omega) W);have HP:=qh (oT hk);rw[HP.out];generalize (bF l).1=nm at *;generalize (bF l).2=nu at *;generalize ax nm=ok at *;clear hk hcl hE HP
  cases ok
  ·rw[Bool.false_and];go_enter Tryz.func218,Tryz.ntmps218;go_wp2_with fail;refine(HC.out _ HE.out).mono ?_;rintro e w1⟨⟨b,rfl⟩,hx1⟩;have HX:=qh hx1;clear hx1;go_wp2_with fail;refine(HA.out _).mono ?_;rintro e w2⟨rfl,hx1⟩;replace HX:=HX.qt hx1;clear hx1;go_wp2_with fail;refine(HN.out _).mono ?_;rintro e w3⟨rfl,hx1⟩;replace HX:=HX.qt hx1;clear hx1;go_wp2_with fail;go_ret;exact⟨rfl,HX.out⟩
  rw[Bool.true_and];by_cases h1:1≤v
  ·by_cases h2:v≤9999
   ·have HI:=qh (fun W h=>nX v W (by omega) (by omega) h);generalize Lib.itoa v=it at *;have g1:decide (1≤v)=true:=by simpa using h1
    have g2:decide (v≤9999)=true:=by simpa using h2
    rw[g1,g2,Bool.true_and,Bool.true_and];by_cases h3:it=nu
    ·have g3:(it == nu)=true:=by simpa using h3
     rw[g3];clear h3;go_enter Tryz.func218,Tryz.ntmps218;go_wp2_with fail;refine(HC.out _ HE.out).mono ?_;rintro e w1⟨⟨b,rfl⟩,hx1⟩;have HX:=qh hx1;clear hx1;go_wp2_with fail;refine(HA.out _).mono ?_;rintro e w2⟨rfl,hx1⟩;replace HX:=HX.qt hx1;clear hx1;go_wp2_with fail;refine(HN.out _).mono ?_;rintro e w3⟨rfl,hx1⟩;replace HX:=HX.qt hx1;clear hx1;go_wp2_with fail;refine(HI.out _ (HE.out.ext HX.out)).mono ?_;rintro e w4⟨rfl,hx1⟩;replace HX:=HX.qt hx1;clear hx1;go_wp2_with fail;go_ret;exact⟨rfl,HX.out⟩
    ·have g3:(it == nu)=false:=by simpa using h3
     rw[g3];clear h3;go_enter Tryz.func218,Tryz.ntmps218;go_wp2_with fail;refine(HC.out _ HE.out).mono ?_;rintro e w1⟨⟨b,rfl⟩,hx1⟩;have HX:=qh hx1;clear hx1;go_wp2_with fail;refine(HA.out _).mono ?_;rintro e w2⟨rfl,hx1⟩;replace HX:=HX.qt hx1;clear hx1;go_wp2_with fail;refine(HN.out _).mono ?_;rintro e w3⟨rfl,hx1⟩;replace HX:=HX.qt hx1;clear hx1;go_wp2_with fail;refine(HI.out _ (HE.out.ext HX.out)).mono ?_;rintro e w4⟨rfl,hx1⟩;replace HX:=HX.qt hx1;clear hx1;go_wp2_with fail;go_ret;exact⟨rfl,HX.out⟩
   ·have g1:decide (1≤v)=true:=by simpa using h1
    have g2:decide (v≤9999)=false:=by simpa using h2
    rw[g1,g2,Bool.true_and,Bool.false_and];generalize Lib.itoa v=it at *;go_enter Tryz.func218,Tryz.ntmps218;go_wp2_with fail;refine(HC.out _ HE.out).mono ?_;rintro e w1⟨⟨b,rfl⟩,hx1⟩;have HX:=qh hx1;clear hx1;go_wp2_with fail;refine(HA.out _).mono ?_;rintro e w2⟨rfl,hx1⟩;replace HX:=HX.qt hx1;clear hx1;go_wp2_with fail;refine(HN.out _).mono ?_;rintro e w3⟨rfl,hx1⟩;replace HX:=HX.qt hx1;clear hx1;go_wp2_with fail;go_ret;exact⟨rfl,HX.out⟩
  ·have g1:decide (1≤v)=false:=by simpa using h1
   rw[g1,Bool.false_and,Bool.false_and];generalize Lib.itoa v=it at *;go_enter Tryz.func218,Tryz.ntmps218;go_wp2_with fail;refine(HC.out _ HE.out).mono ?_;rintro e w1⟨⟨b,rfl⟩,hx1⟩;have HX:=qh hx1;clear hx1;go_wp2_with fail;refine(HA.out _).mono ?_;rintro e w2⟨rfl,hx1⟩;replace HX:=HX.qt hx1;clear hx1;go_wp2_with fail;refine(HN.out _).mono ?_;rintro e w3⟨rfl,hx1⟩;replace HX:=HX.qt hx1;clear hx1;go_wp2_with fail;go_ret;exact⟨rfl,HX.out⟩
 ·have hk':∀v,Lib.atoiAll (bF l).2 ≠ .ok v:=fun v h=>hk ⟨v,h⟩
  have HA:=qh (fun W h=>uH (bF l).2 hk' (by omega) W h);rw[qF hk',Bool.and_false];generalize (bF l).1=nm at *;generalize (bF l).2=nu at *;clear hk hk' hcl hE;generalize ax nm=ok at *;go_enter Tryz.func218,Tryz.ntmps218;go_wp2_with fail;refine(HC.out _ HE.out).mono ?_;rintro e w1⟨⟨b,rfl⟩,hx1⟩;have HX:=qh hx1;clear hx1;go_wp2_with fail;refine(HA.out _ (HE.out.ext HX.out)).mono ?_;rintro e w2⟨⟨n,p,rfl⟩,hx1⟩;replace HX:=HX.qt hx1;clear hx1;go_wp2_with fail;refine(HN.out _).mono ?_;rintro e w3⟨rfl,hx1⟩;replace HX:=HX.qt hx1;clear hx1
  cases ok
  ·skip;go_wp2_with fail;go_ret;exact⟨rfl,HX.out⟩
  ·skip;go_wp2_with fail;go_ret;exact⟨rfl,HX.out⟩
end
section
open Go.RowKit
open Go.Maps (Keyed)
attribute [local go_sem] size_bs toList_bs
theorem qb{P:Program}(w:World){ops:Array Oper}{rest:List Oper}{o:Oper}{a:Act}{Q:Exit→Act→World→Prop}
  (hg:o.guard=none) (it:Operand) (hop:o.op=Op.next it false) (k:TypeId) (K:Keyed P k) (hk:P.underlying k=some (.int .i64))
  (b r n:Nat) (D:DataW Value) (left:Lit→Bool) (cnt:Nat) (hit:a.eval it = .pointer (some ⟨r,0,none⟩)) (h:w.ranges P k RK b r n D left cnt)
  (hDone:(∀kl,left kl=false)→wpList P ops Q rest (a.put o.dst (.tuple #[.bool false])) w)
  (hMore:∀(x:Int) (c:Value) (w':World) (cnt':Nat),left (.int .i64 x)=true→w'.ranges P k RK b r n D (fun z=>left z && !z.sameKey (.int .i64 x)) cnt'→cnt'<cnt →
   w.grownBy w' (some r)→(Instr.entry (.pointer (some ⟨r,0,none⟩))).run P w' = .ok (.tuple #[.int .i64 x,c]) w'→wpList P ops Q rest (a.put o.dst (.tuple #[.bool true,.int .i64 x,c])) w') :
  wpList P ops Q (o :: rest) a w :=
 wpList_next_ranges w hg it hop k K RK (Value.int .i64) (fun v=>v) (fun key kl hkey=>by obtain⟨x,rfl,_⟩:=Maps.keyOf_int_inv hk hkey;exact⟨x,rfl⟩) (fun v y hv=>⟨v,rfl⟩)
  b r n D left cnt hit h (fun _ hl=>hDone hl) (fun x c kl y w' cnt' hkey hlk hv hat hrg hlt hgr hsz hen=>by
    obtain⟨x',ex,rfl,hwx⟩:=Maps.keyOf_int_inv hk hkey
    cases ex;exact hMore x c w' cnt' hlk hrg hlt hgr hen)
def fH(D:DataW Value):List Bool:=(List.range 13).map fun j=>Maps.has D (.int .i64 (j:Nat))
theorem wg{bits:List Bool}{D:DataW Value}(hl:bits.length=13)(h:∀j,j<13→bits[j]? = some (Maps.has D (.int .i64 (j:Nat)))):bits=fH D:=by
 apply List.ext_getElem?;intro j;by_cases hj:j<13
 ·rw[h j hj];unfold fH;rw[List.getElem?_map,List.getElem?_range hj];rfl
 ·rw[List.getElem?_eq_none (by omega),List.getElem?_eq_none (by unfold fH;simp;omega)]
def iJ(bits:List Bool)(D:DataW Value)(left:Lit→Bool):Prop:=∀j,j<13→bits[j]? = some (Maps.has D (.int .i64 (j:Nat)) && !left (.int .i64 (j:Nat)))
theorem iJ.start(D:DataW Value):iJ bQ D (Maps.has D):=fun j hj=>by
 have:bQ[j]? = some false:=by
  obtain rfl|rfl|rfl|rfl|rfl|rfl|rfl|rfl|rfl|rfl|rfl|rfl|rfl:j=0∨j=1∨j=2∨j=3∨j=4∨j=5∨j=6∨j=7∨j=8∨j=9∨j=10∨j=11∨j=12:=by omega
  all_goals rfl
 rw[this]
 cases Maps.has D (.int .i64 (j:Nat)) <;> rfl
theorem iJ.next{bits:List Bool}{D:DataW Value}{left:Lit→Bool}(h:iJ bits D left)(hl:bits.length=13)(k:Nat)(hk:Maps.has D (.int .i64 (k:Nat))=true) :
  iJ (bits.set k true) D (fun z=>left z && !z.sameKey (.int .i64 (k:Int))):=fun j hj=>by
 by_cases e:k=j
 ·subst e;rw[List.getElem?_set_self (by omega),hk];simp[Lit.sameKey]
 ·rw[List.getElem?_set_ne e,h j hj]
  have:Lit.sameKey (.int .i64 (j:Nat)) (.int .i64 (k:Int))=false:=by
   simp[Lit.sameKey];omega
  dsimp only;rw[this];simp
theorem iJ.done{bits:List Bool}{D:DataW Value}{left:Lit→Bool}(h:iJ bits D left)(hl:bits.length=13)(h0:∀kl,left kl=false):bits=fH D :=
 wg hl fun j hj=>by rw[h j hj,h0];simp
theorem mT(word:Bs)(cl:Int)(bm n:Nat)(D:DataW Value)(ms:List Nat)(A:Option Addr)(c:Nat)(w:World)(hD:bW w bm n D)(hk:∀x:Int,Maps.has D (.int .i64 x)=true→0≤x∧x<13)(hM:RdI w A ms)(hb:∀x ∈ ms,x<13)(hn:ms.length≤1000) :
  Calls Tryz.prog 151 #[.string (bs word),.int .i64 cl,.map (some bm),.slice A ms.length c] w fun e w'=>e = .returned (kv word cl (bf ms (fH D)) (.map (some bm)) false)∧Ext w w':=by
 have HM:=qh hM;have HB:=qh hb;have HK:=qh hk;have HBM:=qh hD.lt;have G8:=qh ((Blk.new w 144 (aL [] 0 bQ (.map none) false).toArray).alloc (.cells (aL word cl bQ (.map (some bm)) false).toArray 144));have G9:=qh (Blk.newAt (w.alloc (.cells (aL [] 0 bQ (.map none) false).toArray 144)) 144 (aL word cl bQ (.map (some bm)) false).toArray (w.heap.size+1) (by simp));have HX:Hid (Ext w ((w.alloc (.cells (aL [] 0 bQ (.map none) false).toArray 144)).alloc (.cells (aL word cl bQ (.map (some bm)) false).toArray 144))):=qh ((Ext.new _ _).alloc _);have HD:=qh (hD.ext HX.out);clear hM hb hk hD;go_enter Tryz.func151,Tryz.ntmps151;go_upto_region 2 with fail;dsimp only[aL,bQ,List.map_cons,List.map_nil,List.cons_append,List.nil_append]at G8 G9 HX HD
 generalize hW2:(w.alloc (.cells #[Value.string { data:=#[] },Value.int IntKind.i64 0,Value.bool false,Value.bool false,Value.bool false,Value.bool false,Value.bool false,Value.bool false,Value.bool false,Value.bool false,Value.bool false,Value.bool false,Value.bool false,Value.bool false,Value.bool false,Value.map none,Value.bool false] 144)).alloc
      (Obj.cells #[Value.string (bs word),Value.int IntKind.i64 cl,Value.bool false,Value.bool false,Value.bool false,Value.bool false,Value.bool false,Value.bool false,Value.bool false,Value.bool false,Value.bool false,Value.bool false,Value.bool false,Value.bool false,Value.bool false,Value.map (some bm),Value.bool false] 144)=W2
 replace HX:Hid (Ext w W2):=by rw[←hW2];exact HX
 replace HD:Hid (bW W2 bm n D):=by rw[←hW2];exact HD
 replace G8:Hid (Blk W2 w.heap.size 144 (aL [] 0 bQ (.map none) false).toArray):=by rw[←hW2];exact G8
 replace G9:Hid (Blk W2 (w.heap.size+1) 144 (aL word cl bQ (.map (some bm)) false).toArray):=by rw[←hW2];exact G9
 clear hW2;have hD2:=HD.out;go_wp2_with (first|(at_range;refine wpList_range_own _ rfl _ 142 rfl 3 204 gI Tryz.underlying142 RK bm n D rfl hD2 ?_;intro w0 hrg0 hg0 hs0)|fail);replace HX:=qh (HX.out.trans ⟨hg0.os,hg0.tape,hg0.output,hg0.size,fun i hi=>hg0.block i hi (by simp)⟩);have hlt2:=G9.out.lt;have hb2:=HD.out.lt;replace G8:Hid (Blk w0 w.heap.size _ _):=qh ((hg0.block _ G8.out.lt (by simp)).trans G8.out);replace G9:Hid (Blk w0 (w.heap.size+1) _ _):=qh ((hg0.block _ G9.out.lt (by simp)).trans G9.out);have HR0:=qh hrg0;clear hD2 hrg0 hg0 hs0 HD;generalize W2.heap.size=R at *;go_frame
 go_loopw [19,10] (fun _ _ wr=>∃left cnt bits,wr.ranges Tryz.prog 3 RK bm R n D left cnt∧bits.length=13∧(∀kl,left kl=true→Maps.has D kl=true)∧iJ bits D left∧Blk wr w.heap.size 144 (aL [] 0 bQ (.map none) false).toArray∧Blk wr (w.heap.size+1) 144 (aL word cl bits (.map (some bm)) false).toArray∧Ext w wr) (fun _ _ wr=>wr.rangeLeft bm R)
 case atStart=>exact⟨_,_,bQ,HR0.out,rfl,fun _ h=>h,iJ.start D,G8.out,G9.out,HX.out⟩
 case round =>
  clear HX G8 G9 HR0;obtain⟨left,cnt,bits,hrg,hbl,hlh,hba,h8,h9,hx⟩:=hrel;have HX:=qh hx;have G8:=qh h8;have G9:=qh h9;have HL:=qh hbl;have HH:=qh hlh;have HBA:=qh hba;clear hx h8 h9 hbl hlh hba;go_wp2_with (first|(at_next;refine qb _ rfl _ rfl 3 gI Tryz.underlying3 bm R n D left cnt rfl hrg (fun hl0=>?_) ?_)|fail)
  ·have HBK:=qh (HBA.out.done HL.out hl0);clear hrg HH HK HBA hl0;go_loopw [28,12] (fun i _ wr=>∃k:Nat,k≤ms.length∧i = .int .i64 k∧Ext w wr∧Blk wr w.heap.size 144 (aL [] 0 bQ (.map none) false).toArray∧Blk wr (w.heap.size+1) 144 (aL word cl (bf (ms.take k) bits) (.map (some bm)) false).toArray) (fun i _ _=>ms.length-(intOf i).toNat)
   case atStart=>exact⟨0,by omega,rfl,HX.out,G8.out,G9.out⟩
   case round =>
    clear HX G8 G9;obtain⟨k,hk,rfl,hx,h8,h9⟩:=hrel;have HX:=qh hx;have G8:=qh h8;have G9:=qh h9;clear hx h8 h9;by_cases hlt:k<ms.length
    ·obtain⟨b,o,rfl,hb,c0⟩:=(HM.out.ext HX.out).at_ hlt;have hx13:=HB.out _ (List.getElem_mem hlt);have hlen:(bf (ms.take k) bits).length=13:=by rw[jW];exact HL.out
     have hs:bf (ms.take (k+1)) bits=(bf (ms.take k) bits).set (ms[k]'hlt) true:=nO hlt bits;have N9:=G9.out.set_ (2+ms[k]'hlt) (.bool true);rw[pZ _ _ _ _ _ _ _ (by omega),←hs]at N9;have q0:=G9.out.cell (2+ms[k]'hlt);rw[ph _ _ _ _ _ _ (by omega)]at q0;have f:=fun k=>G9.out.frozen k
     obtain⟨bb,q⟩:∃bb,wr.cell? ⟨w.heap.size+1,2+ms[k]'hlt,none⟩=some (.bool bb):=⟨_,q0⟩;clear q0;have N9h:=qh N9;clear N9 hs;generalize ms[k]'hlt=x at *;have hki:(k:Int)<(ms.length:Int):=by omega
     have hx1:(x:Int)<13:=by omega
     have N8:=qh (G8.out.far (p:=⟨w.heap.size+1,2+x,none⟩) (by simp) (.bool true));have NX:=qh (HX.out.setCell (p:=⟨w.heap.size+1,2+x,none⟩) (by simp) (.bool true));clear hlen;go_wp2_with fail;exact⟨⟨k+1,by omega,by go_num,NX.out,N8.out,N9h.out⟩,by simp[intOf];omega⟩
    ·obtain rfl:k=ms.length:=by omega
     have hlen:(bf (ms.take ms.length) bits).length=13:=by rw[jW];exact HL.out
     rw[List.take_length]at G9 hlen;have hrg:=jX G9.out;have hth:wr.there w.heap.size 0 (aL word cl (bf ms bits) (.map (some bm)) false).toArray.size:=ff G8.out (by rw[List.size_toArray,gu _ _ _ _ _ hlen];rfl);have hs1:(Tryz.prog.info? 144).map (·.size)=some (aL word cl (bf ms bits) (.map (some bm)) false).length:=by rw[gu _ _ _ _ _ hlen];kernel_rfl
     have hs2:(Tryz.prog.info? 144).map (·.size)=some (aL word cl (bf ms bits) (.map (some bm)) false).toArray.size:=hs1;have hoc:=kc word cl (bf ms bits) (.map (some bm)) false rfl;have O8:=qh (fU G8.out (ys:=aL word cl (bf ms bits) (.map (some bm)) false) (by unfold aL;simp[hlen,bQ]));have HS:=qh (cV (aL word cl (bf ms bits) (.map (some bm)) false) 0 wr () HX.out (Nat.le_refl _));have HR:=qh hlen;clear hlen hk hlt HB HM G8 G9;go_wp2_with (first|refine wpList_load_mid rfl 144 _ rfl (w.heap.size+1) 0 rfl _ _ hrg Tryz.underlying144 rfl hs1 ?_|refine wpList_store_mid rfl 144 _ _ rfl w.heap.size 0 _ rfl rfl hth hs2 hoc ?_|fail);refine bodyPost_ret (iE rfl _ _ w.heap.size HR.out rfl O8.out) rfl ?_;exact⟨by rw[←HBK.out],HS.out⟩
  ·intro x cv w1 cnt1 hlk hrg1 hlt1 hg1 hen;obtain⟨hx0,hx1⟩:=HK.out x (HH.out _ hlk);obtain⟨j,rfl⟩:∃j:Nat,x=j:=⟨x.toNat,by omega⟩;have hn9:w.heap.size+1≠R:=by omega
   have hn8:w.heap.size≠R:=by omega
   have hbn:bm≠w.heap.size+1:=by have:=HBM.out;omega
   have g9:Blk w1 (w.heap.size+1) 144 (aL word cl bits (.map (some bm)) false).toArray:=(hg1.block _ G9.out.lt (by simpa using hn9)).trans G9.out;have g8:Blk w1 w.heap.size 144 (aL [] 0 bQ (.map none) false).toArray:=(hg1.block _ G8.out.lt (by simpa using hn8)).trans G8.out;have N9:=g9.set_ (2+j) (.bool true);rw[pZ _ _ _ _ _ _ _ (by rw[HL.out];omega)]at N9;have q0:=g9.cell (2+j);rw[ph _ _ _ _ _ _ (by rw[HL.out];omega)]at q0;obtain⟨bb,q⟩:∃bb,w1.cell? ⟨w.heap.size+1,2+j,none⟩=some (.bool bb):=⟨_,q0⟩;have f:=fun k=>g9.frozen k
   have N8h:=qh (g8.far (p:=⟨w.heap.size+1,2+j,none⟩) (by simp) (.bool true));have N9h:=qh N9;have hRw:w.heap.size≤R:=by omega
   have hx2:Ext w w1:=HX.out.only hg1 hRw;have NX:=qh (hx2.setCell (p:=⟨w.heap.size+1,2+j,none⟩) (by simp) (.bool true))
   have HRG:Hid (World.ranges (w1.setCell ⟨w.heap.size+1,2+j,none⟩ (.bool true)) Tryz.prog 3 RK bm R n D (fun z=>left z && !z.sameKey (.int .i64 (j:Int))) cnt1) :=
    qh (hrg1.kept ((Only.refl (w.heap.size+1) w1).setCell (2+j) (.bool true)) (by simpa using hbn) (by simpa using fun h:R=w.heap.size+1=>hn9 h.symm))
   have HNL:Hid (∀kl,(left kl && !kl.sameKey (.int .i64 (j:Int)))=true→Maps.has D kl=true):=qh (fun kl h=>HH.out kl (by simp only[Bool.and_eq_true]at h;exact h.1));have HNB:=qh (HBA.out.next HL.out j (HH.out _ hlk));have hlen:(bits.set j true).length=13:=by rw[List.length_set];exact HL.out
   have hmeas:World.rangeLeft (w1.setCell ⟨w.heap.size+1,2+j,none⟩ (.bool true)) bm R<wr.rangeLeft bm R:=by rw[HRG.out.left_eq,hrg.left_eq];exact hlt1
   clear N9 q0 g9 g8 hx2 hrg hrg1 hg1 HX G8 G9 HH hlk HK HL HM HBA;have hj1:(j:Int)<13:=by omega
   go_wp2_with fail;exact⟨⟨_,_,_,HRG.out,hlen,HNL.out,HNB.out,N8h.out,N9h.out,NX.out⟩,hmeas⟩
end
section
open Go.RowKit
open Go.Maps (Keyed)
attribute [local go_sem] size_bs toList_bs
def dV(w:World)(v:Value)(p q:Bool):Prop:=∃g1 g2,v=jK g1 g2∧Blk w g1 4 #[.bool p]∧Blk w g2 4 #[.bool q]
theorem dV.on{w w':World}{v:Value}{p q:Bool}(h:dV w v p q)(hb:∀g t cs,Blk w g t cs→Blk w' g t cs):dV w' v p q:=by
 obtain⟨g1,g2,e,h1,h2⟩:=h;exact⟨g1,g2,e,hb _ _ _ h1,hb _ _ _ h2⟩
theorem dV.ext{w w':World}{v:Value}{p q:Bool}(h:dV w v p q)(hx:Ext w w'):dV w' v p q:=h.on fun _ _ _ hb=>hb.ext hx
def iK(w:World)(D:DataW Value)(k:Nat)(p q:Bool):Prop:=Maps.has D (.int .i64 (k:Nat))=true∧∃v,(∀z,D.atKey (.int .i64 (k:Nat)) z = .held v)∧dV w v p q
abbrev lB:=List (Nat × Bool × Bool)
def gN(D:DataW Value)(ks:List Nat):Prop:=∀x:Int,Maps.has D (.int .i64 x)=true→∃k ∈ ks,x=(k:Nat)
def CM(w:World)(b:Nat)(es:lB):Prop:=∃n D,bW w b n D∧n≤200∧gN D (es.map (·.1))∧∀e ∈ es,iK w D e.1 e.2.1 e.2.2
theorem iK.on{w w':World}{D:DataW Value}{k:Nat}{p q:Bool}(h:iK w D k p q)(hb:∀g t cs,Blk w g t cs→Blk w' g t cs):iK w' D k p q:=by
 obtain⟨h1,v,h2,h3⟩:=h;exact⟨h1,v,h2,h3.on hb⟩
theorem CM.on{w w':World}{b:Nat}{es:lB}(h:CM w b es)(hb:∀g t cs,Blk w g t cs→Blk w' g t cs)(hm:∀n D,bW w b n D→bW w' b n D):CM w' b es:=by
 obtain⟨n,D,h1,h2,h3,h4⟩:=h;exact⟨n,D,hm n D h1,h2,h3,fun e he=>(h4 e he).on hb⟩
theorem CM.ext{w w':World}{b:Nat}{es:lB}(h:CM w b es)(hx:Ext w w'):CM w' b es:=h.on (fun _ _ _ hb=>hb.ext hx) (fun _ _ hm=>hm.ext hx)
theorem CM.lt{w:World}{b:Nat}{es:lB}(h:CM w b es):b<w.heap.size:=by
 obtain⟨n,D,h1,_⟩:=h;exact h1.lt
theorem rP(k:Int):WideAt.IsKeyLit (.int .i64 k):=by trivial
theorem kY:gN (.map []) []:=fun x h=>by simp[Maps.has]at h
theorem im{D:DataW Value}{ks:List Nat}(h:gN D ks)(k:Nat)(hk:k ∈ ks)(d:DataW Value):gN (D.put (.int .i64 (k:Nat)) d) ks:=fun x hx=>by
 by_cases e:x=(k:Nat)
 ·exact⟨k,hk,e⟩
 ·rw[Maps.has_put_other (by simpa using e)]at hx;exact h x hx
theorem jZ{D:DataW Value}{ks ks':List Nat}(h:gN D ks)(hs:∀k ∈ ks,k ∈ ks'):gN D ks':=fun x hx=>by
 obtain⟨k,h1,h2⟩:=h x hx;exact⟨k,hs k h1,h2⟩
theorem lQ{w:World}{D:DataW Value}(hD:Maps.IsMap D)(k:Nat){v:Value}{p q:Bool}(h:dV w v p q):iK w (D.put (.int .i64 (k:Nat)) (.held v)) k p q :=
 ⟨Maps.has_put_same hD (rP _) _,v,fun z=>Maps.atKey_put_same hD (rP _) _ z,h⟩
theorem kZ{w:World}{D:DataW Value}{k k':Nat}{p q:Bool}(h:iK w D k' p q)(hne:k'≠k)(d:DataW Value):iK w (D.put (.int .i64 (k:Nat)) d) k' p q:=by
 obtain⟨h1,v,h2,h3⟩:=h;have hl:(Lit.int .i64 (k':Nat))≠Lit.int .i64 (k:Nat):=fun h=>hne (by have:=(Lit.int.inj h).2;omega)
 exact⟨(Maps.has_put_other hl _).trans h1,v,fun z=>(Maps.atKey_put_other hl _ z).trans (h2 z),h3⟩
def iL(ks:List Nat):List Bool:=(List.range 13).map fun j=>ks.contains j
theorem mr{w:World}{D:DataW Value}{es:lB}(h:gN D (es.map (·.1)))(he:∀e ∈ es,iK w D e.1 e.2.1 e.2.2):fH D=iL (es.map (·.1)):=by
 unfold fH iL;apply List.map_congr_left;intro j _
 cases hc:(es.map (·.1)).contains j
 ·cases hh:Maps.has D (.int .i64 (j:Nat))
  ·rfl
  ·obtain⟨k,hk,e⟩:=h _ hh;have:j=k:=by omega
   subst this
   rw[List.contains_iff_mem.2 hk]at hc
   cases hc
 ·have hm:=List.contains_iff_mem.1 hc;rw[List.mem_map]at hm;obtain⟨e,h1,h2⟩:=hm;have:=(he e h1).1;rw[h2]at this
  exact this
theorem nP{D:DataW Value}{ks:List Nat}(h:gN D ks)(hk:∀k ∈ ks,k<13):∀x:Int,Maps.has D (.int .i64 x)=true→0≤x∧x<13:=fun x hx=>by
 obtain⟨k,h1,rfl⟩:=h x hx;have:=hk k h1;omega
def eG:List Bool:=[false,false,true,false,false,true,false,false,false,false,false,false,false]
def DQ(w:World)(word:Bs)(e:Ending)(w':World):Prop:=∃b,w.heap.size≤b∧CM w' b [(5,true,false)]∧e = .returned (kv word 2 eG (.map (some b)) false)∧Ext w w'
theorem Cm(word:Bs)(g3 g1:Nat)(lv:Value)(w:World)(hlv:dV w lv true false)(b3:Blk w g3 FT #[fw])(b1:Blk w g1 pi #[lv]) :
  Calls Tryz.prog 152 #[.string (bs word),.pointer (some ⟨g3,0,none⟩),.pointer (some ⟨g1,0,none⟩)] w (DQ w word):=by
 have HL:=qh hlv;clear hlv;have hmm:=@run_makeMap Tryz.prog;have HX:Hid (Ext w (w.alloc (.cells (aL [] 0 bQ (.map none) false).toArray 144))):=qh (Ext.new _ _);have G4:=qh (Blk.new w 144 (aL [] 0 bQ (.map none) false).toArray);have B3:=qh (b3.ext HX.out);have B1:=qh (b1.ext HX.out);dsimp only[aL,bQ,List.map_cons,List.map_nil,List.cons_append,List.nil_append]at HX G4 B3 B1;clear b3 b1;go_enter Tryz.func152,Tryz.ntmps152;go_upto_region 1 with fail;generalize hW2:(w.alloc (.cells #[Value.string { data:=#[] },Value.int IntKind.i64 0,Value.bool false,Value.bool false,Value.bool false,Value.bool false,Value.bool false,Value.bool false,Value.bool false,Value.bool false,Value.bool false,Value.bool false,Value.bool false,Value.bool false,Value.bool false,Value.map none,Value.bool false] 144))=W2;replace HX:Hid (Ext w W2):=by rw[←hW2];exact HX
 replace G4:Hid (Blk W2 w.heap.size 144 (aL [] 0 bQ (.map none) false).toArray):=by rw[←hW2];exact G4
 replace B3:Hid (Blk W2 g3 FT #[fw]):=by rw[←hW2];exact B3
 replace B1:Hid (Blk W2 g1 pi #[lv]):=by rw[←hW2];exact B1
 have HSZ:Hid (w.heap.size≤W2.heap.size):=qh HX.out.size;have HLT:Hid (w.heap.size<W2.heap.size):=qh G4.out.lt;clear hW2;have q3:=B3.out.cell 0;have q1:=(B1.out.alloc (.map #[] 0)).cell 0;simp only[List.getElem?_toArray,List.getElem?_cons_zero]at q3 q1;have M0:bW (W2.alloc (.map #[] 0)) W2.heap.size 0 (.map []):=World.ownsMap_made _ _ _ _;go_wp2_with (first|(refine eR _ rfl _ _ _ 142 rfl 3 204 gI Tryz.underlying142 RK W2.heap.size 0 _ rfl M0 (by decide) (.int .i64 5) _ _ rfl rfl (mp 5 (by decide)) _ [] rfl ?_;intro w1 M1 hg1)|fail);replace M1:bW w1 W2.heap.size (0+1) ((DataW.map []).put (.int .i64 5) (.held lv)):=M1;have hx1:Ext W2 w1:=(Ext.new W2 _).only hg1 (Nat.le_refl _);replace HX:=HX.qt hx1;replace G4:=qh (G4.out.ext hx1);have HM1:=qh M1;have HKN:Hid (gN ((DataW.map []).put (.int .i64 5) (.held lv)) [5]):=qh (im (jZ kY (by simp)) 5 (by simp) _);have HEN:Hid (∀wx,dV wx lv true false→iK wx ((DataW.map []).put (.int .i64 5) (.held lv)) 5 true false):=qh (fun wx h=>lQ (by exact⟨[],rfl⟩) 5 h)
 have hbits:fH ((DataW.map []).put (.int .i64 5) (.held lv))=iL [5]:=mr (es:=[(5,true,false)]) (w:=w) HKN.out (fun e he=>by
  simp only[List.mem_singleton]at he;subst he;exact HEN.out _ HL.out)
 have HC:=qh (mT word 2 W2.heap.size (0+1) _ [2] (some ⟨w1.heap.size,0,none⟩) 1 _ (bW.ext M1 (Ext.new w1 _)) (xD xC 5 (by decide) _) (DL [.int .i64 2] [2] rfl) (by decide) (by decide));rw[hbits]at HC;clear hbits;clear M0 M1 hg1 hx1 q1 q3 B3 B1;go_wp2_with fail;refine HC.out.mono ?_;rintro e w2⟨rfl,hx2⟩;have hl:(bf [2] (iL [5])).length=13:=by decide
 have hab:bf [2] (iL [5])=eG:=by decide
 rw[hab]at hl ⊢;replace HM1:=qh ((HM1.out.ext (Ext.new w1 _)).ext hx2);have hx3:=(Ext.new w1 _).trans hx2;replace HX:=HX.qt hx3;replace G4:=qh (G4.out.ext hx3);clear hx2 hx3 HC hmm;have hth:w2.there w.heap.size 0 (aL word 2 eG (.map (some W2.heap.size)) false).toArray.size:=ff G4.out (by rw[List.size_toArray,gu _ _ _ _ _ hl];rfl);have hs2:(Tryz.prog.info? 144).map (·.size)=some (aL word 2 eG (.map (some W2.heap.size)) false).toArray.size:=by rw[List.size_toArray,gu _ _ _ _ _ hl];kernel_rfl
 have hoc:=kc word 2 eG (.map (some W2.heap.size)) false rfl;have O4:=qh (fU G4.out (ys:=aL word 2 eG (.map (some W2.heap.size)) false) (by rw[gu _ _ _ _ _ hl];rfl));have HS:=qh (cV (aL word 2 eG (.map (some W2.heap.size)) false) 0 w2 () HX.out (Nat.le_refl _));have hne:W2.heap.size≠w.heap.size:=by have:=HLT.out;omega
 have HMS:=qh (bW.only HM1.out (Only.sets (aL word 2 eG (.map (some W2.heap.size)) false) 0 w2 w2 (Only.refl w.heap.size w2)) hne);clear hne;go_wp2_with (first|refine wpList_store_mid rfl 144 _ _ rfl w.heap.size 0 _ rfl rfl hth hs2 hoc ?_|fail);refine bodyPost_ret (iE rfl _ _ w.heap.size hl rfl O4.out) rfl ?_;refine⟨_,HSZ.out,⟨_,_,HMS.out,by omega,HKN.out,fun e he=>?_⟩,rfl,HS.out⟩;simp only[List.mem_singleton]at he;subst he;exact HEN.out _ (HL.out.ext HS.out)
theorem Cn(word:Bs)(cl:Int)(bits:List Bool)(num:Value)(code:Bool)(w:World)(hl:bits.length=13)(hn:num.oneCell'=true) :
  Calls Tryz.prog 153 #[kv word cl bits num code] w fun e w'=>e = .returned (kv word cl bits num true)∧Ext w w':=by
 obtain⟨b0,b1,b2,b3,b4,b5,b6,b7,b8,b9,b10,b11,b12,rfl⟩:=vY hl;have HX:Hid (Ext w ((w.alloc (.cells (aL word cl [b0,b1,b2,b3,b4,b5,b6,b7,b8,b9,b10,b11,b12] num code).toArray 144)).alloc (.cells (aL [] 0 bQ (.map none) false).toArray 144))):=qh ((Ext.new _ _).alloc _);have G1:=qh ((Blk.new w 144 (aL word cl [b0,b1,b2,b3,b4,b5,b6,b7,b8,b9,b10,b11,b12] num code).toArray).alloc (.cells (aL [] 0 bQ (.map none) false).toArray 144));have G2:=qh (Blk.newAt (w.alloc (.cells (aL word cl [b0,b1,b2,b3,b4,b5,b6,b7,b8,b9,b10,b11,b12] num code).toArray 144)) 144 (aL [] 0 bQ (.map none) false).toArray (w.heap.size+1) (by simp));have HN:=qh hn;have HL:=qh hl;clear hn hl;dsimp only[aL,bQ,List.map_cons,List.map_nil,List.cons_append,List.nil_append]at HX G1 G2;have hkv:kv word cl [b0,b1,b2,b3,b4,b5,b6,b7,b8,b9,b10,b11,b12] num code = .agg #[.string (bs word),.int .i64 cl,.bool b0,.bool b1,.bool b2,.bool b3,.bool b4,.bool b5,.bool b6,.bool b7,.bool b8,.bool b9,.bool b10,.bool b11,.bool b12,num,.bool code]:=rfl;rw[hkv];clear hkv;go_enter Tryz.func153,Tryz.ntmps153;go_upto_region 1 with fail;generalize hW2:((w.alloc (.cells #[Value.string (bs word),Value.int IntKind.i64 cl,Value.bool b0,Value.bool b1,Value.bool b2,Value.bool b3,Value.bool b4,Value.bool b5,Value.bool b6,Value.bool b7,Value.bool b8,Value.bool b9,Value.bool b10,Value.bool b11,Value.bool b12,num,Value.bool code] 144)).alloc (.cells #[Value.string { data:=#[] },Value.int IntKind.i64 0,Value.bool false,Value.bool false,Value.bool false,Value.bool false,Value.bool false,Value.bool false,Value.bool false,Value.bool false,Value.bool false,Value.bool false,Value.bool false,Value.bool false,Value.bool false,Value.map none,Value.bool false] 144))=W2;replace HX:Hid (Ext w W2):=by rw[←hW2];exact HX
 replace G1:Hid (Blk W2 w.heap.size 144 (aL word cl [b0,b1,b2,b3,b4,b5,b6,b7,b8,b9,b10,b11,b12] num code).toArray):=by rw[←hW2];exact G1
 replace G2:Hid (Blk W2 (w.heap.size+1) 144 (aL [] 0 bQ (.map none) false).toArray):=by rw[←hW2];exact G2
 clear hW2;have q16:=G1.out.cell 16;rw[zH _ _ _ _ _ HL.out]at q16;have f16:=G1.out.frozen 16;have N1:Hid (Blk (W2.setCell ⟨w.heap.size,16,none⟩ (.bool true)) w.heap.size 144 (aL word cl [b0,b1,b2,b3,b4,b5,b6,b7,b8,b9,b10,b11,b12] num true).toArray):=qh (G1.out.set_ 16 (.bool true));have N2:=qh (G2.out.far (p:=⟨w.heap.size,16,none⟩) (by simp) (.bool true));have NX:=qh (HX.out.setCell (p:=⟨w.heap.size,16,none⟩) (Nat.le_refl _) (.bool true));clear HX G1 G2;go_upto_region 2 with fail;generalize W2.setCell ⟨w.heap.size,16,none⟩ (.bool true)=W3 at *;clear q16 f16;have hrg:=jX N1.out;have hth:W3.there (w.heap.size+1) 0 (aL word cl [b0,b1,b2,b3,b4,b5,b6,b7,b8,b9,b10,b11,b12] num true).toArray.size:=ff N2.out (by rfl);have hs1:(Tryz.prog.info? 144).map (·.size)=some (aL word cl [b0,b1,b2,b3,b4,b5,b6,b7,b8,b9,b10,b11,b12] num true).length:=by rw[gu _ _ _ _ _ HL.out];kernel_rfl
 have hs2:(Tryz.prog.info? 144).map (·.size)=some (aL word cl [b0,b1,b2,b3,b4,b5,b6,b7,b8,b9,b10,b11,b12] num true).toArray.size:=hs1;have hoc:=kc word cl [b0,b1,b2,b3,b4,b5,b6,b7,b8,b9,b10,b11,b12] num true HN.out;have O2:=qh (fU N2.out (ys:=aL word cl [b0,b1,b2,b3,b4,b5,b6,b7,b8,b9,b10,b11,b12] num true) (by rfl));have HS:=qh (cV (aL word cl [b0,b1,b2,b3,b4,b5,b6,b7,b8,b9,b10,b11,b12] num true) 0 W3 () NX.out (Nat.le_succ _));go_wp2_with (first|refine wpList_load_mid rfl 144 _ rfl w.heap.size 0 rfl _ _ hrg Tryz.underlying144 rfl hs1 ?_|refine wpList_store_mid rfl 144 _ _ rfl (w.heap.size+1) 0 _ rfl rfl hth hs2 hoc ?_|fail);refine bodyPost_ret (iE rfl _ _ (w.heap.size+1) HL.out rfl O2.out) rfl ?_;exact⟨rfl,HS.out⟩
end
end Go.Proofs.YthgpheopnhajaaaGreatDoor
