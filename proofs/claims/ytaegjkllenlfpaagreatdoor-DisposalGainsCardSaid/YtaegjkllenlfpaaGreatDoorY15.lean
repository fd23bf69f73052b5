/- The seat's texts, part Y15. -/
import Derived.Test.YtaegjkllenlfpaaGreatDoorY14
set_option maxRecDepth 100000
set_option maxHeartbeats 8000000
namespace Go.Proofs.YtaegjkllenlfpaaGreatDoor
open Tryz
variable {bits:List Bool}{w':World}{v:Value}{p q:Bool}{k b k' s fn g:Nat}{ks ks':List Nat}{K:Act->World->Prop}
section
open Go.RowKit
open Go.Maps (Keyed)
attribute [local go_sem] size_bs toList_bs
theorem rH{P:Program}(w:World){ops:Array Oper}{rest:List Oper}{o:Oper}{a:Act}{Q:Exit->Act->World->Prop}
  (hg:o.guard=none) (it:Operand) (hop:o.op=Op.next it false) (k:TypeId) (K:Keyed P k) (hk:P.underlying k=some (.int .i64))
  (b r n:Nat) (D:DataW Value) (left:Lit->Bool) (cnt:Nat) (hit:a.eval it = .pointer (some ⟨r,0,none⟩)) (h:w.ranges P k RK b r n D left cnt)
  (hDone:(∀kl,left kl=false)->wpList P ops Q rest (a.put o.dst (.tuple #[.bool false])) w)
  (hMore:∀(x:Int) (c:Value) (w':World) (cnt':Nat),left (.int .i64 x)=true->w'.ranges P k RK b r n D (fun z=>left z && !z.sameKey (.int .i64 x)) cnt'->cnt'<cnt ->
   w.grownBy w' (some r)->(Instr.entry (.pointer (some ⟨r,0,none⟩))).run P w' = .ok (.tuple #[.int .i64 x,c]) w'->wpList P ops Q rest (a.put o.dst (.tuple #[.bool true,.int .i64 x,c])) w') :
  wpList P ops Q (o :: rest) a w :=
 wpList_next_ranges w hg it hop k K RK (Value.int .i64) (fun v=>v) (fun key kl hkey=>by obtain⟨x,rfl,_⟩:=Maps.keyOf_int_inv hk hkey;exact⟨x,rfl⟩) (fun v y hv=>⟨v,rfl⟩)
  b r n D left cnt hit h (fun _ hl=>hDone hl) (fun x c kl y w' cnt' hkey hlk hv hat hrg hlt hgr hsz hen=>by
    obtain⟨x',ex,rfl,hwx⟩:=Maps.keyOf_int_inv hk hkey
    cases ex;exact hMore x c w' cnt' hlk hrg hlt hgr hen)
def fB(D:DataW Value):List Bool:=(List.range 13).map fun j=>Maps.has D (.int .i64 (j:Nat))
theorem xT{D:DataW Value}(hl:bits.length=13)(h:∀j,j<13->bits[j]? = some (Maps.has D (.int .i64 (j:Nat)))):bits=fB D:=by
 apply List.ext_getElem?;intro j;by_cases hj:j<13
 ·rw[h j hj];unfold fB;rw[Oo,List.getElem?_range hj];rfl
 ·rw[RB (by omega),RB (by unfold fB;simp;omega)]
def iT(bits:List Bool)(D:DataW Value)(left:Lit->Bool):Prop:=∀j,j<13->bits[j]? = some (Maps.has D (.int .i64 (j:Nat)) && !left (.int .i64 (j:Nat)))
theorem iT.start(D:DataW Value):iT bh D (Maps.has D):=fun j hj=>by
 have:bh[j]? = some false:=by
  obtain rfl|rfl|rfl|rfl|rfl|rfl|rfl|rfl|rfl|rfl|rfl|rfl|rfl:j=0∨j=1∨j=2∨j=3∨j=4∨j=5∨j=6∨j=7∨j=8∨j=9∨j=10∨j=11∨j=12:=by omega
  all_goals rfl
 rw[this]
 cases Maps.has D (.int .i64 (j:Nat)) <;> rfl
theorem iT.next{D:DataW Value}{left:Lit->Bool}(h:iT bits D left)(hl:bits.length=13)(k:Nat)(hk:Maps.has D (.int .i64 (k:Nat))=true) :
  iT (bits.set k true) D (fun z=>left z && !z.sameKey (.int .i64 (k:Int))):=fun j hj=>by
 by_cases e:k=j
 ·subst e;rw[List.getElem?_set_self (by omega),hk];simp[Lit.sameKey]
 ·rw[List.getElem?_set_ne e,h j hj]
  have:Lit.sameKey (.int .i64 (j:Nat)) (.int .i64 (k:Int))=false:=by
   simp[Lit.sameKey];omega
  dsimp only;rw[this];simp
theorem iT.done{D:DataW Value}{left:Lit->Bool}(h:iT bits D left)(hl:bits.length=13)(h0:∀kl,left kl=false):bits=fB D :=
 xT hl fun j hj=>by rw[h j hj,h0];simp
theorem nA(word:Bs)(cl:Int)(bm n:Nat)(D:DataW Value)(ms:List Nat)(A:Option Addr)(c:Nat)(w:World)(hD:bG w bm n D)(hk:∀x:Int,Maps.has D (.int .i64 x)=true->0<=x∧x<13)(hM:RdI w A ms)(hb:∀x ∈ ms,x<13)(hn:ms.length<=1000) :
  Calls prog 130 #[.string (bs word),.int .i64 cl,.map (some bm),.slice A ms.length c] w fun e w'=>e = .returned (kv word cl (aQ ms (fB D)) (.map (some bm)) false)∧Ext w w':=by
 have HM:=qh hM;have HB:=qh hb;have HK:=qh hk;have HBM:=qh hD.lt;have G8:=qh ((ID w 103 (aH [] 0 bh (.map none) false).toArray).alloc (.cells (aH word cl bh (.map (some bm)) false).toArray 103));have G9:=qh (Mf (w.alloc (.cells (aH [] 0 bh (.map none) false).toArray 103)) 103 (aH word cl bh (.map (some bm)) false).toArray (w.heap.size+1) (by simp));have HX:Hid (Ext w ((w.alloc (.cells (aH [] 0 bh (.map none) false).toArray 103)).alloc (.cells (aH word cl bh (.map (some bm)) false).toArray 103))):=qh ((Id _ _).alloc _);have HD:=qh (hD.ext HX.out);clear hM hb hk hD;go_enter func130,ntmps130;go_upto_region 2 with fail;dsimp only[aH,bh,MQ,Qh,MZ,ML]at G8 G9 HX HD
 generalize hW2:(w.alloc (.cells #[Value.string { data:=#[] },Value.int IntKind.i64 0,Value.bool false,Value.bool false,Value.bool false,Value.bool false,Value.bool false,Value.bool false,Value.bool false,Value.bool false,Value.bool false,Value.bool false,Value.bool false,Value.bool false,Value.bool false,Value.map none,Value.bool false] 103)).alloc
      (Obj.cells #[Value.string (bs word),Value.int IntKind.i64 cl,Value.bool false,Value.bool false,Value.bool false,Value.bool false,Value.bool false,Value.bool false,Value.bool false,Value.bool false,Value.bool false,Value.bool false,Value.bool false,Value.bool false,Value.bool false,Value.map (some bm),Value.bool false] 103)=W2
 replace HX:Hid (Ext w W2):=by rw[←hW2];exact HX
 replace HD:Hid (bG W2 bm n D):=by rw[←hW2];exact HD
 replace G8:Hid (Blk W2 w.heap.size 103 (aH [] 0 bh (.map none) false).toArray):=by rw[←hW2];exact G8
 replace G9:Hid (Blk W2 (w.heap.size+1) 103 (aH word cl bh (.map (some bm)) false).toArray):=by rw[←hW2];exact G9
 clear hW2;have hD2:=HD.out;go_wp2_with (first|(at_range;refine wpList_range_own _ rfl _ 101 rfl 3 163 gF Pa RK bm n D rfl hD2 ?_;intro w0 hrg0 hg0 hs0)|fail);replace HX:=qh (HX.out.trans ⟨hg0.os,hg0.tape,hg0.output,hg0.size,fun i hi=>hg0.block i hi (by simp)⟩);have hlt2:=G9.out.lt;have hb2:=HD.out.lt;replace G8:Hid (Blk w0 w.heap.size _ _):=qh ((hg0.block _ G8.out.lt (by simp)).trans G8.out);replace G9:Hid (Blk w0 (w.heap.size+1) _ _):=qh ((hg0.block _ G9.out.lt (by simp)).trans G9.out);have HR0:=qh hrg0;clear hD2 hrg0 hg0 hs0 HD;generalize W2.heap.size=R at *;go_frame
 go_loopw [19,10] (fun _ _ wr=>∃left cnt bits,wr.ranges prog 3 RK bm R n D left cnt∧bits.length=13∧(∀kl,left kl=true->Maps.has D kl=true)∧iT bits D left∧Blk wr w.heap.size 103 (aH [] 0 bh (.map none) false).toArray∧Blk wr (w.heap.size+1) 103 (aH word cl bits (.map (some bm)) false).toArray∧Ext w wr) (fun _ _ wr=>wr.rangeLeft bm R)
 case atStart=>exact⟨_,_,bh,HR0.out,rfl,fun _ h=>h,iT.start D,G8.out,G9.out,HX.out⟩
 case round =>
  clear HX G8 G9 HR0;obtain⟨left,cnt,bits,hrg,hbl,hlh,hba,h8,h9,hx⟩:=hrel;have HX:=qh hx;have G8:=qh h8;have G9:=qh h9;have HL:=qh hbl;have HH:=qh hlh;have HBA:=qh hba;clear hx h8 h9 hbl hlh hba;go_wp2_with (first|(at_next;refine rH _ rfl _ rfl 3 gF Pw bm R n D left cnt rfl hrg (fun hl0=>?_) ?_)|fail)
  ·have HBK:=qh (HBA.out.done HL.out hl0);clear hrg HH HK HBA hl0;go_loopw [28,12] (fun i _ wr=>∃k:Nat,k<=ms.length∧i = .int .i64 k∧Ext w wr∧Blk wr w.heap.size 103 (aH [] 0 bh (.map none) false).toArray∧Blk wr (w.heap.size+1) 103 (aH word cl (aQ (ms.take k) bits) (.map (some bm)) false).toArray) (fun i _ _=>ms.length-(intOf i).toNat)
   case atStart=>exact⟨0,by omega,rfl,HX.out,G8.out,G9.out⟩
   case round =>
    clear HX G8 G9;obtain⟨k,hk,rfl,hx,h8,h9⟩:=hrel;have HX:=qh hx;have G8:=qh h8;have G9:=qh h9;clear hx h8 h9;by_cases hlt:k<ms.length
    ·obtain⟨b,o,rfl,hb,c0⟩:=(HM.out.ext HX.out).at_ hlt;have hx13:=HB.out _ (Ml hlt);have hlen:(aQ (ms.take k) bits).length=13:=by rw[j0];exact HL.out
     have hs:aQ (ms.take (k+1)) bits=(aQ (ms.take k) bits).set (ms[k]'hlt) true:=oY hlt bits;have N9:=G9.out.set_ (2+ms[k]'hlt) (.bool true);rw[rE _ _ _ _ _ _ _ (by omega),←hs]at N9;have q0:=G9.out.cell (2+ms[k]'hlt);rw[qu _ _ _ _ _ _ (by omega)]at q0;have f:=fun k=>G9.out.frozen k
     obtain⟨bb,q⟩:∃bb,wr.cell? ⟨w.heap.size+1,2+ms[k]'hlt,none⟩=some (.bool bb):=⟨_,q0⟩;clear q0;have N9h:=qh N9;clear N9 hs;generalize ms[k]'hlt=x at *;have hki:(k:Int)<(ms.length:Int):=by omega
     have hx1:(x:Int)<13:=by omega
     have N8:=qh (G8.out.far (p:=⟨w.heap.size+1,2+x,none⟩) (by simp) (.bool true));have NX:=qh (HX.out.setCell (p:=⟨w.heap.size+1,2+x,none⟩) (by simp) (.bool true));clear hlen;go_wp2_with fail;exact⟨⟨k+1,by omega,by go_num,NX.out,N8.out,N9h.out⟩,by simp[intOf];omega⟩
    ·obtain rfl:k=ms.length:=by omega
     have hlen:(aQ (ms.take ms.length) bits).length=13:=by rw[j0];exact HL.out
     rw[MK]at G9 hlen;have hrg:=j5 G9.out;have hth:wr.there w.heap.size 0 (aH word cl (aQ ms bits) (.map (some bm)) false).toArray.size:=eW G8.out (by rw[Nh,gj _ _ _ _ _ hlen];rfl);have hs1:(prog.info? 103).map (·.size)=some (aH word cl (aQ ms bits) (.map (some bm)) false).length:=by rw[gj _ _ _ _ _ hlen];kernel_rfl
     have hs2:(prog.info? 103).map (·.size)=some (aH word cl (aQ ms bits) (.map (some bm)) false).toArray.size:=hs1;have hoc:=kk word cl (aQ ms bits) (.map (some bm)) false rfl;have O8:=qh (fK G8.out (ys:=aH word cl (aQ ms bits) (.map (some bm)) false) (by unfold aH;simp[hlen,bh]));have HS:=qh (ext_sets (aH word cl (aQ ms bits) (.map (some bm)) false) 0 wr () HX.out (Mn _));have HR:=qh hlen;clear hlen hk hlt HB HM G8 G9;go_wp2_with (first|refine Oh rfl 103 _ rfl (w.heap.size+1) 0 rfl _ _ hrg Q8 rfl hs1 ?_|refine Oy rfl 103 _ _ rfl w.heap.size 0 _ rfl rfl hth hs2 hoc ?_|fail);refine MI (iQ rfl _ _ w.heap.size HR.out rfl O8.out) rfl ?_;exact⟨by rw[←HBK.out],HS.out⟩
  ·intro x cv w1 cnt1 hlk hrg1 hlt1 hg1 hen;obtain⟨hx0,hx1⟩:=HK.out x (HH.out _ hlk);obtain⟨j,rfl⟩:∃j:Nat,x=j:=⟨x.toNat,by omega⟩;have hn9:w.heap.size+1≠R:=by omega
   have hn8:w.heap.size≠R:=by omega
   have hbn:bm≠w.heap.size+1:=by have:=HBM.out;omega
   have g9:Blk w1 (w.heap.size+1) 103 (aH word cl bits (.map (some bm)) false).toArray:=(hg1.block _ G9.out.lt (by simpa using hn9)).trans G9.out;have g8:Blk w1 w.heap.size 103 (aH [] 0 bh (.map none) false).toArray:=(hg1.block _ G8.out.lt (by simpa using hn8)).trans G8.out;have N9:=g9.set_ (2+j) (.bool true);rw[rE _ _ _ _ _ _ _ (by rw[HL.out];omega)]at N9;have q0:=g9.cell (2+j);rw[qu _ _ _ _ _ _ (by rw[HL.out];omega)]at q0;obtain⟨bb,q⟩:∃bb,w1.cell? ⟨w.heap.size+1,2+j,none⟩=some (.bool bb):=⟨_,q0⟩;have f:=fun k=>g9.frozen k
   have N8h:=qh (g8.far (p:=⟨w.heap.size+1,2+j,none⟩) (by simp) (.bool true));have N9h:=qh N9;have hRw:w.heap.size<=R:=by omega
   have hx2:Ext w w1:=HX.out.only hg1 hRw;have NX:=qh (hx2.setCell (p:=⟨w.heap.size+1,2+j,none⟩) (by simp) (.bool true))
   have HRG:Hid (World.ranges (w1.setCell ⟨w.heap.size+1,2+j,none⟩ (.bool true)) prog 3 RK bm R n D (fun z=>left z && !z.sameKey (.int .i64 (j:Int))) cnt1) :=
    qh (hrg1.kept ((Mh (w.heap.size+1) w1).setCell (2+j) (.bool true)) (by simpa using hbn) (by simpa using fun h:R=w.heap.size+1=>hn9 h.symm))
   have HNL:Hid (∀kl,(left kl && !kl.sameKey (.int .i64 (j:Int)))=true->Maps.has D kl=true):=qh (fun kl h=>HH.out kl (by simp only[MJ]at h;exact h.1));have HNB:=qh (HBA.out.next HL.out j (HH.out _ hlk));have hlen:(bits.set j true).length=13:=by rw[MM];exact HL.out
   have hmeas:World.rangeLeft (w1.setCell ⟨w.heap.size+1,2+j,none⟩ (.bool true)) bm R<wr.rangeLeft bm R:=by rw[HRG.out.left_eq,hrg.left_eq];exact hlt1
   clear N9 q0 g9 g8 hx2 hrg hrg1 hg1 HX G8 G9 HH hlk HK HL HM HBA;have hj1:(j:Int)<13:=by omega
   go_wp2_with fail;exact⟨⟨_,_,_,HRG.out,hlen,HNL.out,HNB.out,N8h.out,N9h.out,NX.out⟩,hmeas⟩
def dw(w:World)(v:Value)(p q:Bool):Prop:=∃g1 g2,v=jP g1 g2∧Blk w g1 4 #[.bool p]∧Blk w g2 4 #[.bool q]
theorem dw.on{w:World}(h:dw w v p q)(hb:∀g t cs,Blk w g t cs->Blk w' g t cs):dw w' v p q:=by
 obtain⟨g1,g2,e,h1,h2⟩:=h;exact⟨g1,g2,e,hb _ _ _ h1,hb _ _ _ h2⟩
theorem dw.ext{w:World}(h:dw w v p q)(hx:Ext w w'):dw w' v p q:=h.on fun _ _ _ hb=>hb.ext hx
def iU(w:World)(D:DataW Value)(k:Nat)(p q:Bool):Prop:=Maps.has D (.int .i64 (k:Nat))=true∧∃v,(∀z,D.atKey (.int .i64 (k:Nat)) z = .held v)∧dw w v p q
abbrev lK:=List (Nat × Bool × Bool)
def gM(D:DataW Value)(ks:List Nat):Prop:=∀x:Int,Maps.has D (.int .i64 x)=true->∃k ∈ ks,x=(k:Nat)
def CM(w:World)(b:Nat)(es:lK):Prop:=∃n D,bG w b n D∧n<=200∧gM D (es.map (·.1))∧∀e ∈ es,iU w D e.1 e.2.1 e.2.2
theorem iU.on{w:World}{D:DataW Value}(h:iU w D k p q)(hb:∀g t cs,Blk w g t cs->Blk w' g t cs):iU w' D k p q:=by
 obtain⟨h1,v,h2,h3⟩:=h;exact⟨h1,v,h2,h3.on hb⟩
theorem CM.on{w:World}{es:lK}(h:CM w b es)(hb:∀g t cs,Blk w g t cs->Blk w' g t cs)(hm:∀n D,bG w b n D->bG w' b n D):CM w' b es:=by
 obtain⟨n,D,h1,h2,h3,h4⟩:=h;exact⟨n,D,hm n D h1,h2,h3,fun e he=>(h4 e he).on hb⟩
theorem CM.ext{w:World}{es:lK}(h:CM w b es)(hx:Ext w w'):CM w' b es:=h.on (fun _ _ _ hb=>hb.ext hx) (fun _ _ hm=>hm.ext hx)
theorem CM.lt{w:World}{es:lK}(h:CM w b es):b<w.heap.size:=by
 obtain⟨n,D,h1,_⟩:=h;exact h1.lt
theorem tw(k:Int):WideAt.IsKeyLit (.int .i64 k):=by trivial
theorem ld:gM (.map []) []:=fun x h=>by simp[Maps.has]at h
theorem iw{D:DataW Value}(h:gM D ks)(k:Nat)(hk:k ∈ ks)(d:DataW Value):gM (D.put (.int .i64 (k:Nat)) d) ks:=fun x hx=>by
 by_cases e:x=(k:Nat)
 ·exact⟨k,hk,e⟩
 ·rw[Q9 (by simpa using e)]at hx;exact h x hx
theorem j6{D:DataW Value}(h:gM D ks)(hs:∀k ∈ ks,k ∈ ks'):gM D ks':=fun x hx=>by
 obtain⟨k,h1,h2⟩:=h x hx;exact⟨k,hs k h1,h2⟩
theorem lZ{w:World}{D:DataW Value}(hD:Maps.IsMap D)(k:Nat)(h:dw w v p q):iU w (D.put (.int .i64 (k:Nat)) (.held v)) k p q :=
 ⟨Maps.has_put_same hD (tw _) _,v,fun z=>Maps.atKey_put_same hD (tw _) _ z,h⟩
theorem lh{w:World}{D:DataW Value}(h:iU w D k' p q)(hne:k'≠k)(d:DataW Value):iU w (D.put (.int .i64 (k:Nat)) d) k' p q:=by
 obtain⟨h1,v,h2,h3⟩:=h;have hl:(Lit.int .i64 (k':Nat))≠Lit.int .i64 (k:Nat):=fun h=>hne (by have:=(Lit.int.inj h).2;omega)
 exact⟨(Q9 hl _).trans h1,v,fun z=>(Maps.atKey_put_other hl _ z).trans (h2 z),h3⟩
def iV(ks:List Nat):List Bool:=(List.range 13).map fun j=>ks.contains j
theorem mI{w:World}{D:DataW Value}{es:lK}(h:gM D (es.map (·.1)))(he:∀e ∈ es,iU w D e.1 e.2.1 e.2.2):fB D=iV (es.map (·.1)):=by
 unfold fB iV;apply OC;intro j _
 cases hc:(es.map (·.1)).contains j
 ·cases hh:Maps.has D (.int .i64 (j:Nat))
  ·rfl
  ·obtain⟨k,hk,e⟩:=h _ hh;have:j=k:=by omega
   subst this
   rw[List.contains_iff_mem.2 hk]at hc
   cases hc
 ·have hm:=List.contains_iff_mem.1 hc;rw[MH]at hm;obtain⟨e,h1,h2⟩:=hm;have:=(he e h1).1;rw[h2]at this
  exact this
theorem oZ{D:DataW Value}(h:gM D ks)(hk:∀k ∈ ks,k<13):∀x:Int,Maps.has D (.int .i64 x)=true->0<=x∧x<13:=fun x hx=>by
 obtain⟨k,h1,rfl⟩:=h x hx;have:=hk k h1;omega
def ew:List Bool:=[false,false,true,false,false,true,false,false,false,false,false,false,false]
def Ha(w:World)(word:Bs)(e:Ending)(w':World):Prop:=∃b,w.heap.size<=b∧CM w' b [(5,true,false)]∧e = .returned (kv word 2 ew (.map (some b)) false)∧Ext w w'
theorem E9(word:Bs)(g3 g1:Nat)(lv:Value)(w:World)(hlv:dw w lv true false)(b3:Blk w g3 FT #[fL])(b1:Blk w g1 qw #[lv]) :
  Calls prog 131 #[.string (bs word),.pointer (some ⟨g3,0,none⟩),.pointer (some ⟨g1,0,none⟩)] w (Ha w word):=by
 have HL:=qh hlv;clear hlv;have hmm:=@RW prog;have HX:Hid (Ext w (w.alloc (.cells (aH [] 0 bh (.map none) false).toArray 103))):=qh (Id _ _);have G4:=qh (ID w 103 (aH [] 0 bh (.map none) false).toArray);have B3:=qh (b3.ext HX.out);have B1:=qh (b1.ext HX.out);dsimp only[aH,bh,MQ,Qh,MZ,ML]at HX G4 B3 B1;clear b3 b1;go_enter func131,ntmps131;go_upto_region 1 with fail;generalize hW2:(w.alloc (.cells #[Value.string { data:=#[] },Value.int IntKind.i64 0,Value.bool false,Value.bool false,Value.bool false,Value.bool false,Value.bool false,Value.bool false,Value.bool false,Value.bool false,Value.bool false,Value.bool false,Value.bool false,Value.bool false,Value.bool false,Value.map none,Value.bool false] 103))=W2;replace HX:Hid (Ext w W2):=by rw[←hW2];exact HX
 replace G4:Hid (Blk W2 w.heap.size 103 (aH [] 0 bh (.map none) false).toArray):=by rw[←hW2];exact G4
 replace B3:Hid (Blk W2 g3 FT #[fL]):=by rw[←hW2];exact B3
 replace B1:Hid (Blk W2 g1 qw #[lv]):=by rw[←hW2];exact B1
 have HSZ:Hid (w.heap.size<=W2.heap.size):=qh HX.out.size;have HLT:Hid (w.heap.size<W2.heap.size):=qh G4.out.lt;clear hW2;have q3:=B3.out.cell 0;have q1:=(B1.out.alloc (.map #[] 0)).cell 0;simp only[Mk,Mm]at q3 q1;have M0:bG (W2.alloc (.map #[] 0)) W2.heap.size 0 (.map []):=Rd _ _ _ _;go_wp2_with (first|(refine eJ _ rfl _ _ _ 101 rfl 3 163 gF Pa RK W2.heap.size 0 _ rfl M0 (by decide) (.int .i64 5) _ _ rfl rfl (mF 5 (by decide)) _ [] rfl ?_;intro w1 M1 hg1)|fail);replace M1:bG w1 W2.heap.size (0+1) ((DataW.map []).put (.int .i64 5) (.held lv)):=M1;have hx1:Ext W2 w1:=(Id W2 _).only hg1 (Mn _);replace HX:=HX.qt hx1;replace G4:=qh (G4.out.ext hx1);have HM1:=qh M1;have HKN:Hid (gM ((DataW.map []).put (.int .i64 5) (.held lv)) [5]):=qh (iw (j6 ld (by simp)) 5 (by simp) _);have HEN:Hid (∀wx,dw wx lv true false->iU wx ((DataW.map []).put (.int .i64 5) (.held lv)) 5 true false):=qh (fun wx h=>lZ (by exact⟨[],rfl⟩) 5 h)
 have hbits:fB ((DataW.map []).put (.int .i64 5) (.held lv))=iV [5]:=mI (es:=[(5,true,false)]) (w:=w) HKN.out (fun e he=>by
  simp only[Pd]at he;subst he;exact HEN.out _ HL.out)
 have HC:=qh (nA word 2 W2.heap.size (0+1) _ [2] (some ⟨w1.heap.size,0,none⟩) 1 _ (bG.ext M1 (Id w1 _)) (zh zg 5 (by decide) _) (G0 [.int .i64 2] [2] rfl) (by decide) (by decide));rw[hbits]at HC;clear hbits;clear M0 M1 hg1 hx1 q1 q3 B3 B1;go_wp2_with fail;refine HC.out.mono ?_;rintro e w2⟨rfl,hx2⟩;have hl:(aQ [2] (iV [5])).length=13:=by decide
 have hab:aQ [2] (iV [5])=ew:=by decide
 rw[hab]at hl ⊢;replace HM1:=qh ((HM1.out.ext (Id w1 _)).ext hx2);have hx3:=(Id w1 _).trans hx2;replace HX:=HX.qt hx3;replace G4:=qh (G4.out.ext hx3);clear hx2 hx3 HC hmm;have hth:w2.there w.heap.size 0 (aH word 2 ew (.map (some W2.heap.size)) false).toArray.size:=eW G4.out (by rw[Nh,gj _ _ _ _ _ hl];rfl);have hs2:(prog.info? 103).map (·.size)=some (aH word 2 ew (.map (some W2.heap.size)) false).toArray.size:=by rw[Nh,gj _ _ _ _ _ hl];kernel_rfl
 have hoc:=kk word 2 ew (.map (some W2.heap.size)) false rfl;have O4:=qh (fK G4.out (ys:=aH word 2 ew (.map (some W2.heap.size)) false) (by rw[gj _ _ _ _ _ hl];rfl));have HS:=qh (ext_sets (aH word 2 ew (.map (some W2.heap.size)) false) 0 w2 () HX.out (Mn _));have hne:W2.heap.size≠w.heap.size:=by have:=HLT.out;omega
 have HMS:=qh (bG.only HM1.out (Only.sets (aH word 2 ew (.map (some W2.heap.size)) false) 0 w2 w2 (Mh w.heap.size w2)) hne);clear hne;go_wp2_with (first|refine Oy rfl 103 _ _ rfl w.heap.size 0 _ rfl rfl hth hs2 hoc ?_|fail);refine MI (iQ rfl _ _ w.heap.size hl rfl O4.out) rfl ?_;refine⟨_,HSZ.out,⟨_,_,HMS.out,by omega,HKN.out,fun e he=>?_⟩,rfl,HS.out⟩;simp only[Pd]at he;subst he;exact HEN.out _ (HL.out.ext HS.out)
theorem Fa(word:Bs)(cl:Int)(bits:List Bool)(num:Value)(code:Bool)(w:World)(hl:bits.length=13)(hn:num.oneCell'=true) :
  Calls prog 132 #[kv word cl bits num code] w fun e w'=>e = .returned (kv word cl bits num true)∧Ext w w':=by
 obtain⟨b0,b1,b2,b3,b4,b5,b6,b7,b8,b9,b10,b11,b12,rfl⟩:=xO hl;have HX:Hid (Ext w ((w.alloc (.cells (aH word cl [b0,b1,b2,b3,b4,b5,b6,b7,b8,b9,b10,b11,b12] num code).toArray 103)).alloc (.cells (aH [] 0 bh (.map none) false).toArray 103))):=qh ((Id _ _).alloc _);have G1:=qh ((ID w 103 (aH word cl [b0,b1,b2,b3,b4,b5,b6,b7,b8,b9,b10,b11,b12] num code).toArray).alloc (.cells (aH [] 0 bh (.map none) false).toArray 103));have G2:=qh (Mf (w.alloc (.cells (aH word cl [b0,b1,b2,b3,b4,b5,b6,b7,b8,b9,b10,b11,b12] num code).toArray 103)) 103 (aH [] 0 bh (.map none) false).toArray (w.heap.size+1) (by simp));have HN:=qh hn;have HL:=qh hl;clear hn hl;dsimp only[aH,bh,MQ,Qh,MZ,ML]at HX G1 G2;have hkv:kv word cl [b0,b1,b2,b3,b4,b5,b6,b7,b8,b9,b10,b11,b12] num code = .agg #[.string (bs word),.int .i64 cl,.bool b0,.bool b1,.bool b2,.bool b3,.bool b4,.bool b5,.bool b6,.bool b7,.bool b8,.bool b9,.bool b10,.bool b11,.bool b12,num,.bool code]:=rfl;rw[hkv];clear hkv;go_enter func132,ntmps132;go_upto_region 1 with fail;generalize hW2:((w.alloc (.cells #[Value.string (bs word),Value.int IntKind.i64 cl,Value.bool b0,Value.bool b1,Value.bool b2,Value.bool b3,Value.bool b4,Value.bool b5,Value.bool b6,Value.bool b7,Value.bool b8,Value.bool b9,Value.bool b10,Value.bool b11,Value.bool b12,num,Value.bool code] 103)).alloc (.cells #[Value.string { data:=#[] },Value.int IntKind.i64 0,Value.bool false,Value.bool false,Value.bool false,Value.bool false,Value.bool false,Value.bool false,Value.bool false,Value.bool false,Value.bool false,Value.bool false,Value.bool false,Value.bool false,Value.bool false,Value.map none,Value.bool false] 103))=W2;replace HX:Hid (Ext w W2):=by rw[←hW2];exact HX
 replace G1:Hid (Blk W2 w.heap.size 103 (aH word cl [b0,b1,b2,b3,b4,b5,b6,b7,b8,b9,b10,b11,b12] num code).toArray):=by rw[←hW2];exact G1
 replace G2:Hid (Blk W2 (w.heap.size+1) 103 (aH [] 0 bh (.map none) false).toArray):=by rw[←hW2];exact G2
 clear hW2;have q16:=G1.out.cell 16;rw[B6 _ _ _ _ _ HL.out]at q16;have f16:=G1.out.frozen 16;have N1:Hid (Blk (W2.setCell ⟨w.heap.size,16,none⟩ (.bool true)) w.heap.size 103 (aH word cl [b0,b1,b2,b3,b4,b5,b6,b7,b8,b9,b10,b11,b12] num true).toArray):=qh (G1.out.set_ 16 (.bool true));have N2:=qh (G2.out.far (p:=⟨w.heap.size,16,none⟩) (by simp) (.bool true));have NX:=qh (HX.out.setCell (p:=⟨w.heap.size,16,none⟩) (Mn _) (.bool true));clear HX G1 G2;go_upto_region 2 with fail;generalize W2.setCell ⟨w.heap.size,16,none⟩ (.bool true)=W3 at *;clear q16 f16;have hrg:=j5 N1.out;have hth:W3.there (w.heap.size+1) 0 (aH word cl [b0,b1,b2,b3,b4,b5,b6,b7,b8,b9,b10,b11,b12] num true).toArray.size:=eW N2.out (by rfl);have hs1:(prog.info? 103).map (·.size)=some (aH word cl [b0,b1,b2,b3,b4,b5,b6,b7,b8,b9,b10,b11,b12] num true).length:=by rw[gj _ _ _ _ _ HL.out];kernel_rfl
 have hs2:(prog.info? 103).map (·.size)=some (aH word cl [b0,b1,b2,b3,b4,b5,b6,b7,b8,b9,b10,b11,b12] num true).toArray.size:=hs1;have hoc:=kk word cl [b0,b1,b2,b3,b4,b5,b6,b7,b8,b9,b10,b11,b12] num true HN.out;have O2:=qh (fK N2.out (ys:=aH word cl [b0,b1,b2,b3,b4,b5,b6,b7,b8,b9,b10,b11,b12] num true) (by rfl));have HS:=qh (ext_sets (aH word cl [b0,b1,b2,b3,b4,b5,b6,b7,b8,b9,b10,b11,b12] num true) 0 W3 () NX.out (QQ _));go_wp2_with (first|refine Oh rfl 103 _ rfl w.heap.size 0 rfl _ _ hrg Q8 rfl hs1 ?_|refine Oy rfl 103 _ _ rfl (w.heap.size+1) 0 _ rfl rfl hth hs2 hoc ?_|fail);refine MI (iQ rfl _ _ (w.heap.size+1) HL.out rfl O2.out) rfl ?_;exact⟨rfl,HS.out⟩
end
section
open Go.RowKit
attribute [local go_sem] size_bs toList_bs
def bU(f:Fr)(p q:Bool):Int :=
 if cA f≠0 then 1 else if 40<cN f.num∨40<cN f.den then 4 else if cU (ay f) 0<0∨(p=true∧cU (ay f) 0=0)∨(q=true∧0<cU (ay f) 1) then 2 else 0
theorem qA(f:Fr)(p:Bool):bU f p false=bR f p:=by
 unfold bU bR;simp
structure LimP (f:Fr) (e:Int):Prop where
 c:cA f≠0->e=1
 d:cA f=0->40<cN f.num∨40<cN f.den->e=4
 s:cA f=0->¬ 40<cN f.num->¬ 40<cN f.den->cU (ay f) 0<0->e=2
 t:cA f=0->¬ 40<cN f.num->¬ 40<cN f.den->0<cU (ay f) 1->e=2
 k:cA f=0->¬ 40<cN f.num->¬ 40<cN f.den->¬ cU (ay f) 0<0->¬ 0<cU (ay f) 1->e=0
theorem Lp(f:Fr):LimP f (bU f false true):=by
 refine⟨fun a=>?_,fun a b=>?_,fun a b c d=>?_,fun a b c d=>?_,fun a b c d e=>?_⟩
 ·unfold bU;rw[Mq a]
 ·unfold bU;rw[Mj (by simpa using a),Mq b]
 ·unfold bU;rw[Mj (by simpa using a),Mj (by omega),Mq (.inl d)]
 ·unfold bU;rw[Mj (by simpa using a),Mj (by omega),Mq (.inr (.inr ⟨rfl,d⟩))]
 ·unfold bU;rw[Mj (by simpa using a),Mj (by omega),Mj (by simp;exact⟨by omega,by omega⟩)]
theorem xU(p q:Rat):cU p q = -1∨cU p q=0∨cU p q=1:=by
 unfold cU;split
 ·exact .inl rfl
 ·split
  ·exact .inr (.inl rfl)
  ·exact .inr (.inr rfl)
theorem Hb(f:Fr)(h1:f.num.length<=9000)(h2:f.den.length<=9000)(g1 g2:Nat)(w:World)(hE:Env w)(b1:Blk w g1 4 #[.bool false])(b2:Blk w g2 4 #[.bool true]) :
  Calls prog 199 #[fv f,.pointer (some ⟨g1,0,none⟩),.pointer (some ⟨g2,0,none⟩)] w fun e w'=>e = .returned (.int .i64 (bU f false true))∧Ext w w':=by
 have HE:=qh hE;have CK:=qh (qp f (by omega) (by omega));have cm:=rz f ⟨[],[]⟩ (by omega) (by omega) (by simp) (by simp);rw[uf]at cm;have CM:=qh cm;have on:=yR [49] (by simp);rw[ji]at on;have ol:(bX ((1:Int):Rat)).num.length<=20000∧(bX ((1:Int):Rat)).den.length<=20000:=by decide +kernel
 have cm1:=rz f (bX ((1:Int):Rat)) (by omega) (by omega) ol.1 ol.2;have e1:ay (bX ((1:Int):Rat))=1:=by rw[lS];rfl
 rw[e1]at cm1;have CM1:=qh cm1;have ON:=qh on;have lf:=Lp f;have F1:=qh lf.c;have F2:=qh lf.d;have F3:=qh lf.s;have F5:=qh lf.t;have F4:=qh lf.k;have D1:=qh (fun W=>mE f.num (by omega) W);have D2:=qh (fun W=>mE f.den (by omega) W);clear cm lf h1 h2 hE cm1 on ol e1;generalize bU f false true=res at *;generalize bX ((1:Int):Rat)=one at *;obtain⟨n,d⟩:=f;obtain⟨on,od⟩:=one;dsimp only at F1 F2 F3 F4 F5 D1 D2;generalize cA ⟨n,d⟩=ck at *;generalize cN n=d1 at *;generalize cN d=d2 at *;have hsg:=qh (xU (ay ⟨n,d⟩) 0);generalize cU (ay ⟨n,d⟩) 0=sg at *;generalize cU (ay ⟨n,d⟩) 1=s1 at *;have HV:=qh (ID w 26 #[.string (bs n),.string (bs d)]);have HX:Hid (Ext w (w.alloc (.cells #[.string (bs n),.string (bs d)] 26))):=qh (Id _ _);have B1:=qh (b1.ext HX.out);have B2:=qh (b2.ext HX.out);clear b1 b2;go_enter func199,ntmps199;obtain⟨u0,u1,_,_⟩:=aB HV.out (iD _);go_wp2_with fail;refine(CM.out _ (HE.out.ext HX.out)).mono ?_;rintro e v1⟨rfl,hx1⟩;replace HV:=qh (HV.out.ext hx1);replace B1:=qh (B1.out.ext hx1);replace B2:=qh (B2.out.ext hx1);replace HX:=HX.qt hx1;clear hx1;clear u0 u1;obtain⟨u0,u1,_,_⟩:=aB HV.out (iD _);go_wp2_with fail;refine(CK.out _ (HE.out.ext HX.out)).mono ?_;rintro e v2⟨rfl,hx1⟩;replace HV:=qh (HV.out.ext hx1);replace B1:=qh (B1.out.ext hx1);replace B2:=qh (B2.out.ext hx1);replace HX:=HX.qt hx1;clear hx1;clear u0 u1;obtain⟨u0,u1,_,_⟩:=aB HV.out (iD _);by_cases y1:ck=0;rotate_left
 ·have g:(ck != 0)=true:=by rw[Nc];exact y1
  have e0:=F1.out y1;subst e0;clear F1 F2 F3 F4 F5;go_wp2_with fail;go_ret;exact⟨rfl,HX.out⟩
 subst y1;go_wp2_with fail;refine(D1.out _).mono ?_;rintro e v4⟨rfl,hx1⟩;replace HV:=qh (HV.out.ext hx1);replace B1:=qh (B1.out.ext hx1);replace B2:=qh (B2.out.ext hx1);replace HX:=HX.qt hx1;clear hx1;clear u0 u1;obtain⟨u0,u1,_,_⟩:=aB HV.out (iD _);by_cases y2:40<d1
 ·have g:decide ((40:Int)<(d1:Int))=true:=by rw[MA];omega
  have e0:=F2.out (by trivial) (.inl y2);subst e0;clear F1 F2 F3 F4 F5;go_wp2_with fail;go_ret;exact⟨rfl,HX.out⟩
 have gg2:decide ((40:Int)<(d1:Int))=false:=by rw[Mi];omega
 go_wp2_with fail;refine(D2.out _).mono ?_;rintro e W6⟨rfl,hx1⟩;replace HV:=qh (HV.out.ext hx1);replace B1:=qh (B1.out.ext hx1);replace B2:=qh (B2.out.ext hx1);replace HX:=HX.qt hx1;clear hx1;clear u0 u1;obtain⟨u0,u1,_,_⟩:=aB HV.out (iD _);by_cases y3:40<d2
 ·have g:decide ((40:Int)<(d2:Int))=true:=by rw[MA];omega
  have e0:=F2.out (by trivial) (.inr y3);subst e0;clear F1 F2 F3 F4 F5;go_wp2_with fail;go_ret;exact⟨rfl,HX.out⟩
 have g3:decide ((40:Int)<(d2:Int))=false:=by rw[Mi];omega
 have q1:=B1.out.cell 0;have q2:=B2.out.cell 0;simp only[Mk,Mm]at q1 q2;by_cases y4:sg<0
 ·have g4:decide (sg<0)=true:=Pz y4;have e0:=F3.out (by trivial) y2 y3 y4;subst e0;clear F1 F2 F3 F4 F5;go_wp2_with fail;go_quiet (fail);go_wp2_with fail;go_ret;exact⟨rfl,HX.out.drewN _⟩
 have g4:decide (sg<0)=false:=Nv y4;have HR:Hid ((0<s1->res=2)∧(¬ 0<s1->res=0)):=qh ⟨F5.out (by trivial) y2 y3,fun h=>F4.out (by trivial) y2 y3 (by omega) (by omega)⟩;clear F1 F2 F3 F4 F5 CM CK D1 D2;go_upto_region 6 with fail;obtain rfl|rfl:sg=0∨sg=1:=by have:=hsg.out;omega
 focus
  skip;refine QU (S:=fun w'=>w'.cell? ⟨w.heap.size,0,none⟩=some (.string (bs n))∧w'.cell? ⟨w.heap.size,1,none⟩=some (.string (bs d))∧w'.cell? ⟨g1,0,none⟩=some (.bool false)∧w'.cell? ⟨g2,0,none⟩=some (.bool true)) (by kernel_rfl) ⟨u0,u1,q1,q2⟩ (fun hHeld=>?_);have HD:Hid (Ext W6 W6.drew):=qh (iD W6).drew;refine tk 0 (.int .i64 0) rfl (by kernel_rfl) (fun _ _ _ h=>h) (NB ⟨by kernel_rfl,?_⟩) (by assumption) ?_
  ·intro w hSw;(try dsimp only at hSw)
   obtain⟨s0,s1,s2,s3⟩:=hSw;go_simp
 rotate_left
 focus
  skip;refine QU (S:=fun w'=>w'.cell? ⟨w.heap.size,0,none⟩=some (.string (bs n))∧w'.cell? ⟨w.heap.size,1,none⟩=some (.string (bs d))∧w'.cell? ⟨g1,0,none⟩=some (.bool false)∧w'.cell? ⟨g2,0,none⟩=some (.bool true)) (by kernel_rfl) ⟨u0,u1,q1,q2⟩ (fun hHeld=>?_);have HD:Hid (Ext W6 W6.drew):=qh (iD W6).drew;refine tk 0 (.int .i64 1) rfl (by kernel_rfl) (fun _ _ _ h=>h) (NB ⟨by kernel_rfl,?_⟩) (by assumption) ?_
  ·intro w hSw;(try dsimp only at hSw)
   obtain⟨s0,s1,s2,s3⟩:=hSw;go_simp
 all_goals
  (try simp only[p4])
  refine tk 1 (.bool false) rfl (by kernel_rfl) (fun _ _ _ h=>h) (NB ⟨by kernel_rfl,?_⟩) (by assumption) ?_
  ·intro w hSw;(try dsimp only at hSw)
   obtain⟨s0,s1,s2,s3⟩:=hSw;go_simp
  (try simp only[p4])
  refine tk 2 (.bool false) rfl (by kernel_rfl) (fun _ _ _ h=>h) (NB ⟨by kernel_rfl,?_⟩) (by assumption) ?_
  ·intro w hSw;(try dsimp only at hSw)
   obtain⟨s0,s1,s2,s3⟩:=hSw;go_simp
  (try simp only[p4])
  refine tk 3 (.bool false) rfl (by kernel_rfl) (fun _ _ _ h=>h) (NB ⟨by kernel_rfl,?_⟩) (by assumption) ?_
  ·intro w hSw;(try dsimp only at hSw)
   obtain⟨s0,s1,s2,s3⟩:=hSw;go_simp
  (try simp only[p4])
  refine tk 4 (.bool false) rfl (by kernel_rfl) (fun _ _ _ h=>h) (NB ⟨by kernel_rfl,?_⟩) (by assumption) ?_
  ·intro w hSw;(try dsimp only at hSw)
   obtain⟨s0,s1,s2,s3⟩:=hSw;go_simp
  (try simp only[p4])
  refine tk 5 (undef) rfl (by kernel_rfl) (fun _ _ _ h=>h) (Or.inr ⟨by kernel_rfl,rfl⟩) (by assumption) ?_;(try simp only[p4])
  refine tk 6 (undef) rfl (by kernel_rfl) (fun _ _ _ h=>h) (Or.inr ⟨by kernel_rfl,rfl⟩) (by assumption) ?_;(try simp only[p4])
  refine tk 7 (.bool false) rfl (by kernel_rfl) (fun _ _ _ h=>h) (NB ⟨by kernel_rfl,?_⟩) (by assumption) ?_
  ·intro w hSw;(try dsimp only at hSw)
   obtain⟨s0,s1,s2,s3⟩:=hSw;go_simp
  (try simp only[p4])
  refine tk 8 (.bool false) rfl (by kernel_rfl) (fun _ _ _ h=>h) (NB ⟨by kernel_rfl,?_⟩) (by assumption) ?_
  ·intro w hSw;(try dsimp only at hSw)
   obtain⟨s0,s1,s2,s3⟩:=hSw;go_simp
  (try simp only[p4])
  refine tk 9 (.bool false) rfl (by kernel_rfl) (fun _ _ _ h=>h) (NB ⟨by kernel_rfl,?_⟩) (by assumption) ?_
  ·intro w hSw;(try dsimp only at hSw)
   obtain⟨s0,s1,s2,s3⟩:=hSw;go_simp
  (try simp only[p4])
  refine tk 10 (.bool true) rfl (by kernel_rfl) (fun _ _ _ h=>h) (NB ⟨by kernel_rfl,?_⟩) (by assumption) ?_
  ·intro w hSw;(try dsimp only at hSw)
   obtain⟨s0,s1,s2,s3⟩:=hSw;go_simp
  (try simp only[p4])
  refine tk 11 (.bool true) rfl (by kernel_rfl) (fun _ _ _ h=>h) (NB ⟨by kernel_rfl,?_⟩) (by assumption) ?_
  ·intro w hSw;(try dsimp only at hSw)
   obtain⟨s0,s1,s2,s3⟩:=hSw;go_simp
  (try simp only[p4])
  refine tk 12 (.agg #[.string (bs n),.string (bs d)]) rfl (by kernel_rfl) (fun _ _ _ h=>h) (NB ⟨by kernel_rfl,?_⟩) (by assumption) ?_
  ·intro w hSw;(try dsimp only at hSw)
   obtain⟨s0,s1,s2,s3⟩:=hSw;go_simp
  (try simp only[p4])
  refine Nn (rs:=[13]) (by kernel_rfl) (by simp) ?_;refine M9 rfl (fun K hK=>?_) (Ni);go_simp;refine(ON.out _ (HE.out.ext (HX.out.trans HD.out))).mono ?_;rintro e w5⟨rfl,hx5⟩;replace HD:=HD.qt hx5;clear hx5;refine hK.out _ _ (by obtain⟨u0,u1,_,_⟩:=aB HV.out HD.out;have q1:=(B1.out.ext HD.out).cell 0;have q2:=(B2.out.ext HD.out).cell 0;simp only[Mk,Mm]at q1 q2;exact⟨u0,u1,q1,q2⟩) (fun hHeld=>?_);clear hK K;(try simp only[p4])
  refine Nn (rs:=[14]) (by kernel_rfl) (by simp) ?_;refine M9 rfl (fun K hK=>?_) (Ni);go_simp;refine(CM1.out _ (HE.out.ext (HX.out.trans HD.out))).mono ?_;rintro e w7⟨rfl,hx7⟩;replace HD:=HD.qt hx7;clear hx7;refine hK.out _ _ (by obtain⟨u0,u1,_,_⟩:=aB HV.out HD.out;have q1:=(B1.out.ext HD.out).cell 0;have q2:=(B2.out.ext HD.out).cell 0;simp only[Mk,Mm]at q1 q2;exact⟨u0,u1,q1,q2⟩) (fun hHeld=>?_);clear hK K;(try simp only[p4])
  refine tk 15 (.bool (decide (0<s1))) rfl (by kernel_rfl) (fun _ _ _ h=>h) (NB ⟨by kernel_rfl,?_⟩) (by assumption) ?_
  ·intro w hSw;(try dsimp only at hSw)
   obtain⟨s0,s1,s2,s3⟩:=hSw;go_simp
  (try simp only[p4])
  refine tk 16 (.bool (decide (0<s1))) rfl (by kernel_rfl) (fun _ _ _ h=>h) (NB ⟨by kernel_rfl,?_⟩) (by assumption) ?_
  ·intro w hSw;(try dsimp only at hSw)
   obtain⟨s0,s1,s2,s3⟩:=hSw;go_simp
  (try simp only[p4])
  refine tk 17 (.bool (decide (0<s1))) rfl (by kernel_rfl) (fun _ _ _ h=>h) (NB ⟨by kernel_rfl,?_⟩) (by assumption) ?_
  ·intro w hSw;(try dsimp only at hSw)
   obtain⟨s0,s1,s2,s3⟩:=hSw;go_simp
  (try simp only[p4])
  refine tk 18 (.bool (decide (0<s1))) rfl (by kernel_rfl) (fun _ _ _ h=>h) (NB ⟨by kernel_rfl,?_⟩) (by assumption) ?_
  ·intro w hSw;(try dsimp only at hSw)
   obtain⟨s0,s1,s2,s3⟩:=hSw;go_simp
  (try simp only[p4])
  refine Rs (by kernel_rfl) ?_ _;replace HX:=qh (HX.out.trans HD.out);by_cases y5:0<s1
  ·have g5:decide (0<s1)=true:=Pz y5;have e0:=HR.out.1 y5;subst e0;go_wp2_with fail;go_ret;exact⟨rfl,HX.out⟩
  ·have g5:decide (0<s1)=false:=Nv y5;have e0:=HR.out.2 (by omega);subst e0;go_wp2_with fail;go_ret;exact⟨rfl,HX.out⟩
end
section
open Go.RowKit Go.Shelf
section
variable {P:Program} {ops:Array Oper} {Q:Exit->Act->World->Prop}
structure GrInv (ops:Array Oper) (base:Array Value) (val:Nat->Value) (d c:Nat) (R J:World->Prop) (f:Nat) (listed:Array Bool) (a:Act) (w:World):Prop where
 size:listed.size=ops.size
 cnt:listed.toList.count false<=f
 act:a=cE base (iR d ops.size) val listed
 cl:∀i o e,ops[i]? = some o->listed.getD i false=true->e ∈ o.after.toList->Region.binds .any e=true->listed.getD e.on false=true
 wld:(listed.getD c false=false∧R w)∨(listed.getD c false=true∧J w)
variable {base:Array Value} {val:Nat->Value} {d c f i:Nat} {R J:World->Prop} {w:World} {listed:Array Bool} {a:Act} {o:Oper}
theorem xV{who:Nat->Option Nat}(hw:∀s,s<base.size->who s≠some i)(hi:i<listed.size):cE base who val listed=cE base who val (listed.setIfInBounds i true):=by
 have key:(cE base who val listed).tmps=(cE base who val (listed.setIfInBounds i true)).tmps:=by
  unfold cE;dsimp only;apply RI
  ·simp
  ·intro s h1 h2;have hs:s<base.size:=by simpa using h2
   rw[Py,Py];dsimp only
   cases hq:who s with
   |none=>rfl
   |some j =>
    dsimp only;have hne:j≠i:=fun h=>hw s hs (by rw[hq,h])
    rw[pC hi,Mj hne]
 show({ tmps:=(cE base who val listed).tmps,defers:=[] }:Act)=_;rw[key];rfl
theorem GrInv.need(h:GrInv ops base val d c R J (f+1) listed a w)(hi:i ∈ Region.ready .any ops listed)(ho:ops[i]? = some o)(p:Nat)(hps:p<ops.size)(hd:d+p<base.size)(hp:(o.after.toList.any fun e=>e.on == p && Region.binds .any e)=true):a.tmps.getD (d+p) undef=val (d+p):=by
 rw[h.act];exact sF hd (kI hps) (eX hi ho hp)
theorem GrInv.base'(h:GrInv ops base val d c R J f listed a w)(hs:s<base.size)(hn:s<d∨d+ops.size<=s):a.tmps.getD s undef=base.getD s undef:=by
 rw[h.act];exact qo hs (by unfold iR;rw[Mj (by omega)])
theorem GrInv.more(h:GrInv ops base val d c R J (f+1) listed a w)(hi:i ∈ Region.ready .any ops listed)(ho:ops[i]? = some o)(a':Act)(w':World)(ha:a'=cE base (iR d ops.size) val (listed.setIfInBounds i true))(hw:(i≠c∧((R w->R w')∧(J w->J w')))∨(i=c∧J w')) :
  GrInv ops base val d c R J f (listed.setIfInBounds i true) a' w':=by
 have hlt:=bP hi;have hs:=h.size;have hc:=count_set (dE hi);have hcn:=h.cnt;refine⟨by rw[Pb];exact hs,by omega,ha,?_,?_⟩
 ·intro j oj e hj hl he hb;rcases cF hl with e1|e1
  ·subst e1;rw[ho]at hj
   cases hj;refine il (eX hi ho ?_);rw[Rx];exact⟨e,he,by rw[hb];simp⟩
  ·exact il (h.cl j oj e hj e1 he hb)
 ·rcases hw with ⟨hne,h3,h4⟩ | ⟨rfl,hj⟩
  ·rcases h.wld with ⟨h1,h2⟩ | ⟨h1,h2⟩
   ·left
    refine⟨?_,h3 h2⟩
    cases hq:(listed.setIfInBounds i true).getD c false
    ·rfl
    ·rcases cF hq with e|e
     ·exact absurd e.symm hne
     ·rw[h1]at e;cases e
   ·exact .inr ⟨il h1,h4 h2⟩
  ·right
   refine⟨?_,hj⟩;rw[Mw,OQ (by omega)];rfl
theorem GrInv.step(h:GrInv ops base val d c R J (f+1) listed a w)(hi:i ∈ Region.ready .any ops listed)(ho:ops[i]? = some o)(hdst:o.dst=some (d+i))(w':World)(hw:(i≠c∧((R w->R w')∧(J w->J w')))∨(i=c∧J w')) :
  GrInv ops base val d c R J f (listed.setIfInBounds i true) (a.put o.dst (val (d+i))) w':=by
 refine h.more hi ho _ w' ?_ hw;have hlt:=bP hi;have hs:=h.size;rw[hdst,h.act];exact nw (kI hlt) (fun s hs=>kY hs) (by omega)
theorem GrInv.stepN(h:GrInv ops base val d c R J (f+1) listed a w)(hi:i ∈ Region.ready .any ops listed)(ho:ops[i]? = some o)(hdst:o.dst=none)(hd:base.size<=d+i)(w':World)(v:Value)(hw:(i≠c∧((R w->R w')∧(J w->J w')))∨(i=c∧J w')) :
  GrInv ops base val d c R J f (listed.setIfInBounds i true) (a.put o.dst v) w':=by
 refine h.more hi ho _ w' ?_ hw;have hlt:=bP hi;have hs:=h.size;rw[hdst,h.act];exact xV (fun s hs hq=>by have:=kY hq;omega) (by omega)
theorem GrInv.before(h:GrInv ops base val d c R J f listed a w)(hi:i ∈ Region.ready .any ops listed)(hic:i<c)(_hsz:c<ops.size)
  (hdep:∀L:Nat->Prop,(∀i o e,ops[i]? = some o->L i->e ∈ o.after.toList->Region.binds .any e=true->L e.on)->L c->∀i,i<c->L i):R w:=by
 rcases h.wld with ⟨_,h2⟩ | ⟨h1,_⟩
 ·exact h2
 ·have:=hdep (fun i=>listed.getD i false=true) (fun i o e ho hl he hb=>h.cl i o e ho hl he hb) h1 i hic;have hn:=dE hi;rw[Mw]at this hn
  have hlt:=bP hi;have hs:=h.size;rw[NO (by omega)]at this hn
  exact absurd (hn.symm.trans this) (by decide)
theorem GrInv.at_last(h:GrInv ops base val d c R J f listed a w)(hi:c ∈ Region.ready .any ops listed):R w:=by
 rcases h.wld with ⟨_,h2⟩ | ⟨h1,_⟩
 ·exact h2
 ·have hn:=dE hi;have hlt:=bP hi;have hs:=h.size;rw[Mw]at h1 hn;rw[NO (by omega)]at h1 hn;exact absurd (hn.symm.trans h1) (by decide)
theorem GrInv.start(J:World->Prop)(hR:R w):GrInv ops base val d c R J ops.size (Array.replicate ops.size false) { tmps:=base,defers:=[] } w:=by
 have hf:∀i,(Array.replicate ops.size false).getD i false=false:=fun i=>by
  rw[Mw,Qi];split <;> rfl
 refine⟨by simp,by rw[Rt,Q0];exact Mn _,mG.symm,?_,.inl ⟨hf c,hR⟩⟩;intro i o e _ hl;rw[hf i]at hl;cases hl
theorem GrInv.fin(h:GrInv ops base val d c R J f listed a w)(hc:c<ops.size)(hr:Region.ready .any ops listed=[])
  (hacc:((List.range ops.size).all fun i=>match ops[i]? with|some o=>o.after.toList.all (fun e=>decide (e.on<i))|none=>true)=true) :
  a=(List.range ops.size).foldl (fun a j=>a.put (some (d+j)) (val (d+j))) { tmps:=base,defers:=[] }∧J w:=by
 have hall:=ny hacc hr h.size;refine⟨?_,?_⟩
 ·rw[h.act,ue h.size hall,sH]
 ·rcases h.wld with ⟨h1,_⟩ | ⟨_,h2⟩
  ·rw[hall c hc]at h1;cases h1
  ·exact h2
theorem ar(ho:ops[i]? = some o)(hg:o.guard=none)(v:Value)(hrun:(execOp a.eval o).run P w = .ok (.value v) w')(hK:K (a.put o.dst v) w'):wpOp P ops Q i K a w:=by
 unfold wpOp;rw[ho];dsimp only;rw[Mq (by simp[Region.wanted,hg])];refine .inl ?_;unfold Oper.wp;rw[hrun];exact hK
theorem xW(ho:ops[i]? = some o)(hg:o.guard=none)(hrun:(execOp a.eval o).run P w = .ok .skip w')(hK:K (a.put o.dst undef) w'):wpOp P ops Q i K a w:=by
 unfold wpOp;rw[ho];dsimp only;rw[Mq (by simp[Region.wanted,hg])];refine .inl ?_;unfold Oper.wp;rw[hrun];exact hK
theorem dx{args:Array Value}{post:Ending->World->Prop}(ho:ops[i]? = some o)(hg:o.guard=none)(hrun:(execOp a.eval o).run P w = .ok (.enter fn args) w)(hC:Calls P fn args w post)(hK:∀e w',post e w'->∃v,e = .returned v∧K (a.put o.dst v) w'):wpOp P ops Q i K a w:=by
 unfold wpOp;rw[ho];dsimp only;rw[Mq (by simp[Region.wanted,hg])];refine .inl ?_;unfold Oper.wp;rw[hrun];refine hC.mono ?_;intro e w' hp;obtain⟨v,rfl,hk⟩:=hK e w' hp;exact hk
end
end
section
open Go.RowKit Go.Shelf
attribute [local go_sem] size_bs toList_bs
theorem aL{w:World}{cs:Array Value}(h:Blk w g 30 cs):w.rangeAt g 0 cs.toList:=fun j v hv=>by rw[MV,h.cell j,←Array.getElem?_toList];exact hv
end
end Go.Proofs.YtaegjkllenlfpaaGreatDoor
