/- The seat's texts, part P15. -/
import Derived.Test.YthgpheopnhajaaaGreatDoorP0
import Derived.Test.YthgpheopnhajaaaGreatDoorP4
import Derived.Test.YthgpheopnhajaaaGreatDoorP5
import Derived.Test.YthgpheopnhajaaaGreatDoorP7
import Derived.Test.YthgpheopnhajaaaGreatDoorP8
import Derived.Test.YthgpheopnhajaaaGreatDoorP10
import Derived.Test.YthgpheopnhajaaaGreatDoorP11
import Derived.Test.YthgpheopnhajaaaGreatDoorP12
import Derived.Test.YthgpheopnhajaaaGreatDoorP13
import Derived.Test.YthgpheopnhajaaaGreatDoorP14
import Derived.BigQuiet
import Derived.OrdersIn
import Derived.Deep.RegionHeld3
set_option maxRecDepth 100000
set_option maxHeartbeats 8000000
namespace Go.Proofs.YthgpheopnhajaaaGreatDoor
section
open Go.RowKit
attribute [local go_sem] size_bs toList_bs
def kb(n:Nat):Bool:=(decide (12<(n:Int)) && decide ((n:Int)<999)) || decide (1002<(n:Int))
def bZ(ls:List LotV):Bool:=kb ls.length || ls.any ft
theorem zA(ls:List LotV)(A:Option Addr)(c:Nat)(w:World)(hA:bp w A ls)(_hn:ls.length≤4611686018427387904) :
  Calls Tryz.prog 49 #[.slice A ls.length c] w fun e w'=>e = .returned (.bool (bZ ls))∧Ext w w':=by
 have HA:=qh hA;clear hA;by_cases h:kb ls.length=true
 ·have HG:Hid (bZ ls=true):=qh (by unfold bZ;rw[h];rfl);unfold kb at h;go_enter Tryz.func49,Tryz.ntmps49
  cases a1:decide (12<(ls.length:Int)) <;> cases a2:decide ((ls.length:Int)<999) <;> cases a3:decide (1002<(ls.length:Int)) <;> simp only[a1,a2,a3]at h
  all_goals first
   |(exact absurd h (by decide))
   |(clear h
     go_wp2_with fail;go_ret;exact⟨by rw[HG.out];rfl,Ext.refl _⟩)
 ·have HG:Hid (bZ ls=ls.any ft):=qh (by unfold bZ;rw[Bool.not_eq_true]at h;rw[h];rfl);rw[Bool.not_eq_true]at h
  have hn:ls.length≤1002:=by
   have h2:=h;simp only[kb,Bool.or_eq_false_iff,decide_eq_false_iff_not]at h2;omega
  unfold kb at h;go_enter Tryz.func49,Tryz.ntmps49
  cases a1:decide (12<(ls.length:Int)) <;> cases a2:decide ((ls.length:Int)<999) <;> cases a3:decide (1002<(ls.length:Int)) <;> simp only[a1,a2,a3]at h
  all_goals first
   |(exact absurd h (by decide))
   |skip
  all_goals
   clear h;go_wp2_with fail;go_loopw [3] (fun i wr=>∃k:Nat,k≤ls.length∧i = .int .i64 k∧(∀x ∈ ls.take k,ft x=false)∧Ext w wr) (fun i _=>ls.length-(intOf i).toNat)
   case atStart=>exact⟨0,by omega,rfl,by simp,Ext.refl _⟩
   case round =>
    clear a1 a2 a3;obtain⟨k,hk,rfl,hz,hx⟩:=hrel;have HZ:=qh hz;have HX:=qh hx;clear hz hx;by_cases hlt:k<ls.length
    ·obtain⟨b,o,rfl,hb,c0,c1,c2,c3,c4,c5,c6⟩:=(HA.out.ext HX.out).at_ hlt;have HC:=qh (fun W=>um (ls[k]'hlt) W)
     cases hg:ft (ls[k]'hlt)
     ·rw[hg]at HC
      have HT:Hid (∀x ∈ ls.take (k+1),ft x=false):=qh (by
       intro x hx;rw[List.take_succ_eq_append_getElem hlt]at hx;rcases List.mem_append.1 hx with h|h
       ·exact HZ.out x h
       ·rw[List.mem_singleton.1 h];exact hg)
      clear hg;generalize (ls[k]'hlt)=x at *;go_wp2_with fail;refine(HC.out _).mono ?_;rintro e w1⟨rfl,hx1⟩;replace HX:=HX.qt hx1;clear hx1;go_wp2_with fail;go_roundw
      case rel=>exact⟨k+1,by omega,by go_num,HT.out,HX.out⟩
      case measure=>simp[intOf];omega
     ·rw[hg]at HC;have HT:Hid (ls.any ft=true):=qh (List.any_eq_true.2 ⟨_,List.getElem_mem hlt,hg⟩);clear hg;generalize (ls[k]'hlt)=x at *;go_wp2_with fail;refine(HC.out _).mono ?_;rintro e w1⟨rfl,hx1⟩;replace HX:=HX.qt hx1;clear hx1;go_wp2_with fail;go_ret;exact⟨by rw[HG.out,HT.out];rfl,HX.out⟩
    ·have HT:Hid (ls.any ft=false):=qh (by
      have h:=HZ.out;rw[List.take_of_length_le (by omega)]at h;rw[List.any_eq_false];intro x hx;rw[h x hx];simp)
     go_wp2_with fail;go_ret;exact⟨by rw[HG.out,HT.out];rfl,HX.out⟩
end
section
open Go.RowKit
attribute [local go_sem] size_bs toList_bs
theorem lO(ls:List LotV)(id:Bs):(cr ls id).isSome=true↔id ∈ ls.map (·.id):=by
 induction ls with
 |nil=>simp[cr]
 |cons x r ih =>
  unfold cr;by_cases h:x.id=id
  ·simp[h]
  ·rw[if_neg h];simp only[Option.isSome_map,List.map_cons,List.mem_cons];rw[ih];constructor
   ·exact fun k => .inr k
   ·rintro(k|k)
    ·exact absurd k.symm h
    ·exact k
end
section
open Go.RowKit
attribute [local go_sem] size_bs toList_bs
def fJ(w:World)(base:Nat)(v:Value)(ls:List Bs):Prop:=w.ownsRow base 24 1 v ls.length (scells ls)
theorem fJ.ext{w w':World}{base:Nat}{v:Value}{ls:List Bs}(h:fJ w base v ls)(hx:Ext w w'):fJ w' base v ls:=aP h hx
theorem fJ.rd{w:World}{base:Nat}{A:Option Addr}{n c:Nat}{ls:List Bs}(h:fJ w base (.slice A n c) ls):n=ls.length→RdS w A ls:=by
 rintro rfl;exact Reads.own h
theorem qT(a b:List Bs):scells a++scells b=scells (a++b):=by simp[scells]
def fK(wt:LotV→Bs)(t:Bs)(ls:List LotV):List Bs:=(dh (valI t) ((ls.map wt).map valI)).map ofI
def fK.Ends(wt:LotV→Bs)(t:Bs)(ls:List LotV)(w:World)(e:Ending)(w':World):Prop:=∃P,e = .returned (.slice (some ⟨P,0,none⟩) ls.length ls.length)∧RowS w' P ls.length (fK wt t ls)∧(fK wt t ls).length=ls.length∧w.heap.size≤P∧Ext w w'
theorem zB(kf:Nat)(wt:LotV→Bs)(ek:∀args w,(callFunc kf args).run Tryz.prog w = .ok (.enter kf args) w)(t:Bs)(ls:List LotV)(A:Option Addr)(c:Nat)(w:World)(hE:Env w)(hA:bp w A ls)
  (hF:∀x ∈ ls,∀W,Ext w W→Calls Tryz.prog kf #[lv x] W fun e w'=>e = .returned (.string (bs (wt x)))∧Ext W w')
  (h0:t≠[]) (ht:t.length≤3000) (htc:aq t=0) (hW:WtOK (ls.map wt)) (hn:ls.length≤100000) :
  Calls Tryz.prog 109 #[.string (bs t),.slice A ls.length c,.func (.func kf) #[] #[]] w (fK.Ends wt t ls w):=by
 have HA:=qh hA;have HF:=qh hF;have HE:=qh hE;have HS:=qh (fun B c' W hx hB=>zv t (ls.map wt) B c' W (hE.ext hx) hB ht htc hW);simp only[List.length_map]at HS;have qe:t.isEmpty=false:=by cases t;exact absurd rfl h0;rfl
 obtain⟨i0,hI,hz0,hz1,hz2⟩:=info_parts strInfo;have HI:=qh hI;have hll:(ls.map wt).length=ls.length:=List.length_map _;have HLL:=qh hll;clear hE hA hF hI hll hW htc;go_enter Tryz.func109,Tryz.ntmps109;go_wp2_with fail;go_loopw [14,7,9] (fun i v _ wr=>∃k:Nat,k≤ls.length∧i = .int .i64 k∧fJ wr w.heap.size v ((ls.take k).map wt)∧Ext w wr) (fun i _ _ _=>ls.length-(intOf i).toNat)
 case atStart=>exact⟨0,by omega,rfl,World.ownsRow_nil _ _ _ _,Ext.refl _⟩
 case round =>
  obtain⟨k,hk,rfl,hown,hx⟩:=hrel;have HO:=qh hown;have HX:=qh hx;clear hx;by_cases hlt:k<ls.length
  ·obtain⟨b,o,rfl,hb,c0,c1,c2,c3,c4,c5,c6⟩:=(HA.out.ext HX.out).at_ hlt;have HC:=qh (HF.out (ls[k]'hlt) (List.getElem_mem _));have hki:(k:Int)<(ls.length:Int):=by omega
   have hk0:(0:Int)≤(k:Int):=by omega
   have hqq:(ls.take (k+1)).map wt=(ls.take k).map wt++[wt (ls[k]'hlt)]:=by rw[List.take_succ_eq_append_getElem hlt,List.map_append];rfl
   have HQQ:=qh hqq;have hql:((ls.take k).map wt).length≤100000:=by rw[List.length_map,List.length_take];omega
   unfold fJ at hown;obtain⟨A',c',rfl⟩:=aC hown;clear hqq hown;generalize hq1:(ls.take (k+1)).map wt=q1 at *;generalize hq0:(ls.take k).map wt=q0 at *;generalize (ls[k]'hlt)=x at *;have HE2:=qh hq1;clear hq1 hq0 HF;have HXN:Hid (Ext wr (wr.alloc (.cells (lc x) 71))):=qh (Ext.new _ _);go_wp2_with fail;refine(HC.out _ (HX.out.trans HXN.out)).mono ?_;rintro e w1⟨rfl,hx1⟩;have HX1:=qh ((HX.out.trans HXN.out).trans hx1);have HO1:=qh ((HO.out.ext (HXN.out.trans hx1)).ext (Ext.new w1 (.cells #[.string (bs (wt x))] 24)));have HX2:=qh (HX1.out.alloc (.cells #[.string (bs (wt x))] 24));have hsz:=HX2.out.size;clear hx1 HC HXN HX HO HX1;unfold fJ at HO1;go_wp2_with (at_builtin;refine wpList_append_lies _ rfl (.tmp 18) (.tmp 22) 106 rfl w.heap.size 24 i0 _ 1 16 Tryz.underlying106 HI.out hz0 hz1 hz2 rfl (by decide) (.slice A' q0.length c') q0.length (scells q0) rfl HO1.out ⟨w1.heap.size,0,none⟩ 1 1 [.string (bs (wt x))] (by simp[Act.eval]) rfl (World.news_of_block (heap_alloc_new w1 _)) (by simp[Value.oneCell']) (by decide) (by simp only[maxLen];omega) (by omega) hsz _ rfl ?_;intro g' cap w' hown' hgrow hat hlt';(have HX3:=qh (Ext.grown HX2.out hgrow (cW HO1.out))))
   have HO3:Hid (fJ w' w.heap.size (.slice (some ⟨g',0,none⟩) q1.length cap) q1):=qh (by
    rw[HQQ.out];unfold fJ;rw[List.length_append,←qT];exact hown')
   rw[show q0.length+1=q1.length by rw[HQQ.out,List.length_append];rfl];go_roundw
   case rel=>exact⟨k+1,by omega,by go_num,by rw[HE2.out];exact HO3.out,HX3.out⟩
   case measure=>simp[intOf];omega
  ·have hkk:k=ls.length:=by omega
   subst hkk;rw[List.take_length]at *;unfold fJ at hown;obtain⟨A',c',rfl⟩:=aC hown;have HR:=qh (fJ.rd hown rfl);clear hown HO;go_wp2_with fail;refine(HS.out A' c' _ HX.out HR.out).mono ?_;have HX0:=qh HX.out.size;rintro e w1⟨P,rfl,hP,hrow,hx1⟩;have HP:=qh hP;clear hP;replace HX:=HX.qt hx1;have HRow:=qh hrow;clear hx1 hrow HS;go_wp2_with fail;go_ret;have hln:(fK wt t ls).length=ls.length:=by unfold fK;rw[List.length_map,oY,List.length_map,List.length_map]
   exact⟨P,rfl,HRow.out,hln,Nat.le_trans HX0.out HP.out,HX.out⟩
end
section
open Go.RowKit
section
variable {F:Fence} {n:Nat} {P:Program} {ops:Array Oper} {Q:Exit→Act→World→Prop} {md:Region.Mode}
theorem nN{Inv:Nat→Array Bool→Act→World→Prop}(hend:∀f listed a w,Inv f listed a w→Region.ready md ops listed=[]→Q .normal a w)
  (hz:∀listed a w,Inv 0 listed a w→Region.ready md ops listed=[])
  (hstep:∀f listed a w i,Inv (f+1) listed a w→i ∈ Region.ready md ops listed→wpOpIn F n P ops Q i (Inv f (listed.setIfInBounds i true)) a w) :
  ∀f listed a w,Inv f listed a w→wpAnyIn F n P md ops Q f listed a w
 |0,listed,a,w,h=>⟨hz listed a w h,hend 0 listed a w h (hz listed a w h)⟩
 |f+1,listed,a,w,h=>⟨hend (f+1) listed a w h,fun i hi=>wpOpIn_mono (fun a' w' h'=>nN hend hz hstep f _ a' w' h') (hstep f listed a w i h hi)⟩
def bS(base:Array Value)(who:Nat→Option Nat)(val:Nat→Value)(listed:Array Bool):Act :=
 { tmps:=Array.ofFn (n:=base.size) fun s=>match who s with|some i=>if listed.getD i false=true then val s else base.getD s undef|none=>base.getD s undef,defers:=[] }
variable {base:Array Value} {who:Nat→Option Nat} {val:Nat→Value} {listed:Array Bool}
theorem qU{s:Nat}(hs:s<base.size):(bS base who val listed).tmps.getD s undef=match who s with|some i=>if listed.getD i false=true then val s else base.getD s undef|none=>base.getD s undef:=by
 unfold bS;rw[Array.getD_eq_getD_getElem?,Array.getElem?_ofFn,dif_pos hs];rfl
theorem mj{s:Nat}(hs:s<base.size)(hw:who s=none):(bS base who val listed).tmps.getD s undef=base.getD s undef:=by
 rw[qU hs,hw]
theorem mO{s i:Nat}(hs:s<base.size)(hw:who s=some i)(hl:listed.getD i false=true):(bS base who val listed).tmps.getD s undef=val s:=by
 rw[qU hs,hw];dsimp only;rw[if_pos hl]
theorem oI{i j:Nat}(hi:i<listed.size):(listed.setIfInBounds i true).getD j false=if j=i then true else listed.getD j false:=by
 rw[Array.getD_eq_getD_getElem?,Array.getD_eq_getD_getElem?,Array.getElem?_setIfInBounds];by_cases e:i=j
 ·subst e;rw[if_pos rfl,if_pos hi,if_pos rfl];rfl
 ·rw[if_neg e,if_neg (fun h=>e h.symm)]
theorem kR{d i:Nat}(hw:who d=some i)(hinj:∀s,who s=some i→s=d)(hi:i<listed.size) :
  (bS base who val listed).put (some d) (val d)=bS base who val (listed.setIfInBounds i true):=by
 have key:(bS base who val listed).tmps.setIfInBounds d (val d)=(bS base who val (listed.setIfInBounds i true)).tmps:=by
  unfold bS;dsimp only;apply Array.ext
  ·simp
  ·intro s h1 h2;have hs:s<base.size:=by simpa using h2
   rw[Array.getElem_setIfInBounds (by simpa using hs)];rw[Array.getElem_ofFn,Array.getElem_ofFn];by_cases e:d=s
   ·subst e;rw[if_pos rfl];dsimp only;rw[hw];dsimp only;rw[oI hi,if_pos rfl,if_pos rfl]
   ·rw[if_neg e];dsimp only
    cases hq:who s with
    |none=>rfl
    |some j =>
     dsimp only;have hne:j≠i:=fun h=>e (by rw[h]at hq;exact(hinj s hq).symm)
     rw[oI hi,if_neg hne]
 show({ tmps:=(bS base who val listed).tmps.setIfInBounds d (val d),defers:=[] }:Act)=_;rw[key];rfl
theorem oJ(hs:listed.size=ops.size)(h:∀i,i<ops.size→listed.getD i false=true):listed=Array.replicate ops.size true:=by
 apply Array.ext
 ·rw[hs,Array.size_replicate]
 ·intro i h1 h2;have:=h i (by omega);rw[Array.getD_eq_getD_getElem?,Array.getElem?_eq_getElem h1]at this
  rw[Array.getElem_replicate];exact this
theorem bJ(hfn:∀k,F.fn k)(hro:F.round=none){i:Nat}{o:Oper}{K:Act→World→Prop}{a:Act}{w w':World}(ho:ops[i]? = some o)(hg:o.guard=none)(v:Value)(hrun:(execOp a.eval o).run P w = .ok (.value v) w')(hK:K (a.put o.dst v) w'):wpOpIn F n P ops Q i K a w:=by
 unfold wpOpIn;rw[ho];dsimp only;rw[if_pos (by simp[Region.wanted,hg])];refine⟨fun f _=>hfn f,?_⟩;rw[hro];show Oper.uponIn F n P o a K Q ((execOp a.eval o).run P w);rw[hrun];exact hK
end
end
section
open Go.RowKit
attribute [local go_sem] size_bs toList_bs
abbrev E6(f:FuncId)(args:Array Value)(v:Value):Prop:=∀W,Calls Tryz.prog f args W fun e w'=>e = .returned v∧Ext W w'
end
section
open Go.RowKit
attribute [local go_sem] size_bs toList_bs
theorem nr{f:FuncId}{args:Array Value}{v:Value}{W:World}(h:Calls Tryz.prog f args W fun e w'=>e = .returned v∧W=w'):Calls Tryz.prog f args W fun e w'=>e = .returned v∧Ext W w' :=
 h.mono fun _ _ ⟨h1,h2⟩=>⟨h1,h2 ▸ Ext.refl _⟩
end
section
open Go.RowKit
attribute [local go_sem] size_bs toList_bs
def bB(q:Rat):Int:=q.num / (q.den:Int)
theorem qV{n d:Int}(hd:0<d):n / d=bB (Rat.divInt n d):=by
 have hd':d≠0:=by omega
 unfold bB;rw[←nZ hd',←oh hd'];have h1:=vy (n:=n) hd';have h2:=vA (n:=n) hd';have hg:(0:Int)<((Int.gcd n d:Nat):Int):=by have:=pP (n:=n) hd';omega
 rw[if_neg (by omega)]at h1;rw[Int.natAbs_of_nonneg (by omega)]at h2;generalize iy n d=a at *;generalize fR n d=b at *;generalize ((Int.gcd n d:Nat):Int)=g at *;conv=>lhs;rw[←h1,←h2]
 exact Int.mul_ediv_mul_of_pos_left _ _ hg
end
section
open Go.RowKit
attribute [local go_sem] size_bs toList_bs
def aK(f:Fr):Int:=if(bz (aj f)).num=f.num∧(bz (aj f)).den=f.den then 0 else 1
theorem vS{a b:Fr}:a=b↔a.num=b.num∧a.den=b.den:=by cases a;cases b;simp
theorem xA(f:Fr):Rat.divInt (valI f.num) (valI (dn f))=aj f:=by
 rw[dA];rfl
theorem vT(f:Fr):valI (dn f)≠0:=by
 unfold dn;split
 ·rw[i6];decide
 ·assumption
theorem aQ{a b:Bs}(h:a≠b):(a == b)=false:=by rw[beq_eq_false_iff_ne];exact h
theorem jV(f:Fr)(h1:f.num.length≤80000)(h2:f.den.length≤80000):bc 48 #[fv f] (.int .i64 (aK f)):=by
 intro w hE;have HE:=qh hE;have HP:=qh (ic f (by omega));have hm:=oD f.num (dn f) (by omega) (Nat.le_trans (iC f (L:=80000) (by omega) (by omega)) (by omega)) (vT f);rw[xA]at hm;have HM:=qh hm;have HC1:Hid (bz (aj f)=f→aK f=0):=qh (fun h=>by unfold aK;rw[if_pos (vS.1 h)]);have HC2:Hid (bz (aj f)≠f→aK f=1):=qh (fun h=>by unfold aK;rw[if_neg (fun k=>h (vS.2 k))]);generalize aK f=k at *;generalize bz (aj f)=r at *;generalize dn f=d at *;obtain⟨n1,e1⟩:=f;obtain⟨n2,e2⟩:=r;clear hm hE h1 h2;have HB:=qh (Blk.new w 26 #[.string (bs n1),.string (bs e1)]);have HX:Hid (Ext w (w.alloc (.cells #[.string (bs n1),.string (bs e1)] 26))):=qh (Ext.new _ _);have HD:Hid (Ext w (w.alloc (.cells #[.string (bs n1),.string (bs e1)] 26)).drew):=qh HX.out.drew;have HBD:=qh HB.out.drew;by_cases a1:n1=n2;rotate_left
 ·have q:=aQ a1;have HK:=qh (HC2.out (fun h=>a1 (by injection h with h1 h2;exact h1.symm)));rw[HK.out];clear HC1 HC2 HK a1;go_enter Tryz.func48,Tryz.ntmps48;go_upto_region 1 with fail;go_cut [9] (fun p9 wx=>p9 = .bool true∧Ext w wx)
  case first =>
   obtain⟨r0,r1,_,_⟩:=ah HB.out (Ext.refl _)
   go_region_held3 (fun w'=>w'.cell? ⟨w.heap.size,0,none⟩=some (.string (bs n1))∧w'.cell? ⟨w.heap.size,1,none⟩=some (.string (bs e1)))
    (go_keep)
    (first
     |(go_at_call 96;((with_reducible refine(HP.out _ (HE.out.ext HD.out)).mono ?_);rintro e w4⟨rfl,hx⟩);(replace HD:=HD.qt hx);(replace HBD:=qh (HBD.out.ext hx));(obtain⟨y0,y1,_,_⟩:=ah HBD.out (Ext.refl _));clear hx HP)
     |(go_at_call 93;((with_reducible refine(HM.out _ (HE.out.ext HD.out)).mono ?_);rintro e w5⟨rfl,hx⟩);(replace HD:=HD.qt hx);(replace HBD:=qh (HBD.out.ext hx));(obtain⟨z0,z1,_,_⟩:=ah HBD.out (Ext.refl _));clear hx HM))
   all_goals (go_wp2_with fail;go_meet;exact⟨rfl,HD.out⟩)
  case rest =>
   obtain⟨rfl,hx⟩:=hcut;have HXE:=qh hx;clear hx;go_wp2_with fail;go_ret;exact⟨rfl,HXE.out⟩
 subst a1;by_cases a2:e1=e2;rotate_left
 ·have q:=aQ a2;have HK:=qh (HC2.out (fun h=>a2 (by injection h with h1 h2;exact h2.symm)));rw[HK.out];clear HC1 HC2 HK a2;go_enter Tryz.func48,Tryz.ntmps48;go_upto_region 1 with fail;go_cut [9] (fun p9 wx=>p9 = .bool true∧Ext w wx)
  case first =>
   obtain⟨r0,r1,_,_⟩:=ah HB.out (Ext.refl _)
   go_region_held3 (fun w'=>w'.cell? ⟨w.heap.size,0,none⟩=some (.string (bs n1))∧w'.cell? ⟨w.heap.size,1,none⟩=some (.string (bs e1)))
    (go_keep)
    (first
     |(go_at_call 96;((with_reducible refine(HP.out _ (HE.out.ext HD.out)).mono ?_);rintro e w4⟨rfl,hx⟩);(replace HD:=HD.qt hx);(replace HBD:=qh (HBD.out.ext hx));(obtain⟨y0,y1,_,_⟩:=ah HBD.out (Ext.refl _));clear hx HP)
     |(go_at_call 93;((with_reducible refine(HM.out _ (HE.out.ext HD.out)).mono ?_);rintro e w5⟨rfl,hx⟩);(replace HD:=HD.qt hx);(replace HBD:=qh (HBD.out.ext hx));(obtain⟨z0,z1,_,_⟩:=ah HBD.out (Ext.refl _));clear hx HM))
   all_goals (go_wp2_with fail;go_meet;exact⟨rfl,HD.out⟩)
  case rest =>
   obtain⟨rfl,hx⟩:=hcut;have HXE:=qh hx;clear hx;go_wp2_with fail;go_ret;exact⟨rfl,HXE.out⟩
 subst a2;have HK:=qh (HC1.out rfl);rw[HK.out];clear HC1 HC2 HK;go_enter Tryz.func48,Tryz.ntmps48;go_upto_region 1 with fail;go_cut [9] (fun p9 wx=>p9 = .bool false∧Ext w wx)
 case first =>
  obtain⟨r0,r1,_,_⟩:=ah HB.out (Ext.refl _)
  go_region_held3 (fun w'=>w'.cell? ⟨w.heap.size,0,none⟩=some (.string (bs n1))∧w'.cell? ⟨w.heap.size,1,none⟩=some (.string (bs e1)))
   (go_keep)
   (first
    |(go_at_call 96;((with_reducible refine(HP.out _ (HE.out.ext HD.out)).mono ?_);rintro e w4⟨rfl,hx⟩);(replace HD:=HD.qt hx);(replace HBD:=qh (HBD.out.ext hx));(obtain⟨y0,y1,_,_⟩:=ah HBD.out (Ext.refl _));clear hx HP)
    |(go_at_call 93;((with_reducible refine(HM.out _ (HE.out.ext HD.out)).mono ?_);rintro e w5⟨rfl,hx⟩);(replace HD:=HD.qt hx);(replace HBD:=qh (HBD.out.ext hx));(obtain⟨z0,z1,_,_⟩:=ah HBD.out (Ext.refl _));clear hx HM))
  all_goals (go_wp2_with fail;go_meet;exact⟨rfl,HD.out⟩)
 case rest =>
  obtain⟨rfl,hx⟩:=hcut;have HXE:=qh hx;clear hx;go_wp2_with fail;go_ret;exact⟨rfl,HXE.out⟩
theorem vU{n d:Int}(hd:d≠0):eS n d=bB (Rat.divInt n d):=by
 unfold eS;split
 ·rw[qV (by omega),Rat.neg_divInt_neg]
 ·rw[qV (by omega)]
theorem vV(f:Fr)(h1:f.num.length≤80000)(h2:f.den.length≤80000):bc 234 #[fv f] (.string (bs (ofI (bB (aj f))))):=by
 intro w hE;have HE:=qh hE;have HP:=qh (ic f (by omega));have hm:=mK f.num (dn f) (by omega) (Nat.le_trans (iC f (L:=80000) (by omega) (by omega)) (by omega)) (vT f);rw[vU (vT f),xA]at hm;have HM:=qh hm;generalize ofI (bB (aj f))=r at *;generalize ofI (gD (valI f.num) (valI (dn f)))=r2 at *;generalize dn f=d at *;obtain⟨n1,e1⟩:=f;clear hm hE h1 h2;have HB:=qh (Blk.new w 26 #[.string (bs n1),.string (bs e1)]);have HX:Hid (Ext w (w.alloc (.cells #[.string (bs n1),.string (bs e1)] 26))):=qh (Ext.new _ _);go_enter Tryz.func234,Tryz.ntmps234;obtain⟨r0,r1,_,_⟩:=ah HB.out (Ext.refl _);go_wp2_with fail;refine(HP.out _ (HE.out.ext HX.out)).mono ?_;rintro e v5⟨rfl,hx1⟩;replace HB:=qh (HB.out.ext hx1);replace HX:=HX.qt hx1;clear hx1;go_wp2_with fail;refine(HM.out _ (HE.out.ext HX.out)).mono ?_;rintro e v6⟨rfl,hx1⟩;replace HX:=HX.qt hx1;clear hx1;go_wp2_with fail;go_ret;exact⟨rfl,HX.out⟩
end
section
open Go.RowKit
attribute [local go_sem] size_bs toList_bs
def eB(cost cash value:Int):Int:=if cash<(if value+cash-cost<0 then 0 else value+cash-cost) then cash else(if value+cash-cost<0 then 0 else value+cash-cost)
def jI(cost cash value:Bs):Bs × Bs × Int :=
 if [cost,cash,value].any (fun a=>aq a != 0)=true then([],[],1) else if [cost,cash,value].any (fun a=>decide (valI a<0))=true then([],[],2)
 else(ofI (eB (valI cost) (valI cash) (valI value)),ofI (valI cost+eB (valI cost) (valI cash) (valI value)-valI cash),0)
theorem E7{W:World}{g:Nat}{l:List Bs}(h:Blk W g 24 (scells l).toArray):RdS W (some ⟨g,0,none⟩) l :=
 ⟨by simp[scells],fun _=>⟨g,0,rfl,h.lt,fun j u hu=>by rw[Nat.zero_add,h.cell j,List.getElem?_toArray];exact hu⟩⟩
section
variable {L:Nat} {cost cash value:Bs}
theorem zC(h1:cost.length≤L)(h2:cash.length≤L)(h3:value.length≤L):(ofI (valI value+valI cash)).length≤L+2∧(ofI (valI value+valI cash-valI cost)).length≤L+5:=by
 have e1:=j8 h3 h2;have e2:=nd (x:=ofI (valI value+valI cash)) (y:=cost) (L:=L+2) e1 (by omega);rw[ag]at e2;exact⟨e1,by omega⟩
end
theorem Bl(cost cash value:Bs)(h1:cost.length≤1000)(h2:cash.length≤1000)(h3:value.length≤1000)(hc:aq cash=0)(hn:0≤valI cash) :
  bc 54 #[.string (bs cost),.string (bs cash),.string (bs value)] (.tuple #[.string (bs (ofI (eB (valI cost) (valI cash) (valI value)))),.string (bs (ofI (valI cost+eB (valI cost) (valI cash) (valI value)-valI cash)))]):=by
 intro w hE;have HE:=qh hE;obtain⟨l1,l2⟩:=zC (L:=1000) h1 h2 h3;have hcc:=eE.1 hc;have z1:=fS value cash (by omega) (by omega);have z2:=gX (ofI (valI value+valI cash)) cost (by omega) (by omega);have z3:=gk (ofI (valI value+valI cash-valI cost)) (by omega);rw[ag]at z2 z3;have A1:=qh z1;have S1:=qh z2;have C1:=qh z3;have HX:Hid (Ext w w):=qh (Ext.refl w);generalize hgz:valI value+valI cash-valI cost=gz at *;by_cases n1:gz<0
 ·have g1:decide (cmpI gz 0<0)=true:=decide_eq_true (cC.2 n1);have z4:=cmpP cash [] (by omega) (by simp);rw[fT]at z4;have g2:decide (cmpI (valI cash) 0<0)=false:=decide_eq_false (fun h=>by have:=cC.1 h;omega);have z5:=fS cost [] (by omega) (by simp);have k5:=j8 (x:=cost) (y:=[]) (L:=1000) (by omega) (by simp);rw[fT,Int.add_zero]at z5 k5;have z6:=gX (ofI (valI cost)) cash (by omega) (by omega);rw[ag]at z6;have er:eB (valI cost) (valI cash) (valI value)=0:=by unfold eB;rw[hgz,if_pos n1,if_neg (by omega)]
  rw[er,Int.add_zero,show ofI 0=[] from dr.2 rfl];have C2:Hid (bc 20 #[.string (bs cash),.string ⟨#[]⟩] (.int .i64 (cmpI (valI cash) 0))):=qh z4;have A2:Hid (bc 21 #[.string (bs cost),.string ⟨#[]⟩] (.string (bs (ofI (valI cost))))):=qh z5;have S2:=qh z6;clear z1 z2 z3 z4 z5 z6 l1 l2 k5 hcc hE er hgz n1;generalize cmpI gz 0=q1 at *;generalize cmpI (valI cash) 0=q2 at *;go_enter Tryz.func54,Tryz.ntmps54;go_wp2_with fail;refine(A1.out _ (HE.out.ext HX.out)).mono ?_;rintro e v1⟨rfl,hx1⟩;replace HX:=HX.qt hx1;clear hx1;go_wp2_with fail;refine(S1.out _ (HE.out.ext HX.out)).mono ?_;rintro e v2⟨rfl,hx1⟩;replace HX:=HX.qt hx1;clear hx1;go_wp2_with fail;refine(C1.out _ (HE.out.ext HX.out)).mono ?_;rintro e v3⟨rfl,hx1⟩;replace HX:=HX.qt hx1;clear hx1;go_wp2_with fail;refine(C2.out _ (HE.out.ext HX.out)).mono ?_;rintro e v4⟨rfl,hx1⟩;replace HX:=HX.qt hx1;clear hx1;go_wp2_with fail;refine(A2.out _ (HE.out.ext HX.out)).mono ?_;rintro e v5⟨rfl,hx1⟩;replace HX:=HX.qt hx1;clear hx1;go_wp2_with fail;refine(S2.out _ (HE.out.ext HX.out)).mono ?_;rintro e v6⟨rfl,hx1⟩;replace HX:=HX.qt hx1;clear hx1;go_wp2_with fail;go_ret2;exact⟨rfl,HX.out⟩
 ·have g1:decide (cmpI gz 0<0)=false:=decide_eq_false (fun h=>n1 (cC.1 h));have z4:=cmpP cash (ofI gz) (by omega) (by omega);rw[ag]at z4;have C2:=qh z4;by_cases n2:valI cash<gz
  ·have g2:decide (cmpI (valI cash) gz<0)=true:=decide_eq_true (cC.2 n2);have er:eB (valI cost) (valI cash) (valI value)=valI cash:=by unfold eB;rw[hgz,if_neg n1,if_pos n2]
   rw[er,hcc];have z5:=fS cost cash (by omega) (by omega);have k5:=j8 (x:=cost) (y:=cash) (L:=1000) (by omega) (by omega);have z6:=gX (ofI (valI cost+valI cash)) cash (by omega) (by omega);rw[ag]at z6;have A2:=qh z5;have S2:=qh z6;clear z1 z2 z3 z4 z5 z6 l1 l2 k5 hcc hE er hgz n1 n2;generalize ofI (valI cost+valI cash-valI cash)=r2 at *;generalize cmpI gz 0=q1 at *;generalize cmpI (valI cash) gz=q2 at *;go_enter Tryz.func54,Tryz.ntmps54;go_wp2_with fail;refine(A1.out _ (HE.out.ext HX.out)).mono ?_;rintro e v7⟨rfl,hx1⟩;replace HX:=HX.qt hx1;clear hx1;go_wp2_with fail;refine(S1.out _ (HE.out.ext HX.out)).mono ?_;rintro e v8⟨rfl,hx1⟩;replace HX:=HX.qt hx1;clear hx1;go_wp2_with fail;refine(C1.out _ (HE.out.ext HX.out)).mono ?_;rintro e v9⟨rfl,hx1⟩;replace HX:=HX.qt hx1;clear hx1;go_wp2_with fail;refine(C2.out _ (HE.out.ext HX.out)).mono ?_;rintro e v10⟨rfl,hx1⟩;replace HX:=HX.qt hx1;clear hx1;go_wp2_with fail;refine(A2.out _ (HE.out.ext HX.out)).mono ?_;rintro e v11⟨rfl,hx1⟩;replace HX:=HX.qt hx1;clear hx1;go_wp2_with fail;refine(S2.out _ (HE.out.ext HX.out)).mono ?_;rintro e v12⟨rfl,hx1⟩;replace HX:=HX.qt hx1;clear hx1;go_wp2_with fail;go_ret2;exact⟨rfl,HX.out⟩
  ·have g2:decide (cmpI (valI cash) gz<0)=false:=decide_eq_false (fun h=>n2 (cC.1 h));have er:eB (valI cost) (valI cash) (valI value)=gz:=by unfold eB;rw[hgz,if_neg n1,if_neg n2]
   rw[er];have z5:=fS cost (ofI gz) (by omega) (by omega);have k5:=j8 (x:=cost) (y:=ofI gz) (L:=1005) (by omega) (by omega);rw[ag]at z5 k5;have z6:=gX (ofI (valI cost+gz)) cash (by omega) (by omega);rw[ag]at z6;have A2:=qh z5;have S2:=qh z6;clear z1 z2 z3 z4 z5 z6 l1 l2 k5 hcc hE er hgz n1 n2;generalize cmpI gz 0=q1 at *;generalize cmpI (valI cash) gz=q2 at *;go_enter Tryz.func54,Tryz.ntmps54;go_wp2_with fail;refine(A1.out _ (HE.out.ext HX.out)).mono ?_;rintro e v13⟨rfl,hx1⟩;replace HX:=HX.qt hx1;clear hx1;go_wp2_with fail;refine(S1.out _ (HE.out.ext HX.out)).mono ?_;rintro e v14⟨rfl,hx1⟩;replace HX:=HX.qt hx1;clear hx1;go_wp2_with fail;refine(C1.out _ (HE.out.ext HX.out)).mono ?_;rintro e v15⟨rfl,hx1⟩;replace HX:=HX.qt hx1;clear hx1;go_wp2_with fail;refine(C2.out _ (HE.out.ext HX.out)).mono ?_;rintro e v16⟨rfl,hx1⟩;replace HX:=HX.qt hx1;clear hx1;go_wp2_with fail;refine(A2.out _ (HE.out.ext HX.out)).mono ?_;rintro e v17⟨rfl,hx1⟩;replace HX:=HX.qt hx1;clear hx1;go_wp2_with fail;refine(S2.out _ (HE.out.ext HX.out)).mono ?_;rintro e v18⟨rfl,hx1⟩;replace HX:=HX.qt hx1;clear hx1;go_wp2_with fail;go_ret2;exact⟨rfl,HX.out⟩
theorem DH(a:Bs)(ha:a.length≤90000):bc 71 #[.string (bs a)] (.bool (aq a != 0)):=by
 intro w hE;have HE:=qh hE;have C:=qh (lI a (by omega));have HX:Hid (Ext w w):=qh (Ext.refl w);generalize aq a=k at *;clear hE ha;go_enter Tryz.func71,Tryz.ntmps71;go_wp2_with fail;refine(C.out _ (HE.out.ext HX.out)).mono ?_;rintro e v19⟨rfl,hx1⟩;replace HX:=HX.qt hx1;clear hx1;go_wp2_with fail;go_ret;exact⟨rfl,HX.out⟩
theorem DI(a:Bs)(ha:a.length≤90000):bc 73 #[.string (bs a)] (.bool (decide (valI a<0))):=by
 intro w hE;have HE:=qh hE;have C:=qh (gk a (by omega));have HX:Hid (Ext w w):=qh (Ext.refl w);have HQ:Hid (decide (valI a<0)=decide (cmpI (valI a) 0<0)):=qh (by rw[Bool.eq_iff_iff,decide_eq_true_iff,decide_eq_true_iff,cC]);rw[HQ.out];generalize cmpI (valI a) 0=cc at *;clear hE ha HQ;go_enter Tryz.func73,Tryz.ntmps73;go_wp2_with fail;refine(C.out _ (HE.out.ext HX.out)).mono ?_;rintro e v21⟨rfl,hx1⟩;replace HX:=HX.qt hx1;clear hx1;go_wp2_with fail;go_ret;exact⟨rfl,HX.out⟩
theorem zD{cost cash value:Bs}(h:[cost,cash,value].any (fun a=>aq a != 0)=true):jI cost cash value=([],[],1):=by unfold jI;rw[if_pos h]
theorem zE{cost cash value:Bs}(h:[cost,cash,value].any (fun a=>aq a != 0)=false)(h2:[cost,cash,value].any (fun a=>decide (valI a<0))=true):jI cost cash value=([],[],2):=by unfold jI;rw[if_neg (by rw[h];decide),if_pos h2]
theorem pY{cost cash value:Bs}(h:[cost,cash,value].any (fun a=>aq a != 0)=false)(h2:[cost,cash,value].any (fun a=>decide (valI a<0))=false):jI cost cash value=(ofI (eB (valI cost) (valI cash) (valI value)),ofI (valI cost+eB (valI cost) (valI cash) (valI value)-valI cash),0):=by unfold jI;rw[if_neg (by rw[h];decide),if_neg (by rw[h2];decide)]
theorem qW{cost cash value:Bs}(h:[cost,cash,value].any (fun a=>aq a != 0)=false)(h2:[cost,cash,value].any (fun a=>decide (valI a<0))=false):aq cost=0∧aq cash=0∧aq value=0∧0≤valI cost∧0≤valI cash∧0≤valI value:=by
 simp only[List.any_cons,List.any_nil,Bool.or_false,Bool.or_eq_false_iff,bne_eq_false_iff_eq,decide_eq_false_iff_not]at h h2;exact⟨h.1,h.2.1,h.2.2,by omega,by omega,by omega⟩
theorem mP(cost cash value:Bs)(h1:cost.length≤1000)(h2:cash.length≤1000)(h3:value.length≤1000) :
  bc 18 #[.string (bs cost),.string (bs cash),.string (bs value)] (.tuple #[.string (bs (jI cost cash value).1),.string (bs (jI cost cash value).2.1),.int .i64 (jI cost cash value).2.2]):=by
 intro w hE;have HE:=qh hE;have HB:=qh (Blk.new w 24 #[.string (bs cost),.string (bs cash),.string (bs value)]);have HX:Hid (Ext w (w.alloc (.cells #[.string (bs cost),.string (bs cash),.string (bs value)] 24))):=qh (Ext.new _ _);have hr:∀W,Blk W w.heap.size 24 #[.string (bs cost),.string (bs cash),.string (bs value)]→RdS W (some ⟨w.heap.size,0,none⟩) [cost,cash,value]:=fun W h=>E7 h
 have hm:∀a ∈ [cost,cash,value],a.length≤90000:=by
  intro a ha;simp only[List.mem_cons,List.not_mem_nil,or_false]at ha;rcases ha with rfl|rfl|rfl <;> omega
 have K1:=qh (fun W hx h=>mM 71 #[] (fun _ _=>by rfl) (fun a=>aq a != 0) [cost,cash,value] (some ⟨w.heap.size,0,none⟩) 3 W (hr W h) (by simp) (fun a ha V hv=>DH a (hm a ha) V ((hE.ext hx).ext hv)));have K2:=qh (fun W hx h=>mM 73 #[] (fun _ _=>by rfl) (fun a=>decide (valI a<0)) [cost,cash,value] (some ⟨w.heap.size,0,none⟩) 3 W (hr W h) (by simp) (fun a ha V hv=>DI a (hm a ha) V ((hE.ext hx).ext hv)));have B1:=qh (@zD cost cash value);have B2:=qh (@zE cost cash value);have B3:=qh (fun a b=>And.intro (@pY cost cash value a b) (Bl cost cash value h1 h2 h3 (qW a b).2.1 (qW a b).2.2.2.2.1));clear hE hr hm h1 h2 h3;generalize jI cost cash value=rv at *;generalize [cost,cash,value].any (fun a=>aq a != 0)=b1 at *;generalize [cost,cash,value].any (fun a=>decide (valI a<0))=b2 at *;simp only[List.length_cons,List.length_nil,Nat.zero_add,Nat.reduceAdd]at K1 K2;go_enter Tryz.func18,Tryz.ntmps18;go_wp2_with fail;refine(K1.out _ HX.out HB.out).mono ?_;rintro e v23⟨rfl,hx1⟩;replace HB:=qh (HB.out.ext hx1);replace HX:=HX.qt hx1;clear hx1
 cases b1;rotate_left
 ·have e:=B1.out (by trivial);subst e;go_wp2_with fail;go_ret3
  exact⟨rfl,HX.out⟩
 go_wp2_with fail;refine(K2.out _ HX.out HB.out).mono ?_;rintro e v24⟨rfl,hx1⟩;replace HX:=HX.qt hx1;clear hx1
 cases b2;rotate_left
 ·have e:=B2.out (by trivial) (by trivial);subst e;go_wp2_with fail;go_ret3
  exact⟨rfl,HX.out⟩
 obtain⟨e,hrec⟩:=B3.out (by trivial) (by trivial);have R:=qh hrec;subst e;clear hrec K1 K2 B1 B2 B3;go_wp2_with fail;refine(R.out _ (HE.out.ext HX.out)).mono ?_;rintro e v25⟨rfl,hx1⟩;replace HX:=HX.qt hx1;clear hx1;go_wp2_with fail;go_ret3
 exact⟨rfl,HX.out⟩
end
section
open Go.RowKit
attribute [local go_sem] size_bs toList_bs get_bs
def be(l:Bs):Nat:=(cM l).length
theorem xB(l:Bs):(∃t,l=45 :: t∧be l=t.length)∨(be l=l.length∧∃h0:0<l.length,((l[0].toNat:Int) == 45)=false)∨(l=[]∧be l=0):=by
 cases l with
 |nil=>exact .inr (.inr ⟨rfl,rfl⟩)
 |cons c r =>
  by_cases h:c=45
  ·subst h;exact .inl ⟨r,rfl,rfl⟩
  ·refine .inr (.inl ⟨by simp[be,cM,gd,h],by simp,?_⟩);have:=BF (c:=c) (d:=45) h;simpa using this
theorem jc(l:Bs)(hl:l.length≤1000000)(w:World):Calls Tryz.prog 102 #[.string (bs l)] w fun e w'=>e = .returned (.int .i64 (be l:Nat))∧w=w':=by
 rcases xB l with ⟨t,rfl,e⟩ | ⟨e,h0,h1⟩ | ⟨rfl,e⟩
 ·have hl2:t.length≤1000000:=by simp only[List.length_cons]at hl;omega
  have hw:IntKind.i64.wrap ((t.length:Int))=(t.length:Int):=IntWalk.i64_in _ (by omega);have hw2:wrap64 ((t.length:Int))=(t.length:Int):=by simp only[wrap64];omega
  rw[e];go_enter Tryz.func102,Tryz.ntmps102;go_wp2
  go_ret;exact⟨by first|rfl|(rw[hw2];done)|(simp[hw2];done)|(congr 1;simp;omega),rfl⟩
 all_goals
  rw[e];go_enter Tryz.func102,Tryz.ntmps102;go_wp2
  go_ret;exact⟨by first|rfl|(simp;done)|(congr 1;simp;omega),rfl⟩
end
section
open Go.RowKit
attribute [local go_sem] size_bs toList_bs
theorem mn:aj ⟨[],[]⟩=0:=by
 have:=fE 0;rwa[ma]at this
def jJ(f:Fr):Int:=if aK f≠0 then 1 else if 40<be f.num∨40<be f.den then 4 else 0
def bR(f:Fr):Int:=if jJ f≠0 then jJ f else if aj f<0 then 2 else 0
end
section
open Go.RowKit
attribute [local go_sem] size_bs toList_bs
structure OptV where
 other:Bs
 r:Fr
 p:Fr
 v:Fr
abbrev ov(o:OptV):Value := .agg #[.string (bs o.other),.string (bs o.r.num),.string (bs o.r.den),.string (bs o.p.num),.string (bs o.p.den),.string (bs o.v.num),.string (bs o.v.den)]
abbrev oc(o:OptV):Array Value:=#[.string (bs o.other),.string (bs o.r.num),.string (bs o.r.den),.string (bs o.p.num),.string (bs o.p.den),.string (bs o.v.num),.string (bs o.v.den)]
def bP(o:OptV):Bool:=if o.other=[] then !(o.r.num.isEmpty && o.r.den.isEmpty && o.v.num.isEmpty && o.v.den.isEmpty) else o.r.num.isEmpty && o.r.den.isEmpty
def dS(o:OptV):Int :=
 if o.other≠[]∧ax o.other=false then 23 else if bR o.r≠0 then bR o.r else if bR o.p≠0 then bR o.p else if bR o.v≠0 then bR o.v else if bP o=true then 2 else 0
def eP(L:Nat)(o:OptV):Prop:=o.other.length≤L∧o.r.num.length≤L∧o.r.den.length≤L∧o.p.num.length≤L∧o.p.den.length≤L∧o.v.num.length≤L∧o.v.den.length≤L
theorem ar{w w':World}{g:Nat}{o:OptV}(h:Blk w g 50 (oc o))(hx:Ext w w'):w'.cell? ⟨g,0,none⟩=some (.string (bs o.other))∧w'.cell? ⟨g,1,none⟩=some (.string (bs o.r.num))∧w'.cell? ⟨g,2,none⟩=some (.string (bs o.r.den))∧w'.cell? ⟨g,3,none⟩=some (.string (bs o.p.num))∧w'.cell? ⟨g,4,none⟩=some (.string (bs o.p.den))∧w'.cell? ⟨g,5,none⟩=some (.string (bs o.v.num))∧w'.cell? ⟨g,6,none⟩=some (.string (bs o.v.den)):=by
 have k:=h.ext hx;have h0:=k.cell 0;have h1:=k.cell 1;have h2:=k.cell 2;have h3:=k.cell 3;have h4:=k.cell 4;have h5:=k.cell 5;have h6:=k.cell 6;simp only[List.getElem?_toArray,List.getElem?_cons_zero,List.getElem?_cons_succ]at h0 h1 h2 h3 h4 h5 h6;exact⟨h0,h1,h2,h3,h4,h5,h6⟩
structure OptT (o:OptV) (e:Int):Prop where
 n:o.other≠[]→ax o.other=false→e=23
 r:(o.other=[]∨ax o.other=true)→bR o.r≠0→e=bR o.r
 p:(o.other=[]∨ax o.other=true)→bR o.r=0→bR o.p≠0→e=bR o.p
 v:(o.other=[]∨ax o.other=true)→bR o.r=0→bR o.p=0→bR o.v≠0→e=bR o.v
 b:(o.other=[]∨ax o.other=true)→bR o.r=0→bR o.p=0→bR o.v=0→bP o=true→e=2
 k:(o.other=[]∨ax o.other=true)→bR o.r=0→bR o.p=0→bR o.v=0→bP o=false→e=0
theorem mQ(o:OptV):OptT o (dS o):=by
 refine⟨fun a b=>?_,fun a b=>?_,fun a b c=>?_,fun a b c d=>?_,fun a b c d e=>?_,fun a b c d e=>?_⟩
 ·unfold dS;rw[if_pos ⟨a,b⟩]
 ·unfold dS;rw[if_neg (by rintro⟨k1,k2⟩;rcases a with a|a <;> simp_all),if_pos b]
 ·unfold dS;rw[if_neg (by rintro⟨k1,k2⟩;rcases a with a|a <;> simp_all),if_neg (by simpa using b),if_pos c]
 ·unfold dS;rw[if_neg (by rintro⟨k1,k2⟩;rcases a with a|a <;> simp_all),if_neg (by simpa using b),if_neg (by simpa using c),if_pos d]
 ·unfold dS;rw[if_neg (by rintro⟨k1,k2⟩;rcases a with a|a <;> simp_all),if_neg (by simpa using b),if_neg (by simpa using c),if_neg (by simpa using d),if_pos e]
 ·unfold dS;rw[if_neg (by rintro⟨k1,k2⟩;rcases a with a|a <;> simp_all),if_neg (by simpa using b),if_neg (by simpa using c),if_neg (by simpa using d),if_neg (by rw[e];decide)]
end
end Go.Proofs.YthgpheopnhajaaaGreatDoor
