/- The seat's texts, part Q13. -/
import Derived.Test.YtaegjkllenlfpaaGreatDoorQ0
import Derived.Test.YtaegjkllenlfpaaGreatDoorQ4
import Derived.Test.YtaegjkllenlfpaaGreatDoorQ5
import Derived.Test.YtaegjkllenlfpaaGreatDoorQ7
import Derived.Test.YtaegjkllenlfpaaGreatDoorQ8
import Derived.Test.YtaegjkllenlfpaaGreatDoorQ9
import Derived.Test.YtaegjkllenlfpaaGreatDoorQ10
import Derived.Test.YtaegjkllenlfpaaGreatDoorQ11
import Derived.Test.YtaegjkllenlfpaaGreatDoorQ12
import Derived.OrdersIn
import Derived.BigQuiet
import Derived.Deep.RegionHeld3
import Derived.Deep.CutRange
import Derived.Maps.RangeWalk
import Derived.Maps.OwnSet
import Derived.Deep.MidRow
import Derived.Orders
set_option maxRecDepth 100000
set_option maxHeartbeats 8000000
namespace Go.Proofs.YtaegjkllenlfpaaGreatDoor
variable {s j g k p m:Nat}{w' W':World}{word:Bs}{xs ys:List Value}
section
open Go.RowKit
section
variable {F:Fence} {n:Nat} {P:Program} {ops:Array Oper} {Q:Exit->Act->World->Prop} {md:Region.Mode}
theorem nA{Inv:Nat->Array Bool->Act->World->Prop}(hend:∀f listed a w,Inv f listed a w->Region.ready md ops listed=[]->Q .normal a w)
  (hz:∀listed a w,Inv 0 listed a w->Region.ready md ops listed=[])
  (hstep:∀f listed a w i,Inv (f+1) listed a w->i ∈ Region.ready md ops listed->wpOpIn F n P ops Q i (Inv f (listed.setIfInBounds i true)) a w) :
  ∀f listed a w,Inv f listed a w->wpAnyIn F n P md ops Q f listed a w
 |0,listed,a,w,h=>⟨hz listed a w h,hend 0 listed a w h (hz listed a w h)⟩
 |f+1,listed,a,w,h=>⟨hend (f+1) listed a w h,fun i hi=>wpOpIn_mono (fun a' w' h'=>nA hend hz hstep f _ a' w' h') (hstep f listed a w i h hi)⟩
def cL(base:Array Value)(who:Nat->Option Nat)(val:Nat->Value)(listed:Array Bool):Act :=
 { tmps:=Array.ofFn (n:=base.size) fun s=>match who s with|some i=>if listed.getD i false=true then val s else base.getD s undef|none=>base.getD s undef,defers:=[] }
variable {base:Array Value} {who:Nat->Option Nat} {val:Nat->Value} {listed:Array Bool}
theorem qH(hs:s<base.size):(cL base who val listed).tmps.getD s undef=match who s with|some i=>if listed.getD i false=true then val s else base.getD s undef|none=>base.getD s undef:=by
 unfold cL;rw[Array.getD_eq_getD_getElem?,Array.getElem?_ofFn,dif_pos hs];rfl
theorem oL(hs:s<base.size)(hw:who s=none):(cL base who val listed).tmps.getD s undef=base.getD s undef:=by
 rw[qH hs,hw]
theorem qI{i:Nat}(hs:s<base.size)(hw:who s=some i)(hl:listed.getD i false=true):(cL base who val listed).tmps.getD s undef=val s:=by
 rw[qH hs,hw];dsimp only;rw[if_pos hl]
theorem nQ{i:Nat}(hi:i<listed.size):(listed.setIfInBounds i true).getD j false=if j=i then true else listed.getD j false:=by
 rw[Array.getD_eq_getD_getElem?,Array.getD_eq_getD_getElem?,Array.getElem?_setIfInBounds];by_cases e:i=j
 ·subst e;rw[if_pos rfl,if_pos hi,if_pos rfl];rfl
 ·rw[if_neg e,if_neg (fun h=>e h.symm)]
theorem mj{d i:Nat}(hw:who d=some i)(hinj:∀s,who s=some i->s=d)(hi:i<listed.size) :
  (cL base who val listed).put (some d) (val d)=cL base who val (listed.setIfInBounds i true):=by
 have key:(cL base who val listed).tmps.setIfInBounds d (val d)=(cL base who val (listed.setIfInBounds i true)).tmps:=by
  unfold cL;dsimp only;apply Array.ext
  ·simp
  ·intro s h1 h2;have hs:s<base.size:=by simpa using h2
   rw[Array.getElem_setIfInBounds (by simpa using hs)];rw[Array.getElem_ofFn,Array.getElem_ofFn];by_cases e:d=s
   ·subst e;rw[if_pos rfl];dsimp only;rw[hw];dsimp only;rw[nQ hi,if_pos rfl,if_pos rfl]
   ·rw[if_neg e];dsimp only
    cases hq:who s with
    |none=>rfl
    |some j =>
     dsimp only;have hne:j≠i:=fun h=>e (by rw[h]at hq;exact(hinj s hq).symm)
     rw[nQ hi,if_neg hne]
 show({ tmps:=(cL base who val listed).tmps.setIfInBounds d (val d),defers:=[] }:Act)=_;rw[key];rfl
theorem r9(hs:listed.size=ops.size)(h:∀i,i<ops.size->listed.getD i false=true):listed=Array.replicate ops.size true:=by
 apply Array.ext
 ·rw[hs,Array.size_replicate]
 ·intro i h1 h2;have:=h i (by omega);rw[Array.getD_eq_getD_getElem?,Array.getElem?_eq_getElem h1]at this
  rw[Array.getElem_replicate];exact this
theorem ey(hfn:∀k,F.fn k)(hro:F.round=none){i:Nat}{o:Oper}{K:Act->World->Prop}{a:Act}{w:World}(ho:ops[i]? = some o)(hg:o.guard=none)(v:Value)(hrun:(execOp a.eval o).run P w = .ok (.value v) w')(hK:K (a.put o.dst v) w'):wpOpIn F n P ops Q i K a w:=by
 unfold wpOpIn;rw[ho];dsimp only;rw[if_pos (by simp[Region.wanted,hg])];refine⟨fun f _=>hfn f,?_⟩;rw[hro];show Oper.uponIn F n P o a K Q ((execOp a.eval o).run P w);rw[hrun];exact hK
end
end
section
open Go.RowKit
attribute [local go_sem] size_bs toList_bs
abbrev Fv(f:FuncId)(args:Array Value)(v:Value):Prop:=∀W,Calls Tryz.prog f args W fun e w'=>e = .returned v∧Ext W w'
def bV(f:Fr):Int:=if(cr (ay f)).num=f.num∧(cr (ay f)).den=f.den then 0 else 1
theorem Bj{a b:Fr}:a=b↔a.num=b.num∧a.den=b.den:=by cases a;cases b;simp
theorem D9(f:Fr):Rat.divInt (valI f.num) (valI (dn f))=ay f:=by
 rw[eH];rfl
theorem Fw(f:Fr):valI (dn f)≠0:=by
 unfold dn;split
 ·rw[iJ];decide
 ·assumption
theorem fh{a b:Bs}(h:a≠b):(a == b)=false:=by rw[beq_eq_false_iff_ne];exact h
theorem oM(f:Fr)(h1:f.num.length<=80000)(h2:f.den.length<=80000):cw 201 #[fv f] (.int .i64 (bV f)):=by
 intro w hE;have HE:=qh hE;have HP:=qh (jc f (by omega));have hm:=lD f.num (dn f) (by omega) (Nat.le_trans (kK f (L:=80000) (by omega) (by omega)) (by omega)) (Fw f);rw[D9]at hm;have HM:=qh hm;have HC1:Hid (cr (ay f)=f->bV f=0):=qh (fun h=>by unfold bV;rw[if_pos (Bj.1 h)]);have HC2:Hid (cr (ay f)≠f->bV f=1):=qh (fun h=>by unfold bV;rw[if_neg (fun k=>h (Bj.2 k))]);generalize bV f=k at *;generalize cr (ay f)=r at *;generalize dn f=d at *;obtain⟨n1,e1⟩:=f;obtain⟨n2,e2⟩:=r;clear hm hE h1 h2;have HB:=qh (Blk.new w 26 #[.string (bs n1),.string (bs e1)]);have HX:Hid (Ext w (w.alloc (.cells #[.string (bs n1),.string (bs e1)] 26))):=qh (Ext.new _ _);have HD:Hid (Ext w (w.alloc (.cells #[.string (bs n1),.string (bs e1)] 26)).drew):=qh HX.out.drew;have HBD:=qh HB.out.drew;by_cases a1:n1=n2;rotate_left
 ·have q:=fh a1;have HK:=qh (HC2.out (fun h=>a1 (by injection h with h1 h2;exact h1.symm)));rw[HK.out];clear HC1 HC2 HK a1;go_enter Tryz.func201,Tryz.ntmps201;go_upto_region 1 with fail;go_cut [9] (fun p9 wx=>p9 = .bool true∧Ext w wx)
  case first =>
   obtain⟨r0,r1,_,_⟩:=ar HB.out (Ext.refl _)
   go_region_held3 (fun w'=>w'.cell? ⟨w.heap.size,0,none⟩=some (.string (bs n1))∧w'.cell? ⟨w.heap.size,1,none⟩=some (.string (bs e1)))
    (go_keep)
    (first
     |(go_at_call 262;((with_reducible refine(HP.out _ (HE.out.ext HD.out)).mono ?_);rintro e w4⟨rfl,hx⟩);(replace HD:=HD.qt hx);(replace HBD:=qh (HBD.out.ext hx));(obtain⟨y0,y1,_,_⟩:=ar HBD.out (Ext.refl _));clear hx HP)
     |(go_at_call 184;((with_reducible refine(HM.out _ (HE.out.ext HD.out)).mono ?_);rintro e w5⟨rfl,hx⟩);(replace HD:=HD.qt hx);(replace HBD:=qh (HBD.out.ext hx));(obtain⟨z0,z1,_,_⟩:=ar HBD.out (Ext.refl _));clear hx HM))
   all_goals (go_wp2_with fail;go_meet;exact⟨rfl,HD.out⟩)
  case rest =>
   obtain⟨rfl,hx⟩:=hcut;have HXE:=qh hx;clear hx;go_wp2_with fail;go_ret;exact⟨rfl,HXE.out⟩
 subst a1;by_cases a2:e1=e2;rotate_left
 ·have q:=fh a2;have HK:=qh (HC2.out (fun h=>a2 (by injection h with h1 h2;exact h2.symm)));rw[HK.out];clear HC1 HC2 HK a2;go_enter Tryz.func201,Tryz.ntmps201;go_upto_region 1 with fail;go_cut [9] (fun p9 wx=>p9 = .bool true∧Ext w wx)
  case first =>
   obtain⟨r0,r1,_,_⟩:=ar HB.out (Ext.refl _)
   go_region_held3 (fun w'=>w'.cell? ⟨w.heap.size,0,none⟩=some (.string (bs n1))∧w'.cell? ⟨w.heap.size,1,none⟩=some (.string (bs e1)))
    (go_keep)
    (first
     |(go_at_call 262;((with_reducible refine(HP.out _ (HE.out.ext HD.out)).mono ?_);rintro e w4⟨rfl,hx⟩);(replace HD:=HD.qt hx);(replace HBD:=qh (HBD.out.ext hx));(obtain⟨y0,y1,_,_⟩:=ar HBD.out (Ext.refl _));clear hx HP)
     |(go_at_call 184;((with_reducible refine(HM.out _ (HE.out.ext HD.out)).mono ?_);rintro e w5⟨rfl,hx⟩);(replace HD:=HD.qt hx);(replace HBD:=qh (HBD.out.ext hx));(obtain⟨z0,z1,_,_⟩:=ar HBD.out (Ext.refl _));clear hx HM))
   all_goals (go_wp2_with fail;go_meet;exact⟨rfl,HD.out⟩)
  case rest =>
   obtain⟨rfl,hx⟩:=hcut;have HXE:=qh hx;clear hx;go_wp2_with fail;go_ret;exact⟨rfl,HXE.out⟩
 subst a2;have HK:=qh (HC1.out rfl);rw[HK.out];clear HC1 HC2 HK;go_enter Tryz.func201,Tryz.ntmps201;go_upto_region 1 with fail;go_cut [9] (fun p9 wx=>p9 = .bool false∧Ext w wx)
 case first =>
  obtain⟨r0,r1,_,_⟩:=ar HB.out (Ext.refl _)
  go_region_held3 (fun w'=>w'.cell? ⟨w.heap.size,0,none⟩=some (.string (bs n1))∧w'.cell? ⟨w.heap.size,1,none⟩=some (.string (bs e1)))
   (go_keep)
   (first
    |(go_at_call 262;((with_reducible refine(HP.out _ (HE.out.ext HD.out)).mono ?_);rintro e w4⟨rfl,hx⟩);(replace HD:=HD.qt hx);(replace HBD:=qh (HBD.out.ext hx));(obtain⟨y0,y1,_,_⟩:=ar HBD.out (Ext.refl _));clear hx HP)
    |(go_at_call 184;((with_reducible refine(HM.out _ (HE.out.ext HD.out)).mono ?_);rintro e w5⟨rfl,hx⟩);(replace HD:=HD.qt hx);(replace HBD:=qh (HBD.out.ext hx));(obtain⟨z0,z1,_,_⟩:=ar HBD.out (Ext.refl _));clear hx HM))
  all_goals (go_wp2_with fail;go_meet;exact⟨rfl,HD.out⟩)
 case rest =>
  obtain⟨rfl,hx⟩:=hcut;have HXE:=qh hx;clear hx;go_wp2_with fail;go_ret;exact⟨rfl,HXE.out⟩
end
section
open Go.RowKit
attribute [local go_sem] size_bs toList_bs get_bs
def bO(l:Bs):Nat:=(strip l).length
theorem qJ(l:Bs):(∃t,l=45 :: t∧bO l=t.length)∨(bO l=l.length∧∃h0:0<l.length,((l[0].toNat:Int) == 45)=false)∨(l=[]∧bO l=0):=by
 cases l with
 |nil=>exact .inr (.inr ⟨rfl,rfl⟩)
 |cons c r =>
  by_cases h:c=45
  ·subst h;exact .inl ⟨r,rfl,rfl⟩
  ·refine .inr (.inl ⟨by simp[bO,strip,isMin,h],by simp,?_⟩);have:=byte_ne (c:=c) (d:=45) h;simpa using this
end
section
open Go.RowKit
attribute [local go_sem] size_bs toList_bs
theorem sc:ay ⟨[],[]⟩=0:=by
 have:=kJ 0;rwa[yJ]at this
structure OptV where
 other:Bs
 r:Fr
 p:Fr
 v:Fr
abbrev ov(o:OptV):Value := .agg #[.string (bs o.other),.string (bs o.r.num),.string (bs o.r.den),.string (bs o.p.num),.string (bs o.p.den),.string (bs o.v.num),.string (bs o.v.den)]
abbrev oc(o:OptV):Array Value:=#[.string (bs o.other),.string (bs o.r.num),.string (bs o.r.den),.string (bs o.p.num),.string (bs o.p.den),.string (bs o.v.num),.string (bs o.v.den)]
def fC(o:OptV):Bool:=if o.other=[] then !(o.r.num.isEmpty && o.r.den.isEmpty && o.v.num.isEmpty && o.v.den.isEmpty) else o.r.num.isEmpty && o.r.den.isEmpty
def j9(L:Nat)(o:OptV):Prop:=o.other.length<=L∧o.r.num.length<=L∧o.r.den.length<=L∧o.p.num.length<=L∧o.p.den.length<=L∧o.v.num.length<=L∧o.v.den.length<=L
theorem jd{w:World}{o:OptV}(h:Blk w g 154 (oc o))(hx:Ext w w'):w'.cell? ⟨g,0,none⟩=some (.string (bs o.other))∧w'.cell? ⟨g,1,none⟩=some (.string (bs o.r.num))∧w'.cell? ⟨g,2,none⟩=some (.string (bs o.r.den))∧w'.cell? ⟨g,3,none⟩=some (.string (bs o.p.num))∧w'.cell? ⟨g,4,none⟩=some (.string (bs o.p.den))∧w'.cell? ⟨g,5,none⟩=some (.string (bs o.v.num))∧w'.cell? ⟨g,6,none⟩=some (.string (bs o.v.den)):=by
 have k:=h.ext hx;have h0:=k.cell 0;have h1:=k.cell 1;have h2:=k.cell 2;have h3:=k.cell 3;have h4:=k.cell 4;have h5:=k.cell 5;have h6:=k.cell 6;simp only[List.getElem?_toArray,List.getElem?_cons_zero,List.getElem?_cons_succ]at h0 h1 h2 h3 h4 h5 h6;exact⟨h0,h1,h2,h3,h4,h5,h6⟩
theorem Ea(l:Bs)(w:World) :
  Calls Tryz.prog 277 #[.string (bs l),.string ⟨#[45]⟩] w fun e w'=>e = .returned (.string (bs (strip l)))∧w=w':=by
 refine(Tryz.strings_TrimPrefix (bs l) ⟨#[45]⟩ w).mono ?_;rintro e w'⟨rfl,rfl⟩;refine⟨?_,rfl⟩;rw[data_bs]
 have h2:Lib.trimPrefix l [45]=strip l:=by
  unfold Lib.trimPrefix Lib.hasPrefix strip isMin
  cases l with
  |nil=>rfl
  |cons c r =>
   have hb:(45 == c)=(c == 45):=BEq.comm;show(if(45 == c && true)=true then(c :: r).drop 1 else c :: r)=if(c == 45)=true then r else c :: r;rw[Bool.and_true,hb];rfl
 exact congrArg (fun l=>Ending.returned (Value.string (bs l))) h2
theorem lI(l:Bs)(_hl:l.length<=1000000)(w:World):Calls Tryz.prog 202 #[.string (bs l)] w fun e w'=>e = .returned (.int .i64 (bO l:Nat))∧Ext w w':=by
 have HT:=qh (Ea l w);have hd:bO l=(strip l).length:=rfl;rw[hd];generalize strip l=s at *;clear _hl hd;go_enter Tryz.func202,Tryz.ntmps202;go_wp2_with fail;refine HT.out.mono ?_;rintro e v0⟨rfl,rfl⟩;go_wp2_with fail;go_ret;exact⟨rfl,Ext.refl _⟩
abbrev jo(g1 g2:Nat):Value := .func (.func 199) #[] #[.pointer (some ⟨g1,0,none⟩),.pointer (some ⟨g2,0,none⟩)]
def cz(f:Fr)(pos:Bool):Int :=
 if bV f≠0 then 1 else if 40<bO f.num∨40<bO f.den then 4 else if cR (ay f) 0<0∨(pos=true∧cR (ay f) 0=0) then 2 else 0
structure LimF (f:Fr) (pos:Bool) (e:Int):Prop where
 c:bV f≠0->e=1
 d:bV f=0->40<bO f.num∨40<bO f.den->e=4
 s:bV f=0->¬ 40<bO f.num->¬ 40<bO f.den->cR (ay f) 0<0∨(pos=true∧cR (ay f) 0=0)->e=2
 k:bV f=0->¬ 40<bO f.num->¬ 40<bO f.den->¬ (cR (ay f) 0<0∨(pos=true∧cR (ay f) 0=0))->e=0
theorem IC(f:Fr)(pos:Bool):LimF f pos (cz f pos):=by
 refine⟨fun a=>?_,fun a b=>?_,fun a b c d=>?_,fun a b c d=>?_⟩
 ·unfold cz;rw[if_pos a]
 ·unfold cz;rw[if_neg (by simpa using a),if_pos b]
 ·unfold cz;rw[if_neg (by simpa using a),if_neg (by omega),if_pos d]
 ·unfold cz;rw[if_neg (by simpa using a),if_neg (by omega),if_neg d]
theorem vH(f:Fr)(h1:f.num.length<=9000)(h2:f.den.length<=9000)(pos:Bool)(g1 g2:Nat)(w:World)(hE:Env w)(b1:Blk w g1 4 #[.bool pos])(b2:Blk w g2 4 #[.bool false]) :
  Calls Tryz.prog 199 #[fv f,.pointer (some ⟨g1,0,none⟩),.pointer (some ⟨g2,0,none⟩)] w fun e w'=>e = .returned (.int .i64 (cz f pos))∧Ext w w':=by
 have HE:=qh hE;have CK:=qh (oM f (by omega) (by omega));have cm:=pC f ⟨[],[]⟩ (by omega) (by omega) (by simp) (by simp);rw[sc]at cm;have CM:=qh cm;have lf:=IC f pos;have F1:=qh lf.c;have F2:=qh lf.d;have F3:=qh lf.s;have F4:=qh lf.k;have D1:=qh (fun W=>lI f.num (by omega) W);have D2:=qh (fun W=>lI f.den (by omega) W);clear cm lf h1 h2 hE;generalize cz f pos=res at *;obtain⟨n,d⟩:=f;dsimp only at F1 F2 F3 F4 D1 D2;generalize bV ⟨n,d⟩=ck at *;generalize bO n=d1 at *;generalize bO d=d2 at *;generalize cR (ay ⟨n,d⟩) 0=sg at *;have HV:=qh (Blk.new w 26 #[.string (bs n),.string (bs d)]);have HX:Hid (Ext w (w.alloc (.cells #[.string (bs n),.string (bs d)] 26))):=qh (Ext.new _ _);have B1:=qh (b1.ext HX.out);have B2:=qh (b2.ext HX.out);clear b1 b2;go_enter Tryz.func199,Tryz.ntmps199;obtain⟨u0,u1,_,_⟩:=ar HV.out (Ext.refl _);go_wp2_with fail;refine(CM.out _ (HE.out.ext HX.out)).mono ?_;rintro e v1⟨rfl,hx1⟩;replace HV:=qh (HV.out.ext hx1);replace B1:=qh (B1.out.ext hx1);replace B2:=qh (B2.out.ext hx1);replace HX:=HX.qt hx1;clear hx1;clear u0 u1;obtain⟨u0,u1,_,_⟩:=ar HV.out (Ext.refl _);go_wp2_with fail;refine(CK.out _ (HE.out.ext HX.out)).mono ?_;rintro e v2⟨rfl,hx1⟩;replace HV:=qh (HV.out.ext hx1);replace B1:=qh (B1.out.ext hx1);replace B2:=qh (B2.out.ext hx1);replace HX:=HX.qt hx1;clear hx1;clear u0 u1;obtain⟨u0,u1,_,_⟩:=ar HV.out (Ext.refl _);by_cases y1:ck=0;rotate_left
 ·have g:(ck != 0)=true:=by rw[bne_iff_ne];exact y1
  have e0:=F1.out y1;subst e0;clear F1 F2 F3 F4;go_wp2_with fail;go_ret;exact⟨rfl,HX.out⟩
 subst y1;go_wp2_with fail;refine(D1.out _).mono ?_;rintro e v4⟨rfl,hx1⟩;replace HV:=qh (HV.out.ext hx1);replace B1:=qh (B1.out.ext hx1);replace B2:=qh (B2.out.ext hx1);replace HX:=HX.qt hx1;clear hx1;clear u0 u1;obtain⟨u0,u1,_,_⟩:=ar HV.out (Ext.refl _);by_cases y2:40<d1
 ·have g:decide ((40:Int)<(d1:Int))=true:=by rw[decide_eq_true_iff];omega
  have e0:=F2.out (by trivial) (.inl y2);subst e0;clear F1 F2 F3 F4;go_wp2_with fail;go_ret;exact⟨rfl,HX.out⟩
 have g2:decide ((40:Int)<(d1:Int))=false:=by rw[decide_eq_false_iff_not];omega
 go_wp2_with fail;refine(D2.out _).mono ?_;rintro e v6⟨rfl,hx1⟩;replace HV:=qh (HV.out.ext hx1);replace B1:=qh (B1.out.ext hx1);replace B2:=qh (B2.out.ext hx1);replace HX:=HX.qt hx1;clear hx1;clear u0 u1;obtain⟨u0,u1,_,_⟩:=ar HV.out (Ext.refl _);by_cases y3:40<d2
 ·have g:decide ((40:Int)<(d2:Int))=true:=by rw[decide_eq_true_iff];omega
  have e0:=F2.out (by trivial) (.inr y3);subst e0;clear F1 F2 F3 F4;go_wp2_with fail;go_ret;exact⟨rfl,HX.out⟩
 have g3:decide ((40:Int)<(d2:Int))=false:=by rw[decide_eq_false_iff_not];omega
 have q1:=B1.out.cell 0;have q2:=B2.out.cell 0;simp only[List.getElem?_toArray,List.getElem?_cons_zero]at q1 q2;by_cases y4:sg<0
 ·have g4:decide (sg<0)=true:=decide_eq_true y4;have e0:=F3.out (by trivial) y2 y3 (.inl y4);subst e0;clear F1 F2 F3 F4;go_wp2_with fail;go_quiet (fail);go_wp2_with fail;go_ret;exact⟨rfl,HX.out.drewN _⟩
 have g4:decide (sg<0)=false:=decide_eq_false y4
 cases pos
 ·have e0:=F4.out (by trivial) y2 y3 (by simp;omega);subst e0;clear F1 F2 F3 F4;go_wp2_with fail;go_quiet (fail);go_wp2_with fail;go_ret;exact⟨rfl,HX.out.drewN _⟩
 by_cases y5:sg=0
 focus
  have g5:(sg == 0)=true:=by rw[beq_iff_eq];exact y5
  have e0:=F3.out (by trivial) y2 y3 (.inr ⟨rfl,y5⟩)
 rotate_left
 focus
  have g5:(sg == 0)=false:=by rw[beq_eq_false_iff_ne];exact y5
  have e0:=F4.out (by trivial) y2 y3 (by simp;omega)
 all_goals
  subst e0;clear F1 F2 F3 F4 y4 y5;go_wp2_with fail;go_quiet (fail);go_wp2_with fail;go_ret;exact⟨rfl,HX.out.drewN _⟩
theorem dC(p q:Bool)(w:World) :
  Calls Tryz.prog 129 #[.bool p,.bool q] w fun e w'=>e = .returned (jo w.heap.size (w.heap.size+1))∧Blk w' w.heap.size 4 #[.bool p]∧Blk w' (w.heap.size+1) 4 #[.bool q]∧Ext w w':=by
 have e1:(w.alloc (.cells #[.bool p] 4)).heap.size=w.heap.size+1:=Array.size_push ..;go_enter Tryz.func129,Tryz.ntmps129;go_wp2_with fail;go_ret;exact⟨rfl,(Blk.new _ _ _).alloc _,Blk.newAt _ _ _ _ e1,(Ext.new _ _).alloc _⟩
end
section
open Go.RowKit
open Go.Maps (Keyed)
attribute [local go_sem] size_bs toList_bs
theorem eE{H:Type}{P:Program}(w:World){ops:Array Oper}{rest:List Oper}{o:Oper}{a:Act}{Q:Exit->Act->World->Prop}
  (hg:o.guard=none) (m x v:Operand) (t:TypeId) (hop:o.op=Op.insert t m x v)
  (k e:TypeId) (K:Keyed P k) (ht:P.underlying t=some (.map k e)) (R:Value->Option (DataW H × List MemPlace)) (b n:Nat) (D:DataW H)
  (hm:a.eval m = .map (some b)) (hown:w.ownsMap P k R b n D) (hn:n<maxLen) (key val:Value) (kl:Lit) (hx:a.eval x=key) (hv:a.eval v=val) (hkey:keyOf P k key=some kl)
  (d:DataW H) (ps:List MemPlace) (hval:R val=some (d,ps))
  (hK:∀w',w'.ownsMap P k R b (n+1) (D.put kl d)->w.grownBy w' (some b)->wpList P ops Q rest (a.put o.dst undef) w') :
  wpList P ops Q (o :: rest) a w:=by
 refine wpList_plain hg fun K' hK'=>?_
 obtain⟨w',hrun,r1,r2⟩:=hown.update K ht hn hkey hval;unfold Oper.wp;simp[execOp,hop,hm,hx,hv,hrun,Result.andThen];exact hK' _ _ (hK w' r1 r2)
theorem gm:Keyed Tryz.prog 3:=Go.Maps.int_keyed Tryz.underlying3
def RK(v:Value):Option (DataW Value × List MemPlace):=some (.held v,[])
abbrev bD(W:World)(b n:Nat)(D:DataW Value):Prop:=W.ownsMap Tryz.prog 3 RK b n D
theorem bD.ext{W:World}{b n:Nat}{D:DataW Value}(h:bD W b n D)(hx:Ext W W'):bD W' b n D :=
 h.kept (row:=none) ⟨hx.os,hx.tape,hx.output,hx.size,fun i hi _=>hx.block i hi⟩ (by simp)
theorem bD.only{W:World}{b n:Nat}{D:DataW Value}(h:bD W b n D)(ho:Only g W W')(hne:b≠g):bD W' b n D:=h.kept ho (by simpa using hne)
def aJ(word:Bs)(cl:Int)(bits:List Bool)(num:Value)(code:Bool):List Value := .string (bs word) :: .int .i64 cl :: (bits.map Value.bool++[num,.bool code])
abbrev kv(word:Bs)(cl:Int)(bits:List Bool)(num:Value)(code:Bool):Value := .agg (aJ word cl bits num code).toArray
theorem pG(word:Bs)(cl:Int)(bits:List Bool)(num:Value)(code:Bool)(i:Nat)(u:Bool)(h:i<bits.length) :
  (aJ word cl bits num code).toArray.setIfInBounds (2+i) (.bool u)=(aJ word cl (bits.set i u) num code).toArray:=by
 unfold aJ;rw[Nat.add_comm 2 i,List.setIfInBounds_toArray,List.set_cons_succ,List.set_cons_succ,List.set_append_left _ _ (by simpa using h),List.map_set]
theorem oN(word:Bs)(cl:Int)(bits:List Bool)(num:Value)(code:Bool)(i:Nat)(h:i<bits.length) :
  (aJ word cl bits num code).toArray[2+i]? = some (.bool (bits[i]'h)):=by
 unfold aJ;rw[Nat.add_comm 2 i,List.getElem?_toArray,List.getElem?_cons_succ,List.getElem?_cons_succ,List.getElem?_append_left (by simpa using h),List.getElem?_map,List.getElem?_eq_getElem h];rfl
theorem zg(word:Bs)(cl:Int)(bits:List Bool)(num:Value)(code:Bool)(h:bits.length=13):(aJ word cl bits num code).toArray[16]? = some (.bool code):=by
 unfold aJ;rw[List.getElem?_toArray,List.getElem?_cons_succ,List.getElem?_cons_succ,List.getElem?_append_right (by simp[h])];simp[h]
theorem vI{l:List Bool}(h:l.length=13):∃b0 b1 b2 b3 b4 b5 b6 b7 b8 b9 b10 b11 b12,l=[b0,b1,b2,b3,b4,b5,b6,b7,b8,b9,b10,b11,b12]:=by
 match l,h with
 |[b0,b1,b2,b3,b4,b5,b6,b7,b8,b9,b10,b11,b12],_=>exact⟨b0,b1,b2,b3,b4,b5,b6,b7,b8,b9,b10,b11,b12,rfl⟩
def aR(ms:List Nat)(b:List Bool):List Bool:=ms.foldl (fun b i=>b.set i true) b
theorem jy(ms:List Nat):∀b,(aR ms b).length=b.length:=by
 induction ms with
 |nil=>intro b;rfl
 |cons i r ih=>intro b;show(aR r (b.set i true)).length=_;rw[ih,List.length_set]
theorem nB{ms:List Nat}(h:k<ms.length)(b:List Bool):aR (ms.take (k+1)) b=(aR (ms.take k) b).set (ms[k]'h) true:=by
 unfold aR;rw[List.take_add_one,List.getElem?_eq_getElem h,List.foldl_append];rfl
def bt:List Bool:=[false,false,false,false,false,false,false,false,false,false,false,false,false]
theorem pH{w:World}{cl:Int}{num:Value}{code b0 b1 b2 b3 b4 b5 b6 b7 b8 b9 b10 b11 b12:Bool}(h:Blk w g 103 (aJ word cl [b0,b1,b2,b3,b4,b5,b6,b7,b8,b9,b10,b11,b12] num code).toArray) :
  w.cell? ⟨g,0,none⟩=some (.string (bs word))∧w.cell? ⟨g,1,none⟩=some (.int .i64 cl)∧w.cell? ⟨g,2,none⟩=some (.bool b0)∧w.cell? ⟨g,3,none⟩=some (.bool b1)∧w.cell? ⟨g,4,none⟩=some (.bool b2)∧w.cell? ⟨g,5,none⟩=some (.bool b3)∧w.cell? ⟨g,6,none⟩=some (.bool b4)∧w.cell? ⟨g,7,none⟩=some (.bool b5)∧w.cell? ⟨g,8,none⟩=some (.bool b6)∧w.cell? ⟨g,9,none⟩=some (.bool b7)∧w.cell? ⟨g,10,none⟩=some (.bool b8)∧w.cell? ⟨g,11,none⟩=some (.bool b9)∧w.cell? ⟨g,12,none⟩=some (.bool b10)∧w.cell? ⟨g,13,none⟩=some (.bool b11)∧w.cell? ⟨g,14,none⟩=some (.bool b12)∧w.cell? ⟨g,15,none⟩=some num∧w.cell? ⟨g,16,none⟩=some (.bool code):=by
 refine⟨h.cell 0,h.cell 1,h.cell 2,h.cell 3,h.cell 4,h.cell 5,h.cell 6,h.cell 7,h.cell 8,h.cell 9,h.cell 10,h.cell 11,h.cell 12,h.cell 13,h.cell 14,h.cell 15,h.cell 16⟩
theorem fD{w:World}(h:Blk w g 103 xs.toArray)(hl:xs.length=ys.length):Blk (w.setCells g 0 ys) g 103 ys.toArray:=by
 have:=Blk.sets ys 0 w xs h (by omega);unfold lsplice at this
 rw[List.take_zero,List.nil_append,List.drop_of_length_le (by omega),List.append_nil]at this
 exact this
theorem im{fn:Func}{a:Tmp}(h:fn.results=#[.cell a 103])(tmps:Array Value)(w:World)(g:Nat){cl:Int}{num:Value}{code:Bool}{bits:List Bool}(hl:bits.length=13)(ha:tmps.getD a undef = .pointer (some ⟨g,0,none⟩))(hb:Blk w g 103 (aJ word cl bits num code).toArray) :
  (results fn tmps).run Tryz.prog w = .ok (kv word cl bits num code) w:=by
 obtain⟨b0,b1,b2,b3,b4,b5,b6,b7,b8,b9,b10,b11,b12,rfl⟩:=vI hl;obtain⟨q0,q1,q2,q3,q4,q5,q6,q7,q8,q9,q10,q11,q12,q13,q14,q15,q16⟩:=pH hb;unfold results;rw[h];simp only[List.mapM_toArray,List.mapM_cons,List.mapM_nil,ha];go_simp;rfl
end
section
open Go.RowKit
attribute [local go_sem] size_bs toList_bs
theorem jI(word:Bs)(cl:Int)(bits:List Bool)(num:Value)(code:Bool)(hn:num.oneCell'=true):(aJ word cl bits num code).toArray.all (·.oneCell')=true:=by
 unfold aJ;simp[Value.oneCell'];exact hn
theorem fT(word:Bs)(cl:Int)(bits:List Bool)(num:Value)(code:Bool)(h:bits.length=13):(aJ word cl bits num code).length=17:=by
 unfold aJ;simp[h]
theorem jz{w:World}(h:Blk w g 103 xs.toArray):w.rangeAt g 0 xs:=fun j v hv=>by rw[Nat.zero_add,h.cell j,List.getElem?_toArray];exact hv
theorem eO{w:World}{n:Nat}(h:Blk w g 103 xs.toArray)(hx:n=xs.length):w.there g 0 n:=fun j hj=>by
 have hj2:j<xs.length:=by omega
 rw[Nat.zero_add,h.cell j,h.frozen j,List.getElem?_toArray,List.getElem?_eq_getElem hj2];exact⟨rfl,rfl⟩
theorem zh(word:Bs)(cl:Int)(ms:List Nat)(A:Option Addr)(c:Nat)(w:World)(hM:RdI w A ms)(hb:∀x ∈ ms,x<13)(hn:ms.length<=1000) :
  Calls Tryz.prog 130 #[.string (bs word),.int .i64 cl,.map none,.slice A ms.length c] w fun e w'=>e = .returned (kv word cl (aR ms bt) (.map none) false)∧Ext w w':=by
 have HM:=qh hM;have HB:=qh hb;obtain⟨bits,hbits⟩:∃b,b=bt:=⟨_,rfl⟩;have HL:Hid (bits.length=13):=qh (by rw[hbits];rfl);have G8:=qh ((Blk.new w 103 (aJ [] 0 bt (.map none) false).toArray).alloc (.cells (aJ word cl bits (.map none) false).toArray 103));have G9:=qh (Blk.newAt (w.alloc (.cells (aJ [] 0 bt (.map none) false).toArray 103)) 103 (aJ word cl bits (.map none) false).toArray (w.heap.size+1) (by simp));have HX:Hid (Ext w ((w.alloc (.cells (aJ [] 0 bt (.map none) false).toArray 103)).alloc (.cells (aJ word cl bits (.map none) false).toArray 103))):=qh ((Ext.new _ _).alloc _);have hrg:∀wx:World,(Instr.range 101 (.map none)).run Tryz.prog wx=_:=fun wx=>run_range_nilMap wx 101 3 163 Tryz.underlying101
 have hnx:∀(wx:World) ty,(Instr.next (.pointer (some ⟨wx.heap.size,0,none⟩)) false ty).run Tryz.prog (wx.alloc (.mapIter none 0 #[] 0))=_:=fun wx ty=>run_next_nilMap wx ty 0 0 #[]
 rw[hbits]at G8 G9 HX;clear hM hb;go_enter Tryz.func130,Tryz.ntmps130;go_upto_region 2 with fail;dsimp only[aJ,bt,List.map_cons,List.map_nil,List.cons_append,List.nil_append]at G8 G9 HX
 generalize hW2:(w.alloc (.cells #[Value.string { data:=#[] },Value.int IntKind.i64 0,Value.bool false,Value.bool false,Value.bool false,Value.bool false,Value.bool false,Value.bool false,Value.bool false,Value.bool false,Value.bool false,Value.bool false,Value.bool false,Value.bool false,Value.bool false,Value.map none,Value.bool false] 103)).alloc
      (Obj.cells #[Value.string (bs word),Value.int IntKind.i64 cl,Value.bool false,Value.bool false,Value.bool false,Value.bool false,Value.bool false,Value.bool false,Value.bool false,Value.bool false,Value.bool false,Value.bool false,Value.bool false,Value.bool false,Value.bool false,Value.map none,Value.bool false] 103)=W2
 replace HX:Hid (Ext w W2):=by rw[←hW2];exact HX
 replace G8:Hid (Blk W2 w.heap.size 103 (aJ [] 0 bt (.map none) false).toArray):=by rw[←hW2];exact G8
 replace G9:Hid (Blk W2 (w.heap.size+1) 103 (aJ word cl bits (.map none) false).toArray):=by rw[←hW2,hbits];exact G9
 have hrg2:=hrg W2;have hnx2:=hnx W2;clear hW2 hrg hnx;go_wp2_with fail;refine wp_loop_rounds 1 ?_;rw[rounds_succ];go_wp2_with fail;replace HX:=qh (HX.out.alloc (.mapIter none 0 #[] 0));replace G8:=qh (G8.out.alloc (.mapIter none 0 #[] 0));replace G9:=qh (G9.out.alloc (.mapIter none 0 #[] 0));clear hrg2 hnx2;go_loopw [28,12] (fun i _ wr=>∃k:Nat,k<=ms.length∧i = .int .i64 k∧Ext w wr∧Blk wr w.heap.size 103 (aJ [] 0 bt (.map none) false).toArray∧Blk wr (w.heap.size+1) 103 (aJ word cl (aR (ms.take k) bits) (.map none) false).toArray) (fun i _ _=>ms.length-(intOf i).toNat)
 case atStart=>exact⟨0,by omega,rfl,HX.out,G8.out,G9.out⟩
 case round =>
  clear HX G8 G9;obtain⟨k,hk,rfl,hx,h8,h9⟩:=hrel;have HX:=qh hx;have G8:=qh h8;have G9:=qh h9;clear hx h8 h9;by_cases hlt:k<ms.length
  ·obtain⟨b,o,rfl,hb,c0⟩:=(HM.out.ext HX.out).at_ hlt;have hx13:=HB.out _ (List.getElem_mem hlt);have hlen:(aR (ms.take k) bits).length=13:=by rw[jy];exact HL.out
   have hs:aR (ms.take (k+1)) bits=(aR (ms.take k) bits).set (ms[k]'hlt) true:=nB hlt bits;have N9:=G9.out.set_ (2+ms[k]'hlt) (.bool true);rw[pG _ _ _ _ _ _ _ (by omega),←hs]at N9;have q0:=G9.out.cell (2+ms[k]'hlt);rw[oN _ _ _ _ _ _ (by omega)]at q0;have f:=fun k=>G9.out.frozen k
   obtain⟨bb,q⟩:∃bb,wr.cell? ⟨w.heap.size+1,2+ms[k]'hlt,none⟩=some (.bool bb):=⟨_,q0⟩;clear q0;have N9h:=qh N9;clear N9 hs;generalize ms[k]'hlt=x at *;have hki:(k:Int)<(ms.length:Int):=by omega
   have hx1:(x:Int)<13:=by omega
   have N8:=qh (G8.out.far (p:=⟨w.heap.size+1,2+x,none⟩) (by simp) (.bool true));have NX:=qh (HX.out.setCell (p:=⟨w.heap.size+1,2+x,none⟩) (by simp) (.bool true));clear hlen;go_wp2_with fail;exact⟨⟨k+1,by omega,by go_num,NX.out,N8.out,N9h.out⟩,by simp[intOf];omega⟩
  ·obtain rfl:k=ms.length:=by omega
   have hlen:(aR (ms.take ms.length) bits).length=13:=by rw[jy];exact HL.out
   rw[List.take_length]at G9 hlen;have hrg:=jz G9.out;have hth:wr.there w.heap.size 0 (aJ word cl (aR ms bits) (.map none) false).toArray.size:=eO G8.out (by rw[List.size_toArray,fT _ _ _ _ _ hlen];rfl);have hs1:(Tryz.prog.info? 103).map (·.size)=some (aJ word cl (aR ms bits) (.map none) false).length:=by rw[fT _ _ _ _ _ hlen];kernel_rfl
   have hs2:(Tryz.prog.info? 103).map (·.size)=some (aJ word cl (aR ms bits) (.map none) false).toArray.size:=hs1;have hoc:=jI word cl (aR ms bits) (.map none) false rfl;have O8:=qh (fD G8.out (ys:=aJ word cl (aR ms bits) (.map none) false) (by unfold aJ;simp[hlen,bt]));have HS:=qh (ext_sets (aJ word cl (aR ms bits) (.map none) false) 0 wr () HX.out (Nat.le_refl _));have HR:=qh hlen;clear hlen hk hlt HB HM G8 G9;go_wp2_with (first|refine wpList_load_mid rfl 103 _ rfl (w.heap.size+1) 0 rfl _ _ hrg Tryz.underlying103 rfl hs1 ?_|refine wpList_store_mid rfl 103 _ _ rfl w.heap.size 0 _ rfl rfl hth hs2 hoc ?_|fail);refine bodyPost_ret (im rfl _ _ w.heap.size HR.out rfl O8.out) rfl ?_;exact⟨by rw[hbits],HS.out⟩
end
section
open Go.RowKit
open Go.Maps (Keyed)
attribute [local go_sem] size_bs toList_bs
def vJ(D:DataW Value):Prop:=∀x:Int,Maps.has D (.int .i64 x)=true->0<=x∧x<13
theorem wT:vJ (.map []):=fun x h=>by simp[Maps.has]at h
theorem wU{D:DataW Value}(h:vJ D)(k:Int)(h0:0<=k∧k<13)(d:DataW Value):vJ (D.put (.int .i64 k) d):=fun x hx=>by
 by_cases e:x=k
 ·subst e;exact h0
 ·rw[Maps.has_put_other (by simpa using e)]at hx;exact h x hx
theorem Fx(k:Int)(h:0<=k∧k<100):(Lit.int .i64 k).wf=true:=WalkArith.wf_i64 (by omega)
theorem lJ(k:Int)(h:0<=k∧k<100):keyOf Tryz.prog 3 (.int .i64 k)=some (.int .i64 k):=Go.Maps.keyOf_int_mk Tryz.underlying3 (Fx k h)
theorem Eb{w:World}(cs:List Value)(ms:List Nat)(h:cs=icells ms):RdI (w.alloc (.cells cs.toArray 3)) (some ⟨w.heap.size,0,none⟩) ms:=by
 subst h;exact Reads.lit (by simp[icells])
abbrev fE:Value := .func (.func 130) #[] #[]
abbrev FT:TypeId:=166
abbrev MT:TypeId:=101
abbrev oO:TypeId:=163
end
section
open Go.RowKit
section
variable {P:Program} {ops:Array Oper} {Q:Exit->Act->World->Prop} {md:Region.Mode}
theorem mn{Inv:Nat->Array Bool->Act->World->Prop}(hend:∀f listed a w,Inv f listed a w->Region.ready md ops listed=[]->Q .normal a w)
  (hz:∀listed a w,Inv 0 listed a w->Region.ready md ops listed=[])
  (hstep:∀f listed a w i,Inv (f+1) listed a w->i ∈ Region.ready md ops listed->wpOp P ops Q i (Inv f (listed.setIfInBounds i true)) a w) :
  ∀f listed a w,Inv f listed a w->wpAny P md ops Q f listed a w
 |0,listed,a,w,h=>⟨hz listed a w h,hend 0 listed a w h (hz listed a w h)⟩
 |f+1,listed,a,w,h=>⟨hend (f+1) listed a w h,fun i hi=>wpOp_mono (fun a' w' h'=>mn hend hz hstep f _ a' w' h') (hstep f listed a w i h hi)⟩
theorem dr{listed:Array Bool}{i:Nat}(hi:i ∈ Region.ready md ops listed):i<ops.size:=by
 unfold Region.ready at hi;rw[List.mem_filter,List.mem_range]at hi;exact hi.1
theorem dD{listed:Array Bool}{i:Nat}(hi:i ∈ Region.ready md ops listed):listed.getD i true=false:=by
 unfold Region.ready at hi;rw[List.mem_filter,Bool.and_eq_true]at hi;simpa using hi.2.1
theorem eP{listed:Array Bool}{i:Nat}(hi:i ∈ Region.ready md ops listed){o:Oper}(ho:ops[i]? = some o)(hp:(o.after.toList.any fun e=>e.on == p && Region.binds md e)=true):listed.getD p false=true:=by
 unfold Region.ready at hi;rw[List.mem_filter,Bool.and_eq_true,ho]at hi;have h:=hi.2.2;simp only[Option.map_some,Option.getD_some]at h;rw[List.any_eq_true]at hp;obtain⟨e,he,hp⟩:=hp;rw[Array.all_eq_true_iff_forall_mem]at h;have:=h e (Array.mem_toList_iff.1 he);simp only[Bool.and_eq_true,beq_iff_eq]at hp;rw[hp.2]at this
 simp only[Bool.not_true,Bool.false_or]at this
 rw[hp.1]at this
 exact this
theorem mo{listed:Array Bool}(h:listed.toList.count false=0)(_hs:listed.size=ops.size):Region.ready md ops listed=[]:=by
 unfold Region.ready;rw[List.filter_eq_nil_iff];intro i hi hc;rw[Bool.and_eq_true]at hc;have h1:listed.getD i true=false:=by simpa using hc.1
 rw[List.count_eq_zero]at h;apply h;unfold Array.getD at h1;split at h1
 ·rename_i hlt
  have:listed[i]=false:=h1;rw[←this];exact Array.mem_toList_iff.2 (Array.getElem_mem hlt)
 ·cases h1
theorem count_set{listed:Array Bool}{i:Nat}(hi:listed.getD i true=false):(listed.setIfInBounds i true).toList.count false+1=listed.toList.count false:=by
 unfold Array.getD at hi;split at hi
 ·rename_i hlt
  have e:listed.toList[i]'(by simpa using hlt)=false:=by rw[Array.getElem_toList];exact hi
  rw[Array.toList_setIfInBounds,List.count_set (by simpa using hlt),e]
  have h0:0<listed.toList.count false:=by
   rw[List.count_pos_iff,←e];exact List.getElem_mem _
  have h1:((true:Bool) == false)=false:=rfl;simp only[beq_self_eq_true,h1,if_true,Bool.false_eq_true,if_false];omega
 ·cases hi
theorem cM{listed:Array Bool}{i:Nat}(h:(listed.setIfInBounds i true).getD j false=true):j=i∨listed.getD j false=true:=by
 by_cases e:j=i
 ·exact .inl e
 ·right
  unfold Array.getD at h ⊢;split at h
  ·rename_i hlt
   rw[Array.size_setIfInBounds]at hlt;rw[dif_pos hlt];have h2:(listed.setIfInBounds i true)[j]'(by rw[Array.size_setIfInBounds];exact hlt)=true:=h;rw[Array.getElem_setIfInBounds_ne _ (by omega)]at h2;exact h2
  ·cases h
theorem mp{listed:Array Bool}(hacc:((List.range ops.size).all fun i=>match ops[i]? with|some o=>o.after.toList.all (fun e=>decide (e.on<i))|none=>true)=true)(h:Region.ready md ops listed=[])(hs:listed.size=ops.size) :
  ∀i,i<ops.size->listed.getD i false=true:=by
 intro i;induction i using Nat.strongRecOn with
 |ind i ih =>
  intro hi
  cases hl:listed.getD i false
  ·exfalso
   have hl2:listed.getD i true=false:=by
    have hlt:i<listed.size:=by omega
    rw[Array.getD_eq_getD_getElem?,Array.getElem?_eq_getElem hlt]at hl ⊢;exact hl
   rw[List.all_eq_true]at hacc;have h1:=hacc i (List.mem_range.2 hi)
   have:i ∈ Region.ready md ops listed:=by
    unfold Region.ready;rw[List.mem_filter,Bool.and_eq_true];refine⟨List.mem_range.2 hi,by rw[hl2];rfl,?_⟩;rw[Array.getElem?_eq_getElem hi]at h1 ⊢;simp only[Option.map_some,Option.getD_some];rw[Array.all_eq_true_iff_forall_mem];intro e he;rw[List.all_eq_true]at h1;have h2:=of_decide_eq_true (h1 e (Array.mem_toList_iff.2 he));rw[ih e.on h2 (by omega),Bool.or_true]
   rw[h]at this
   cases this
  ·rfl
end
end
section
open Go.RowKit Go.Shelf
attribute [local go_sem] size_bs toList_bs Oper.semAt_some
theorem aK(a:Act)(m:Nat):a.eval (.tmp m)=a.tmps.getD m undef:=rfl
theorem lK{base:Array Value}{who:Nat->Option Nat}{val:Nat->Value}:cL base who val (Array.replicate m false)={ tmps:=base,defers:=[] }:=by
 have key:(cL base who val (Array.replicate m false)).tmps=base:=by
  unfold cL;dsimp only;apply Array.ext
  ·simp
  ·intro s h1 h2;rw[Array.getElem_ofFn];have hb:base.getD s undef=base[s]:=by rw[Array.getD_eq_getD_getElem?,Array.getElem?_eq_getElem h2];rfl
   cases hq:who s with
   |none=>exact hb
   |some i =>
    dsimp only
    have hl:(Array.replicate m false).getD i false=false:=by
     rw[Array.getD_eq_getD_getElem?,Array.getElem?_replicate];split <;> rfl
    rw[hl,if_neg (by decide)];exact hb
 show({ tmps:=(cL base who val (Array.replicate m false)).tmps,defers:=[] }:Act)=_;rw[key]
def iq(d m:Nat)(s:Nat):Option Nat:=if d<=s∧s<d+m then some (s-d) else none
theorem jU{d i:Nat}(h:i<m):iq d m (d+i)=some i:=by
 unfold iq;rw[if_pos ⟨by omega,by omega⟩];congr 1;omega
theorem kb{d i:Nat}(h:iq d m s=some i):s=d+i:=by
 unfold iq at h;split at h
 ·injection h with h;omega
 ·cases h
theorem IE{i:Nat}(_h:i<m):(Array.ofFn (n:=m) fun j=>decide (j.val<i)).setIfInBounds i true=Array.ofFn (n:=m) fun j=>decide (j.val<i+1):=by
 apply Array.ext
 ·simp
 ·intro s h1 h2;have hs:s<m:=by simpa using h2
  rw[Array.getElem_setIfInBounds (by simpa using hs),Array.getElem_ofFn,Array.getElem_ofFn];by_cases e:i=s
  ·subst e;rw[if_pos rfl];simp
  ·rw[if_neg e];simp;omega
theorem qK{base:Array Value}{val:Nat->Value}{d:Nat}:∀i,i<=m->cL base (iq d m) val (Array.ofFn (n:=m) fun j=>decide (j.val<i))=(List.range i).foldl (fun a j=>a.put (some (d+j)) (val (d+j))) { tmps:=base,defers:=[] }
 |0,_=>by
  have e:(Array.ofFn (n:=m) fun j=>decide (j.val<0))=Array.replicate m false:=by
   apply Array.ext
   ·simp
   ·intro s h1 h2;simp
  rw[e,lK];rfl
 |i+1,h=>by
  rw[List.range_succ,List.foldl_append,←qK i (by omega),←IE (m:=m) (i:=i) (by omega)];exact(mj (jU (by omega)) (fun s hs=>kb hs) (by simp;omega)).symm
theorem qL{base:Array Value}{val:Nat->Value}{d:Nat}:cL base (iq d m) val (Array.replicate m true)=(List.range m).foldl (fun a j=>a.put (some (d+j)) (val (d+j))) { tmps:=base,defers:=[] }:=by
 rw[←qK (m:=m) m (Nat.le_refl _)];congr 1
 apply Array.ext
 ·simp
 ·intro s h1 h2;simp
section
variable {F:Fence} {n:Nat} {P:Program} {ops:Array Oper} {Q:Exit->Act->World->Prop}
theorem gN{listed:Array Bool}{i:Nat}(h:listed.getD j false=true):(listed.setIfInBounds i true).getD j false=true:=by
 rw[Array.getD_eq_getD_getElem?]at h ⊢;rw[Array.getElem?_setIfInBounds];split
 ·rename_i e
  subst e;split
  ·rfl
  ·rename_i hge
   rw[Array.getElem?_eq_none (by omega)]at h
   cases h
 ·exact h
theorem se(hfn:∀k,F.fn k)(hdp:F.depth.isSome=false)(hro:F.round=none){i:Nat}{o:Oper}{K:Act->World->Prop}{a:Act}{w:World}(ho:ops[i]? = some o)(hg:o.guard=none)(l fn:Nat)(tmps:Array Value)(assign body:Code){R:Ending->World->Prop}
  (hrun:(execOp a.eval o).run P w = .ok (.round l fn tmps assign body) w) (hR:RoundIn F (n-1) P l fn tmps assign body w R) (hK:∀e W,R e W->∃v,e = .returned v∧K (a.put o.dst v) W):wpOpIn F n P ops Q i K a w:=by
 unfold wpOpIn;rw[ho];dsimp only;rw[if_pos (by simp[Region.wanted,hg])];refine⟨fun f _=>hfn f,?_⟩;rw[hro];show Oper.uponIn F n P o a K Q ((execOp a.eval o).run P w);rw[hrun];refine⟨fun h=>(by rw[hdp]at h;cases h),hR.mono ?_⟩;intro e W hr;obtain⟨v,rfl,hk⟩:=hK e W hr;exact hk
structure ChInv (ops:Array Oper) (base:Array Value) (val:Nat->Value) (d c:Nat) (W:World) (J:World->Prop) (f:Nat) (listed:Array Bool) (a:Act) (w:World):Prop where
 size:listed.size=ops.size
 cnt:listed.toList.count false<=f
 act:a=cL base (iq d ops.size) val listed
 cl:∀i o e,ops[i]? = some o->listed.getD i false=true->e ∈ o.after.toList->Region.binds .any e=true->listed.getD e.on false=true
 wld:(listed.getD c false=false∧w=W)∨(listed.getD c false=true∧J w)
section
variable {base:Array Value} {val:Nat->Value} {d c f i:Nat} {W w:World} {J:World->Prop} {listed:Array Bool} {a:Act} {o:Oper}
theorem ChInv.need(h:ChInv ops base val d c W J (f+1) listed a w)(hd:d+ops.size<=base.size)(hi:i ∈ Region.ready .any ops listed)(ho:ops[i]? = some o)(p:Nat)(hps:p<ops.size)(hp:(o.after.toList.any fun e=>e.on == p && Region.binds .any e)=true):a.tmps.getD (d+p) undef=val (d+p):=by
 rw[h.act];exact qI (by omega) (jU hps) (eP hi ho hp)
theorem ChInv.base'(h:ChInv ops base val d c W J f listed a w)(hs:s<base.size)(hn:s<d∨d+ops.size<=s):a.tmps.getD s undef=base.getD s undef:=by
 rw[h.act];exact oL hs (by unfold iq;rw[if_neg (by omega)])
theorem ChInv.step(h:ChInv ops base val d c W J (f+1) listed a w)(hi:i ∈ Region.ready .any ops listed)(ho:ops[i]? = some o)(hdst:o.dst=some (d+i))(w':World)(hw:(i≠c∧w'=w)∨(i=c∧J w')) :
  ChInv ops base val d c W J f (listed.setIfInBounds i true) (a.put o.dst (val (d+i))) w':=by
 have hlt:=dr hi;have hs:=h.size;have hc:=count_set (dD hi);have hcn:=h.cnt;refine⟨by rw[Array.size_setIfInBounds];exact hs,by omega,?_,?_,?_⟩
 ·rw[hdst,h.act];exact mj (jU hlt) (fun s hs=>kb hs) (by omega)
 ·intro j oj e hj hl he hb;rcases cM hl with e1|e1
  ·subst e1;rw[ho]at hj
   cases hj;refine gN (eP hi ho ?_);rw[List.any_eq_true];exact⟨e,he,by rw[hb];simp⟩
  ·exact gN (h.cl j oj e hj e1 he hb)
 ·rcases hw with ⟨hne,rfl⟩ | ⟨rfl,hj⟩
  ·rcases h.wld with ⟨h1,h2⟩ | ⟨h1,h2⟩
   ·left
    refine⟨?_,h2⟩
    cases hq:(listed.setIfInBounds i true).getD c false
    ·rfl
    ·rcases cM hq with e|e
     ·exact absurd e.symm hne
     ·rw[h1]at e;cases e
   ·exact .inr ⟨gN h1,h2⟩
  ·right
   refine⟨?_,hj⟩;rw[Array.getD_eq_getD_getElem?,Array.getElem?_setIfInBounds_self_of_lt (by omega)];rfl
theorem ChInv.before(h:ChInv ops base val d c W J f listed a w)(hi:i ∈ Region.ready .any ops listed)(hic:i<c)(_hsz:c<ops.size)
  (hdep:∀L:Nat->Prop,(∀i o e,ops[i]? = some o->L i->e ∈ o.after.toList->Region.binds .any e=true->L e.on)->L c->∀i,i<c->L i):w=W:=by
 rcases h.wld with ⟨_,h2⟩ | ⟨h1,_⟩
 ·exact h2
 ·have:=hdep (fun i=>listed.getD i false=true) (fun i o e ho hl he hb=>h.cl i o e ho hl he hb) h1 i hic;have hn:=dD hi;rw[Array.getD_eq_getD_getElem?]at this hn
  have hlt:=dr hi;have hs:=h.size;rw[Array.getElem?_eq_getElem (by omega)]at this hn
  exact absurd (hn.symm.trans this) (by decide)
theorem ChInv.at_call(h:ChInv ops base val d c W J f listed a w)(hi:c ∈ Region.ready .any ops listed):w=W:=by
 rcases h.wld with ⟨_,h2⟩ | ⟨h1,_⟩
 ·exact h2
 ·have hn:=dD hi;have hlt:=dr hi;have hs:=h.size;rw[Array.getD_eq_getD_getElem?]at h1 hn;rw[Array.getElem?_eq_getElem (by omega)]at h1 hn;exact absurd (hn.symm.trans h1) (by decide)
theorem ChInv.start(J:World->Prop):ChInv ops base val d c W J ops.size (Array.replicate ops.size false) { tmps:=base,defers:=[] } W:=by
 have hf:∀i,(Array.replicate ops.size false).getD i false=false:=fun i=>by
  rw[Array.getD_eq_getD_getElem?,Array.getElem?_replicate];split <;> rfl
 refine⟨by simp,by rw[Array.toList_replicate,List.count_replicate_self];exact Nat.le_refl _,lK.symm,?_,.inl ⟨hf c,rfl⟩⟩;intro i o e _ hl;rw[hf i]at hl;cases hl
theorem ChInv.fin(h:ChInv ops base val d c W J f listed a w)(hc:c<ops.size)(hr:Region.ready .any ops listed=[])
  (hacc:((List.range ops.size).all fun i=>match ops[i]? with|some o=>o.after.toList.all (fun e=>decide (e.on<i))|none=>true)=true) :
  a=(List.range ops.size).foldl (fun a j=>a.put (some (d+j)) (val (d+j))) { tmps:=base,defers:=[] }∧J w:=by
 have hall:=mp hacc hr h.size;refine⟨?_,?_⟩
 ·rw[h.act,r9 h.size hall,qL]
 ·rcases h.wld with ⟨h1,_⟩ | ⟨_,h2⟩
  ·rw[hall c hc]at h1;cases h1
  ·exact h2
end
end
end
end Go.Proofs.YtaegjkllenlfpaaGreatDoor
