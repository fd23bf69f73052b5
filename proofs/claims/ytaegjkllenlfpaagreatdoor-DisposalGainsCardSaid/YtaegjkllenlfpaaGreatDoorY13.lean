/- The seat's texts, part Y13. -/
import Derived.Test.YtaegjkllenlfpaaGreatDoorY12
set_option maxRecDepth 100000
set_option maxHeartbeats 8000000
namespace Go.Proofs.YtaegjkllenlfpaaGreatDoor
open Tryz
variable {s j g k p m:Nat}{w' W':World}{word:Bs}{xs ys:List Value}
section
open Go.RowKit
section
variable {F:Fence} {n:Nat} {P:Program} {ops:Array Oper} {Q:Exit->Act->World->Prop} {md:Region.Mode}
theorem oX{Inv:Nat->Array Bool->Act->World->Prop}(hend:∀f listed a w,Inv f listed a w->Region.ready md ops listed=[]->Q .normal a w)
  (hz:∀listed a w,Inv 0 listed a w->Region.ready md ops listed=[])
  (hstep:∀f listed a w i,Inv (f+1) listed a w->i ∈ Region.ready md ops listed->wpOpIn F n P ops Q i (Inv f (listed.setIfInBounds i true)) a w) :
  ∀f listed a w,Inv f listed a w->wpAnyIn F n P md ops Q f listed a w
 |0,listed,a,w,h=>⟨hz listed a w h,hend 0 listed a w h (hz listed a w h)⟩
 |f+1,listed,a,w,h=>⟨hend (f+1) listed a w h,fun i hi=>wpOpIn_mono (fun a' w' h'=>oX hend hz hstep f _ a' w' h') (hstep f listed a w i h hi)⟩
def cE(base:Array Value)(who:Nat->Option Nat)(val:Nat->Value)(listed:Array Bool):Act :=
 { tmps:=Array.ofFn (n:=base.size) fun s=>match who s with|some i=>if listed.getD i false=true then val s else base.getD s undef|none=>base.getD s undef,defers:=[] }
variable {base:Array Value} {who:Nat->Option Nat} {val:Nat->Value} {listed:Array Bool}
theorem sE(hs:s<base.size):(cE base who val listed).tmps.getD s undef=match who s with|some i=>if listed.getD i false=true then val s else base.getD s undef|none=>base.getD s undef:=by
 unfold cE;rw[Mw,Array.getElem?_ofFn,dif_pos hs];rfl
theorem qo(hs:s<base.size)(hw:who s=none):(cE base who val listed).tmps.getD s undef=base.getD s undef:=by
 rw[sE hs,hw]
theorem sF{i:Nat}(hs:s<base.size)(hw:who s=some i)(hl:listed.getD i false=true):(cE base who val listed).tmps.getD s undef=val s:=by
 rw[sE hs,hw];dsimp only;rw[Mq hl]
theorem pC{i:Nat}(hi:i<listed.size):(listed.setIfInBounds i true).getD j false=if j=i then true else listed.getD j false:=by
 rw[Mw,Mw,QJ];by_cases e:i=j
 ·subst e;rw[Mq rfl,Mq hi,Mq rfl];rfl
 ·rw[Mj e,Mj (fun h=>e h.symm)]
theorem nw{d i:Nat}(hw:who d=some i)(hinj:∀s,who s=some i->s=d)(hi:i<listed.size) :
  (cE base who val listed).put (some d) (val d)=cE base who val (listed.setIfInBounds i true):=by
 have key:(cE base who val listed).tmps.setIfInBounds d (val d)=(cE base who val (listed.setIfInBounds i true)).tmps:=by
  unfold cE;dsimp only;apply RI
  ·simp
  ·intro s h1 h2;have hs:s<base.size:=by simpa using h2
   rw[R5 (by simpa using hs)];rw[Py,Py];by_cases e:d=s
   ·subst e;rw[Mq rfl];dsimp only;rw[hw];dsimp only;rw[pC hi,Mq rfl,Mq rfl]
   ·rw[Mj e];dsimp only
    cases hq:who s with
    |none=>rfl
    |some j =>
     dsimp only;have hne:j≠i:=fun h=>e (by rw[h]at hq;exact(hinj s hq).symm)
     rw[pC hi,Mj hne]
 show({ tmps:=(cE base who val listed).tmps.setIfInBounds d (val d),defers:=[] }:Act)=_;rw[key];rfl
theorem ue(hs:listed.size=ops.size)(h:∀i,i<ops.size->listed.getD i false=true):listed=Array.replicate ops.size true:=by
 apply RI
 ·rw[hs,PD]
 ·intro i h1 h2;have:=h i (by omega);rw[Mw,NO h1]at this
  rw[Array.getElem_replicate];exact this
theorem eD(hfn:∀k,F.fn k)(hro:F.round=none){i:Nat}{o:Oper}{K:Act->World->Prop}{a:Act}{w:World}(ho:ops[i]? = some o)(hg:o.guard=none)(v:Value)(hrun:(execOp a.eval o).run P w = .ok (.value v) w')(hK:K (a.put o.dst v) w'):wpOpIn F n P ops Q i K a w:=by
 unfold wpOpIn;rw[ho];dsimp only;rw[Mq (by simp[Region.wanted,hg])];refine⟨fun f _=>hfn f,?_⟩;rw[hro];show Oper.uponIn F n P o a K Q ((execOp a.eval o).run P w);rw[hrun];exact hK
end
end
section
open Go.RowKit
attribute [local go_sem] size_bs toList_bs
abbrev jw(f:FuncId)(args:Array Value)(v:Value):Prop:=∀W,Calls prog f args W fun e w'=>e = .returned v∧Ext W w'
def cA(f:Fr):Int:=if(bX (ay f)).num=f.num∧(bX (ay f)).den=f.den then 0 else 1
theorem Ek{a b:Fr}:a=b↔a.num=b.num∧a.den=b.den:=by cases a;cases b;simp
theorem GY(f:Fr):Rat.divInt (valI f.num) (valI (dn f))=ay f:=by
 rw[eN];rfl
theorem I6(f:Fr):valI (dn f)≠0:=by
 unfold dn;split
 ·rw[ji];decide
 ·assumption
theorem fy{a b:Bs}(h:a≠b):(a == b)=false:=by rw[Mt];exact h
theorem qp(f:Fr)(h1:f.num.length<=80000)(h2:f.den.length<=80000):bJ 201 #[fv f] (.int .i64 (cA f)):=by
 intro w hE;have HE:=qh hE;have HP:=qh (jC f (by omega));have hm:=mA f.num (dn f) (by omega) (Mx (lW f (L:=80000) (by omega) (by omega)) (by omega)) (I6 f);rw[GY]at hm;have HM:=qh hm;have HC1:Hid (bX (ay f)=f->cA f=0):=qh (fun h=>by unfold cA;rw[Mq (Ek.1 h)]);have HC2:Hid (bX (ay f)≠f->cA f=1):=qh (fun h=>by unfold cA;rw[Mj (fun k=>h (Ek.2 k))]);generalize cA f=k at *;generalize bX (ay f)=r at *;generalize dn f=d at *;obtain⟨n1,e1⟩:=f;obtain⟨n2,e2⟩:=r;clear hm hE h1 h2;have HB:=qh (ID w 26 #[.string (bs n1),.string (bs e1)]);have HX:Hid (Ext w (w.alloc (.cells #[.string (bs n1),.string (bs e1)] 26))):=qh (Id _ _);have HD:Hid (Ext w (w.alloc (.cells #[.string (bs n1),.string (bs e1)] 26)).drew):=qh HX.out.drew;have HBD:=qh HB.out.drew;by_cases a1:n1=n2;rotate_left
 ·have q:=fy a1;have HK:=qh (HC2.out (fun h=>a1 (by injection h with h1 h2;exact h1.symm)));rw[HK.out];clear HC1 HC2 HK a1;go_enter func201,ntmps201;go_upto_region 1 with fail;go_cut [9] (fun p9 wx=>p9 = .bool true∧Ext w wx)
  case first =>
   obtain⟨r0,r1,_,_⟩:=aB HB.out (iD _)
   go_region_held3 (fun w'=>w'.cell? ⟨w.heap.size,0,none⟩=some (.string (bs n1))∧w'.cell? ⟨w.heap.size,1,none⟩=some (.string (bs e1)))
    (go_keep)
    (first
     |(go_at_call 262;((with_reducible refine(HP.out _ (HE.out.ext HD.out)).mono ?_);rintro e w4⟨rfl,hx⟩);(replace HD:=HD.qt hx);(replace HBD:=qh (HBD.out.ext hx));(obtain⟨y0,y1,_,_⟩:=aB HBD.out (iD _));clear hx HP)
     |(go_at_call 184;((with_reducible refine(HM.out _ (HE.out.ext HD.out)).mono ?_);rintro e w5⟨rfl,hx⟩);(replace HD:=HD.qt hx);(replace HBD:=qh (HBD.out.ext hx));(obtain⟨z0,z1,_,_⟩:=aB HBD.out (iD _));clear hx HM))
   all_goals (go_wp2_with fail;go_meet;exact⟨rfl,HD.out⟩)
  case rest =>
   obtain⟨rfl,hx⟩:=hcut;have HXE:=qh hx;clear hx;go_wp2_with fail;go_ret;exact⟨rfl,HXE.out⟩
 subst a1;by_cases a2:e1=e2;rotate_left
 ·have q:=fy a2;have HK:=qh (HC2.out (fun h=>a2 (by injection h with h1 h2;exact h2.symm)));rw[HK.out];clear HC1 HC2 HK a2;go_enter func201,ntmps201;go_upto_region 1 with fail;go_cut [9] (fun p9 wx=>p9 = .bool true∧Ext w wx)
  case first =>
   obtain⟨r0,r1,_,_⟩:=aB HB.out (iD _)
   go_region_held3 (fun w'=>w'.cell? ⟨w.heap.size,0,none⟩=some (.string (bs n1))∧w'.cell? ⟨w.heap.size,1,none⟩=some (.string (bs e1)))
    (go_keep)
    (first
     |(go_at_call 262;((with_reducible refine(HP.out _ (HE.out.ext HD.out)).mono ?_);rintro e w4⟨rfl,hx⟩);(replace HD:=HD.qt hx);(replace HBD:=qh (HBD.out.ext hx));(obtain⟨y0,y1,_,_⟩:=aB HBD.out (iD _));clear hx HP)
     |(go_at_call 184;((with_reducible refine(HM.out _ (HE.out.ext HD.out)).mono ?_);rintro e w5⟨rfl,hx⟩);(replace HD:=HD.qt hx);(replace HBD:=qh (HBD.out.ext hx));(obtain⟨z0,z1,_,_⟩:=aB HBD.out (iD _));clear hx HM))
   all_goals (go_wp2_with fail;go_meet;exact⟨rfl,HD.out⟩)
  case rest =>
   obtain⟨rfl,hx⟩:=hcut;have HXE:=qh hx;clear hx;go_wp2_with fail;go_ret;exact⟨rfl,HXE.out⟩
 subst a2;have HK:=qh (HC1.out rfl);rw[HK.out];clear HC1 HC2 HK;go_enter func201,ntmps201;go_upto_region 1 with fail;go_cut [9] (fun p9 wx=>p9 = .bool false∧Ext w wx)
 case first =>
  obtain⟨r0,r1,_,_⟩:=aB HB.out (iD _)
  go_region_held3 (fun w'=>w'.cell? ⟨w.heap.size,0,none⟩=some (.string (bs n1))∧w'.cell? ⟨w.heap.size,1,none⟩=some (.string (bs e1)))
   (go_keep)
   (first
    |(go_at_call 262;((with_reducible refine(HP.out _ (HE.out.ext HD.out)).mono ?_);rintro e w4⟨rfl,hx⟩);(replace HD:=HD.qt hx);(replace HBD:=qh (HBD.out.ext hx));(obtain⟨y0,y1,_,_⟩:=aB HBD.out (iD _));clear hx HP)
    |(go_at_call 184;((with_reducible refine(HM.out _ (HE.out.ext HD.out)).mono ?_);rintro e w5⟨rfl,hx⟩);(replace HD:=HD.qt hx);(replace HBD:=qh (HBD.out.ext hx));(obtain⟨z0,z1,_,_⟩:=aB HBD.out (iD _));clear hx HM))
  all_goals (go_wp2_with fail;go_meet;exact⟨rfl,HD.out⟩)
 case rest =>
  obtain⟨rfl,hx⟩:=hcut;have HXE:=qh hx;clear hx;go_wp2_with fail;go_ret;exact⟨rfl,HXE.out⟩
end
section
open Go.RowKit
attribute [local go_sem] size_bs toList_bs get_bs
def cN(l:Bs):Nat:=(strip l).length
theorem zf(l:Bs):(∃t,l=45 :: t∧cN l=t.length)∨(cN l=l.length∧∃h0:0<l.length,((l[0].toNat:Int) == 45)=false)∨(l=[]∧cN l=0):=by
 cases l with
 |nil=>exact .inr (.inr ⟨rfl,rfl⟩)
 |cons c r =>
  by_cases h:c=45
  ·subst h;exact .inl ⟨r,rfl,rfl⟩
  ·refine .inr (.inl ⟨by simp[cN,strip,isMin,h],by simp,?_⟩);have:=byte_ne (c:=c) (d:=45) h;simpa using this
end
section
open Go.RowKit
attribute [local go_sem] size_bs toList_bs
theorem uf:ay ⟨[],[]⟩=0:=by
 have:=lS 0;rwa[Bq]at this
structure OptV where
 other:Bs
 r:Fr
 p:Fr
 v:Fr
abbrev ov(o:OptV):Value := .agg #[.string (bs o.other),.string (bs o.r.num),.string (bs o.r.den),.string (bs o.p.num),.string (bs o.p.den),.string (bs o.v.num),.string (bs o.v.den)]
abbrev oc(o:OptV):Array Value:=#[.string (bs o.other),.string (bs o.r.num),.string (bs o.r.den),.string (bs o.p.num),.string (bs o.p.den),.string (bs o.v.num),.string (bs o.v.den)]
def fJ(o:OptV):Bool:=if o.other=[] then !(o.r.num.isEmpty && o.r.den.isEmpty && o.v.num.isEmpty && o.v.den.isEmpty) else o.r.num.isEmpty && o.r.den.isEmpty
def kX(L:Nat)(o:OptV):Prop:=o.other.length<=L∧o.r.num.length<=L∧o.r.den.length<=L∧o.p.num.length<=L∧o.p.den.length<=L∧o.v.num.length<=L∧o.v.den.length<=L
theorem lX{w:World}{o:OptV}(h:Blk w g 154 (oc o))(hx:Ext w w'):w'.cell? ⟨g,0,none⟩=some (.string (bs o.other))∧w'.cell? ⟨g,1,none⟩=some (.string (bs o.r.num))∧w'.cell? ⟨g,2,none⟩=some (.string (bs o.r.den))∧w'.cell? ⟨g,3,none⟩=some (.string (bs o.p.num))∧w'.cell? ⟨g,4,none⟩=some (.string (bs o.p.den))∧w'.cell? ⟨g,5,none⟩=some (.string (bs o.v.num))∧w'.cell? ⟨g,6,none⟩=some (.string (bs o.v.den)):=by
 have k:=h.ext hx;have h0:=k.cell 0;have h1:=k.cell 1;have h2:=k.cell 2;have h3:=k.cell 3;have h4:=k.cell 4;have h5:=k.cell 5;have h6:=k.cell 6;simp only[Mk,Mm,Ms]at h0 h1 h2 h3 h4 h5 h6;exact⟨h0,h1,h2,h3,h4,h5,h6⟩
theorem GZ(l:Bs)(w:World) :
  Calls prog 277 #[.string (bs l),.string ⟨#[45]⟩] w fun e w'=>e = .returned (.string (bs (strip l)))∧w=w':=by
 refine(strings_TrimPrefix (bs l) ⟨#[45]⟩ w).mono ?_;rintro e w'⟨rfl,rfl⟩;refine⟨?_,rfl⟩;rw[data_bs]
 have h2:Lib.trimPrefix l [45]=strip l:=by
  unfold Lib.trimPrefix Lib.hasPrefix strip isMin
  cases l with
  |nil=>rfl
  |cons c r =>
   have hb:(45 == c)=(c == 45):=BEq.comm;show(if(45 == c && true)=true then(c :: r).drop 1 else c :: r)=if(c == 45)=true then r else c :: r;rw[Qn,hb];rfl
 exact M6 (fun l=>Ending.returned (Value.string (bs l))) h2
theorem mE(l:Bs)(_hl:l.length<=1000000)(w:World):Calls prog 202 #[.string (bs l)] w fun e w'=>e = .returned (.int .i64 (cN l:Nat))∧Ext w w':=by
 have HT:=qh (GZ l w);have hd:cN l=(strip l).length:=rfl;rw[hd];generalize strip l=s at *;clear _hl hd;go_enter func202,ntmps202;go_wp2_with fail;refine HT.out.mono ?_;rintro e v0⟨rfl,rfl⟩;go_wp2_with fail;go_ret;exact⟨rfl,iD _⟩
abbrev jP(g1 g2:Nat):Value := .func (.func 199) #[] #[.pointer (some ⟨g1,0,none⟩),.pointer (some ⟨g2,0,none⟩)]
def bR(f:Fr)(pos:Bool):Int :=
 if cA f≠0 then 1 else if 40<cN f.num∨40<cN f.den then 4 else if cU (ay f) 0<0∨(pos=true∧cU (ay f) 0=0) then 2 else 0
structure LimF (f:Fr) (pos:Bool) (e:Int):Prop where
 c:cA f≠0->e=1
 d:cA f=0->40<cN f.num∨40<cN f.den->e=4
 s:cA f=0->¬ 40<cN f.num->¬ 40<cN f.den->cU (ay f) 0<0∨(pos=true∧cU (ay f) 0=0)->e=2
 k:cA f=0->¬ 40<cN f.num->¬ 40<cN f.den->¬ (cU (ay f) 0<0∨(pos=true∧cU (ay f) 0=0))->e=0
theorem Ln(f:Fr)(pos:Bool):LimF f pos (bR f pos):=by
 refine⟨fun a=>?_,fun a b=>?_,fun a b c d=>?_,fun a b c d=>?_⟩
 ·unfold bR;rw[Mq a]
 ·unfold bR;rw[Mj (by simpa using a),Mq b]
 ·unfold bR;rw[Mj (by simpa using a),Mj (by omega),Mq d]
 ·unfold bR;rw[Mj (by simpa using a),Mj (by omega),Mj d]
theorem qr(f:Fr)(h1:f.num.length<=9000)(h2:f.den.length<=9000)(pos:Bool)(g1 g2:Nat)(w:World)(hE:Env w)(b1:Blk w g1 4 #[.bool pos])(b2:Blk w g2 4 #[.bool false]) :
  Calls prog 199 #[fv f,.pointer (some ⟨g1,0,none⟩),.pointer (some ⟨g2,0,none⟩)] w fun e w'=>e = .returned (.int .i64 (bR f pos))∧Ext w w':=by
 have HE:=qh hE;have CK:=qh (qp f (by omega) (by omega));have cm:=rz f ⟨[],[]⟩ (by omega) (by omega) (by simp) (by simp);rw[uf]at cm;have CM:=qh cm;have lf:=Ln f pos;have F1:=qh lf.c;have F2:=qh lf.d;have F3:=qh lf.s;have F4:=qh lf.k;have D1:=qh (fun W=>mE f.num (by omega) W);have D2:=qh (fun W=>mE f.den (by omega) W);clear cm lf h1 h2 hE;generalize bR f pos=res at *;obtain⟨n,d⟩:=f;dsimp only at F1 F2 F3 F4 D1 D2;generalize cA ⟨n,d⟩=ck at *;generalize cN n=d1 at *;generalize cN d=d2 at *;generalize cU (ay ⟨n,d⟩) 0=sg at *;have HV:=qh (ID w 26 #[.string (bs n),.string (bs d)]);have HX:Hid (Ext w (w.alloc (.cells #[.string (bs n),.string (bs d)] 26))):=qh (Id _ _);have B1:=qh (b1.ext HX.out);have B2:=qh (b2.ext HX.out);clear b1 b2;go_enter func199,ntmps199;obtain⟨u0,u1,_,_⟩:=aB HV.out (iD _);go_wp2_with fail;refine(CM.out _ (HE.out.ext HX.out)).mono ?_;rintro e v1⟨rfl,hx1⟩;replace HV:=qh (HV.out.ext hx1);replace B1:=qh (B1.out.ext hx1);replace B2:=qh (B2.out.ext hx1);replace HX:=HX.qt hx1;clear hx1;clear u0 u1;obtain⟨u0,u1,_,_⟩:=aB HV.out (iD _);go_wp2_with fail;refine(CK.out _ (HE.out.ext HX.out)).mono ?_;rintro e v2⟨rfl,hx1⟩;replace HV:=qh (HV.out.ext hx1);replace B1:=qh (B1.out.ext hx1);replace B2:=qh (B2.out.ext hx1);replace HX:=HX.qt hx1;clear hx1;clear u0 u1;obtain⟨u0,u1,_,_⟩:=aB HV.out (iD _);by_cases y1:ck=0;rotate_left
 ·have g:(ck != 0)=true:=by rw[Nc];exact y1
  have e0:=F1.out y1;subst e0;clear F1 F2 F3 F4;go_wp2_with fail;go_ret;exact⟨rfl,HX.out⟩
 subst y1;go_wp2_with fail;refine(D1.out _).mono ?_;rintro e v4⟨rfl,hx1⟩;replace HV:=qh (HV.out.ext hx1);replace B1:=qh (B1.out.ext hx1);replace B2:=qh (B2.out.ext hx1);replace HX:=HX.qt hx1;clear hx1;clear u0 u1;obtain⟨u0,u1,_,_⟩:=aB HV.out (iD _);by_cases y2:40<d1
 ·have g:decide ((40:Int)<(d1:Int))=true:=by rw[MA];omega
  have e0:=F2.out (by trivial) (.inl y2);subst e0;clear F1 F2 F3 F4;go_wp2_with fail;go_ret;exact⟨rfl,HX.out⟩
 have g2:decide ((40:Int)<(d1:Int))=false:=by rw[Mi];omega
 go_wp2_with fail;refine(D2.out _).mono ?_;rintro e v6⟨rfl,hx1⟩;replace HV:=qh (HV.out.ext hx1);replace B1:=qh (B1.out.ext hx1);replace B2:=qh (B2.out.ext hx1);replace HX:=HX.qt hx1;clear hx1;clear u0 u1;obtain⟨u0,u1,_,_⟩:=aB HV.out (iD _);by_cases y3:40<d2
 ·have g:decide ((40:Int)<(d2:Int))=true:=by rw[MA];omega
  have e0:=F2.out (by trivial) (.inr y3);subst e0;clear F1 F2 F3 F4;go_wp2_with fail;go_ret;exact⟨rfl,HX.out⟩
 have g3:decide ((40:Int)<(d2:Int))=false:=by rw[Mi];omega
 have q1:=B1.out.cell 0;have q2:=B2.out.cell 0;simp only[Mk,Mm]at q1 q2;by_cases y4:sg<0
 ·have g4:decide (sg<0)=true:=Pz y4;have e0:=F3.out (by trivial) y2 y3 (.inl y4);subst e0;clear F1 F2 F3 F4;go_wp2_with fail;go_quiet (fail);go_wp2_with fail;go_ret;exact⟨rfl,HX.out.drewN _⟩
 have g4:decide (sg<0)=false:=Nv y4
 cases pos
 ·have e0:=F4.out (by trivial) y2 y3 (by simp;omega);subst e0;clear F1 F2 F3 F4;go_wp2_with fail;go_quiet (fail);go_wp2_with fail;go_ret;exact⟨rfl,HX.out.drewN _⟩
 by_cases y5:sg=0
 focus
  have g5:(sg == 0)=true:=by rw[Np];exact y5
  have e0:=F3.out (by trivial) y2 y3 (.inr ⟨rfl,y5⟩)
 rotate_left
 focus
  have g5:(sg == 0)=false:=by rw[Mt];exact y5
  have e0:=F4.out (by trivial) y2 y3 (by simp;omega)
 all_goals
  subst e0;clear F1 F2 F3 F4 y4 y5;go_wp2_with fail;go_quiet (fail);go_wp2_with fail;go_ret;exact⟨rfl,HX.out.drewN _⟩
theorem jE(p q:Bool)(w:World) :
  Calls prog 129 #[.bool p,.bool q] w fun e w'=>e = .returned (jP w.heap.size (w.heap.size+1))∧Blk w' w.heap.size 4 #[.bool p]∧Blk w' (w.heap.size+1) 4 #[.bool q]∧Ext w w':=by
 have e1:(w.alloc (.cells #[.bool p] 4)).heap.size=w.heap.size+1:=SA ..;go_enter func129,ntmps129;go_wp2_with fail;go_ret;exact⟨rfl,(ID _ _ _).alloc _,Mf _ _ _ _ e1,(Id _ _).alloc _⟩
end
section
open Go.RowKit
open Go.Maps (Keyed)
attribute [local go_sem] size_bs toList_bs
theorem eJ{H:Type}{P:Program}(w:World){ops:Array Oper}{rest:List Oper}{o:Oper}{a:Act}{Q:Exit->Act->World->Prop}
  (hg:o.guard=none) (m x v:Operand) (t:TypeId) (hop:o.op=Op.insert t m x v)
  (k e:TypeId) (K:Keyed P k) (ht:P.underlying t=some (.map k e)) (R:Value->Option (DataW H × List MemPlace)) (b n:Nat) (D:DataW H)
  (hm:a.eval m = .map (some b)) (hown:w.ownsMap P k R b n D) (hn:n<maxLen) (key val:Value) (kl:Lit) (hx:a.eval x=key) (hv:a.eval v=val) (hkey:keyOf P k key=some kl)
  (d:DataW H) (ps:List MemPlace) (hval:R val=some (d,ps))
  (hK:∀w',w'.ownsMap P k R b (n+1) (D.put kl d)->w.grownBy w' (some b)->wpList P ops Q rest (a.put o.dst undef) w') :
  wpList P ops Q (o :: rest) a w:=by
 refine wpList_plain hg fun K' hK'=>?_
 obtain⟨w',hrun,r1,r2⟩:=hown.update K ht hn hkey hval;unfold Oper.wp;simp[execOp,hop,hm,hx,hv,hrun,Result.andThen];exact hK' _ _ (hK w' r1 r2)
theorem gF:Keyed prog 3:=Go.Maps.int_keyed Pw
def RK(v:Value):Option (DataW Value × List MemPlace):=some (.held v,[])
abbrev bG(W:World)(b n:Nat)(D:DataW Value):Prop:=W.ownsMap prog 3 RK b n D
theorem bG.ext{W:World}{b n:Nat}{D:DataW Value}(h:bG W b n D)(hx:Ext W W'):bG W' b n D :=
 h.kept (row:=none) ⟨hx.os,hx.tape,hx.output,hx.size,fun i hi _=>hx.block i hi⟩ (by simp)
theorem bG.only{W:World}{b n:Nat}{D:DataW Value}(h:bG W b n D)(ho:Only g W W')(hne:b≠g):bG W' b n D:=h.kept ho (by simpa using hne)
def aH(word:Bs)(cl:Int)(bits:List Bool)(num:Value)(code:Bool):List Value := .string (bs word) :: .int .i64 cl :: (bits.map Value.bool++[num,.bool code])
abbrev kv(word:Bs)(cl:Int)(bits:List Bool)(num:Value)(code:Bool):Value := .agg (aH word cl bits num code).toArray
theorem rE(word:Bs)(cl:Int)(bits:List Bool)(num:Value)(code:Bool)(i:Nat)(u:Bool)(h:i<bits.length) :
  (aH word cl bits num code).toArray.setIfInBounds (2+i) (.bool u)=(aH word cl (bits.set i u) num code).toArray:=by
 unfold aH;rw[Q6 2 i,N6,PN,PN,List.set_append_left _ _ (by simpa using h),Qd]
theorem qu(word:Bs)(cl:Int)(bits:List Bool)(num:Value)(code:Bool)(i:Nat)(h:i<bits.length) :
  (aH word cl bits num code).toArray[2+i]? = some (.bool (bits[i]'h)):=by
 unfold aH;rw[Q6 2 i,Mk,Ms,Ms,OY (by simpa using h),Oo,Mr h];rfl
theorem B6(word:Bs)(cl:Int)(bits:List Bool)(num:Value)(code:Bool)(h:bits.length=13):(aH word cl bits num code).toArray[16]? = some (.bool code):=by
 unfold aH;rw[Mk,Ms,Ms,NK (by simp[h])];simp[h]
theorem xO{l:List Bool}(h:l.length=13):∃b0 b1 b2 b3 b4 b5 b6 b7 b8 b9 b10 b11 b12,l=[b0,b1,b2,b3,b4,b5,b6,b7,b8,b9,b10,b11,b12]:=by
 match l,h with
 |[b0,b1,b2,b3,b4,b5,b6,b7,b8,b9,b10,b11,b12],_=>exact⟨b0,b1,b2,b3,b4,b5,b6,b7,b8,b9,b10,b11,b12,rfl⟩
def aQ(ms:List Nat)(b:List Bool):List Bool:=ms.foldl (fun b i=>b.set i true) b
theorem j0(ms:List Nat):∀b,(aQ ms b).length=b.length:=by
 induction ms with
 |nil=>intro b;rfl
 |cons i r ih=>intro b;show(aQ r (b.set i true)).length=_;rw[ih,MM]
theorem oY{ms:List Nat}(h:k<ms.length)(b:List Bool):aQ (ms.take (k+1)) b=(aQ (ms.take k) b).set (ms[k]'h) true:=by
 unfold aQ;rw[List.take_add_one,Mr h,PU];rfl
def bh:List Bool:=[false,false,false,false,false,false,false,false,false,false,false,false,false]
theorem rF{w:World}{cl:Int}{num:Value}{code b0 b1 b2 b3 b4 b5 b6 b7 b8 b9 b10 b11 b12:Bool}(h:Blk w g 103 (aH word cl [b0,b1,b2,b3,b4,b5,b6,b7,b8,b9,b10,b11,b12] num code).toArray) :
  w.cell? ⟨g,0,none⟩=some (.string (bs word))∧w.cell? ⟨g,1,none⟩=some (.int .i64 cl)∧w.cell? ⟨g,2,none⟩=some (.bool b0)∧w.cell? ⟨g,3,none⟩=some (.bool b1)∧w.cell? ⟨g,4,none⟩=some (.bool b2)∧w.cell? ⟨g,5,none⟩=some (.bool b3)∧w.cell? ⟨g,6,none⟩=some (.bool b4)∧w.cell? ⟨g,7,none⟩=some (.bool b5)∧w.cell? ⟨g,8,none⟩=some (.bool b6)∧w.cell? ⟨g,9,none⟩=some (.bool b7)∧w.cell? ⟨g,10,none⟩=some (.bool b8)∧w.cell? ⟨g,11,none⟩=some (.bool b9)∧w.cell? ⟨g,12,none⟩=some (.bool b10)∧w.cell? ⟨g,13,none⟩=some (.bool b11)∧w.cell? ⟨g,14,none⟩=some (.bool b12)∧w.cell? ⟨g,15,none⟩=some num∧w.cell? ⟨g,16,none⟩=some (.bool code):=by
 refine⟨h.cell 0,h.cell 1,h.cell 2,h.cell 3,h.cell 4,h.cell 5,h.cell 6,h.cell 7,h.cell 8,h.cell 9,h.cell 10,h.cell 11,h.cell 12,h.cell 13,h.cell 14,h.cell 15,h.cell 16⟩
theorem fK{w:World}(h:Blk w g 103 xs.toArray)(hl:xs.length=ys.length):Blk (w.setCells g 0 ys) g 103 ys.toArray:=by
 have:=Blk.sets ys 0 w xs h (by omega);unfold lsplice at this
 rw[PJ,ML,Nt (by omega),N0]at this
 exact this
theorem iQ{fn:Func}{a:Tmp}(h:fn.results=#[.cell a 103])(tmps:Array Value)(w:World)(g:Nat){cl:Int}{num:Value}{code:Bool}{bits:List Bool}(hl:bits.length=13)(ha:tmps.getD a undef = .pointer (some ⟨g,0,none⟩))(hb:Blk w g 103 (aH word cl bits num code).toArray) :
  (results fn tmps).run prog w = .ok (kv word cl bits num code) w:=by
 obtain⟨b0,b1,b2,b3,b4,b5,b6,b7,b8,b9,b10,b11,b12,rfl⟩:=xO hl;obtain⟨q0,q1,q2,q3,q4,q5,q6,q7,q8,q9,q10,q11,q12,q13,q14,q15,q16⟩:=rF hb;unfold results;rw[h];simp only[Ob,OG,OO,ha];go_simp;rfl
end
section
open Go.RowKit
attribute [local go_sem] size_bs toList_bs
theorem kk(word:Bs)(cl:Int)(bits:List Bool)(num:Value)(code:Bool)(hn:num.oneCell'=true):(aH word cl bits num code).toArray.all (·.oneCell')=true:=by
 unfold aH;simp[Value.oneCell'];exact hn
theorem gj(word:Bs)(cl:Int)(bits:List Bool)(num:Value)(code:Bool)(h:bits.length=13):(aH word cl bits num code).length=17:=by
 unfold aH;simp[h]
theorem j5{w:World}(h:Blk w g 103 xs.toArray):w.rangeAt g 0 xs:=fun j v hv=>by rw[MV,h.cell j,Mk];exact hv
theorem eW{w:World}{n:Nat}(h:Blk w g 103 xs.toArray)(hx:n=xs.length):w.there g 0 n:=fun j hj=>by
 have hj2:j<xs.length:=by omega
 rw[MV,h.cell j,h.frozen j,Mk,Mr hj2];exact⟨rfl,rfl⟩
theorem B7(word:Bs)(cl:Int)(ms:List Nat)(A:Option Addr)(c:Nat)(w:World)(hM:RdI w A ms)(hb:∀x ∈ ms,x<13)(hn:ms.length<=1000) :
  Calls prog 130 #[.string (bs word),.int .i64 cl,.map none,.slice A ms.length c] w fun e w'=>e = .returned (kv word cl (aQ ms bh) (.map none) false)∧Ext w w':=by
 have HM:=qh hM;have HB:=qh hb;obtain⟨bits,hbits⟩:∃b,b=bh:=⟨_,rfl⟩;have HL:Hid (bits.length=13):=qh (by rw[hbits];rfl);have G8:=qh ((ID w 103 (aH [] 0 bh (.map none) false).toArray).alloc (.cells (aH word cl bits (.map none) false).toArray 103));have G9:=qh (Mf (w.alloc (.cells (aH [] 0 bh (.map none) false).toArray 103)) 103 (aH word cl bits (.map none) false).toArray (w.heap.size+1) (by simp));have HX:Hid (Ext w ((w.alloc (.cells (aH [] 0 bh (.map none) false).toArray 103)).alloc (.cells (aH word cl bits (.map none) false).toArray 103))):=qh ((Id _ _).alloc _);have hrg:∀wx:World,(Instr.range 101 (.map none)).run prog wx=_:=fun wx=>run_range_nilMap wx 101 3 163 Pa
 have hnx:∀(wx:World) ty,(Instr.next (.pointer (some ⟨wx.heap.size,0,none⟩)) false ty).run prog (wx.alloc (.mapIter none 0 #[] 0))=_:=fun wx ty=>run_next_nilMap wx ty 0 0 #[]
 rw[hbits]at G8 G9 HX;clear hM hb;go_enter func130,ntmps130;go_upto_region 2 with fail;dsimp only[aH,bh,MQ,Qh,MZ,ML]at G8 G9 HX
 generalize hW2:(w.alloc (.cells #[Value.string { data:=#[] },Value.int IntKind.i64 0,Value.bool false,Value.bool false,Value.bool false,Value.bool false,Value.bool false,Value.bool false,Value.bool false,Value.bool false,Value.bool false,Value.bool false,Value.bool false,Value.bool false,Value.bool false,Value.map none,Value.bool false] 103)).alloc
      (Obj.cells #[Value.string (bs word),Value.int IntKind.i64 cl,Value.bool false,Value.bool false,Value.bool false,Value.bool false,Value.bool false,Value.bool false,Value.bool false,Value.bool false,Value.bool false,Value.bool false,Value.bool false,Value.bool false,Value.bool false,Value.map none,Value.bool false] 103)=W2
 replace HX:Hid (Ext w W2):=by rw[←hW2];exact HX
 replace G8:Hid (Blk W2 w.heap.size 103 (aH [] 0 bh (.map none) false).toArray):=by rw[←hW2];exact G8
 replace G9:Hid (Blk W2 (w.heap.size+1) 103 (aH word cl bits (.map none) false).toArray):=by rw[←hW2,hbits];exact G9
 have hrg2:=hrg W2;have hnx2:=hnx W2;clear hW2 hrg hnx;go_wp2_with fail;refine N4 1 ?_;rw[NN];go_wp2_with fail;replace HX:=qh (HX.out.alloc (.mapIter none 0 #[] 0));replace G8:=qh (G8.out.alloc (.mapIter none 0 #[] 0));replace G9:=qh (G9.out.alloc (.mapIter none 0 #[] 0));clear hrg2 hnx2;go_loopw [28,12] (fun i _ wr=>∃k:Nat,k<=ms.length∧i = .int .i64 k∧Ext w wr∧Blk wr w.heap.size 103 (aH [] 0 bh (.map none) false).toArray∧Blk wr (w.heap.size+1) 103 (aH word cl (aQ (ms.take k) bits) (.map none) false).toArray) (fun i _ _=>ms.length-(intOf i).toNat)
 case atStart=>exact⟨0,by omega,rfl,HX.out,G8.out,G9.out⟩
 case round =>
  clear HX G8 G9;obtain⟨k,hk,rfl,hx,h8,h9⟩:=hrel;have HX:=qh hx;have G8:=qh h8;have G9:=qh h9;clear hx h8 h9;by_cases hlt:k<ms.length
  ·obtain⟨b,o,rfl,hb,c0⟩:=(HM.out.ext HX.out).at_ hlt;have hx13:=HB.out _ (Ml hlt);have hlen:(aQ (ms.take k) bits).length=13:=by rw[j0];exact HL.out
   have hs:aQ (ms.take (k+1)) bits=(aQ (ms.take k) bits).set (ms[k]'hlt) true:=oY hlt bits;have N9:=G9.out.set_ (2+ms[k]'hlt) (.bool true);rw[rE _ _ _ _ _ _ _ (by omega),←hs]at N9;have q0:=G9.out.cell (2+ms[k]'hlt);rw[qu _ _ _ _ _ _ (by omega)]at q0;have f:=fun k=>G9.out.frozen k
   obtain⟨bb,q⟩:∃bb,wr.cell? ⟨w.heap.size+1,2+ms[k]'hlt,none⟩=some (.bool bb):=⟨_,q0⟩;clear q0;have N9h:=qh N9;clear N9 hs;generalize ms[k]'hlt=x at *;have hki:(k:Int)<(ms.length:Int):=by omega
   have hx1:(x:Int)<13:=by omega
   have N8:=qh (G8.out.far (p:=⟨w.heap.size+1,2+x,none⟩) (by simp) (.bool true));have NX:=qh (HX.out.setCell (p:=⟨w.heap.size+1,2+x,none⟩) (by simp) (.bool true));clear hlen;go_wp2_with fail;exact⟨⟨k+1,by omega,by go_num,NX.out,N8.out,N9h.out⟩,by simp[intOf];omega⟩
  ·obtain rfl:k=ms.length:=by omega
   have hlen:(aQ (ms.take ms.length) bits).length=13:=by rw[j0];exact HL.out
   rw[MK]at G9 hlen;have hrg:=j5 G9.out;have hth:wr.there w.heap.size 0 (aH word cl (aQ ms bits) (.map none) false).toArray.size:=eW G8.out (by rw[Nh,gj _ _ _ _ _ hlen];rfl);have hs1:(prog.info? 103).map (·.size)=some (aH word cl (aQ ms bits) (.map none) false).length:=by rw[gj _ _ _ _ _ hlen];kernel_rfl
   have hs2:(prog.info? 103).map (·.size)=some (aH word cl (aQ ms bits) (.map none) false).toArray.size:=hs1;have hoc:=kk word cl (aQ ms bits) (.map none) false rfl;have O8:=qh (fK G8.out (ys:=aH word cl (aQ ms bits) (.map none) false) (by unfold aH;simp[hlen,bh]));have HS:=qh (ext_sets (aH word cl (aQ ms bits) (.map none) false) 0 wr () HX.out (Mn _));have HR:=qh hlen;clear hlen hk hlt HB HM G8 G9;go_wp2_with (first|refine Oh rfl 103 _ rfl (w.heap.size+1) 0 rfl _ _ hrg Q8 rfl hs1 ?_|refine Oy rfl 103 _ _ rfl w.heap.size 0 _ rfl rfl hth hs2 hoc ?_|fail);refine MI (iQ rfl _ _ w.heap.size HR.out rfl O8.out) rfl ?_;exact⟨by rw[hbits],HS.out⟩
end
section
open Go.RowKit
open Go.Maps (Keyed)
attribute [local go_sem] size_bs toList_bs
def xP(D:DataW Value):Prop:=∀x:Int,Maps.has D (.int .i64 x)=true->0<=x∧x<13
theorem zg:xP (.map []):=fun x h=>by simp[Maps.has]at h
theorem zh{D:DataW Value}(h:xP D)(k:Int)(h0:0<=k∧k<13)(d:DataW Value):xP (D.put (.int .i64 k) d):=fun x hx=>by
 by_cases e:x=k
 ·subst e;exact h0
 ·rw[Q9 (by simpa using e)]at hx;exact h x hx
theorem I7(k:Int)(h:0<=k∧k<100):(Lit.int .i64 k).wf=true:=WalkArith.wf_i64 (by omega)
theorem mF(k:Int)(h:0<=k∧k<100):keyOf prog 3 (.int .i64 k)=some (.int .i64 k):=Go.Maps.keyOf_int_mk Pw (I7 k h)
theorem G0{w:World}(cs:List Value)(ms:List Nat)(h:cs=icells ms):RdI (w.alloc (.cells cs.toArray 3)) (some ⟨w.heap.size,0,none⟩) ms:=by
 subst h;exact Reads.lit (by simp[icells])
abbrev fL:Value := .func (.func 130) #[] #[]
abbrev FT:TypeId:=166
abbrev MT:TypeId:=101
abbrev qw:TypeId:=163
end
section
open Go.RowKit
section
variable {P:Program} {ops:Array Oper} {Q:Exit->Act->World->Prop} {md:Region.Mode}
theorem en{Inv:Nat->Array Bool->Act->World->Prop}(hend:∀f listed a w,Inv f listed a w->Region.ready md ops listed=[]->Q .normal a w)
  (hz:∀listed a w,Inv 0 listed a w->Region.ready md ops listed=[])
  (hstep:∀f listed a w i,Inv (f+1) listed a w->i ∈ Region.ready md ops listed->wpOp P ops Q i (Inv f (listed.setIfInBounds i true)) a w) :
  ∀f listed a w,Inv f listed a w->wpAny P md ops Q f listed a w
 |0,listed,a,w,h=>⟨hz listed a w h,hend 0 listed a w h (hz listed a w h)⟩
 |f+1,listed,a,w,h=>⟨hend (f+1) listed a w h,fun i hi=>wpOp_mono (fun a' w' h'=>en hend hz hstep f _ a' w' h') (hstep f listed a w i h hi)⟩
theorem bP{listed:Array Bool}{i:Nat}(hi:i ∈ Region.ready md ops listed):i<ops.size:=by
 unfold Region.ready at hi;rw[Og,List.mem_range]at hi;exact hi.1
theorem dE{listed:Array Bool}{i:Nat}(hi:i ∈ Region.ready md ops listed):listed.getD i true=false:=by
 unfold Region.ready at hi;rw[Og,MJ]at hi;simpa using hi.2.1
theorem eX{listed:Array Bool}{i:Nat}(hi:i ∈ Region.ready md ops listed){o:Oper}(ho:ops[i]? = some o)(hp:(o.after.toList.any fun e=>e.on == p && Region.binds md e)=true):listed.getD p false=true:=by
 unfold Region.ready at hi;rw[Og,MJ,ho]at hi;have h:=hi.2.2;simp only[Option.map_some,Option.getD_some]at h;rw[Rx]at hp;obtain⟨e,he,hp⟩:=hp;rw[Rz]at h;have:=h e (RQ.1 he);simp only[MJ,Np]at hp;rw[hp.2]at this
 simp only[QP,Bool.false_or]at this
 rw[hp.1]at this
 exact this
theorem eu{listed:Array Bool}(h:listed.toList.count false=0)(_hs:listed.size=ops.size):Region.ready md ops listed=[]:=by
 unfold Region.ready;rw[List.filter_eq_nil_iff];intro i hi hc;rw[MJ]at hc;have h1:listed.getD i true=false:=by simpa using hc.1
 rw[List.count_eq_zero]at h;apply h;unfold Array.getD at h1;split at h1
 ·rename_i hlt
  have:listed[i]=false:=h1;rw[←this];exact RQ.2 (Array.getElem_mem hlt)
 ·cases h1
theorem count_set{listed:Array Bool}{i:Nat}(hi:listed.getD i true=false):(listed.setIfInBounds i true).toList.count false+1=listed.toList.count false:=by
 unfold Array.getD at hi;split at hi
 ·rename_i hlt
  have e:listed.toList[i]'(by simpa using hlt)=false:=by rw[Array.getElem_toList];exact hi
  rw[Array.toList_setIfInBounds,List.count_set (by simpa using hlt),e]
  have h0:0<listed.toList.count false:=by
   rw[List.count_pos_iff,←e];exact Ml _
  have h1:((true:Bool) == false)=false:=rfl;simp only[beq_self_eq_true,h1,if_true,Bool.false_eq_true,if_false];omega
 ·cases hi
theorem cF{listed:Array Bool}{i:Nat}(h:(listed.setIfInBounds i true).getD j false=true):j=i∨listed.getD j false=true:=by
 by_cases e:j=i
 ·exact .inl e
 ·right
  unfold Array.getD at h ⊢;split at h
  ·rename_i hlt
   rw[Pb]at hlt;rw[dif_pos hlt];have h2:(listed.setIfInBounds i true)[j]'(by rw[Pb];exact hlt)=true:=h;rw[Array.getElem_setIfInBounds_ne _ (by omega)]at h2;exact h2
  ·cases h
theorem ny{listed:Array Bool}(hacc:((List.range ops.size).all fun i=>match ops[i]? with|some o=>o.after.toList.all (fun e=>decide (e.on<i))|none=>true)=true)(h:Region.ready md ops listed=[])(hs:listed.size=ops.size) :
  ∀i,i<ops.size->listed.getD i false=true:=by
 intro i;induction i using Nat.strongRecOn with
 |ind i ih =>
  intro hi
  cases hl:listed.getD i false
  ·exfalso
   have hl2:listed.getD i true=false:=by
    have hlt:i<listed.size:=by omega
    rw[Mw,NO hlt]at hl ⊢;exact hl
   rw[Nm]at hacc;have h1:=hacc i (RU.2 hi)
   have:i ∈ Region.ready md ops listed:=by
    unfold Region.ready;rw[Og,MJ];refine⟨RU.2 hi,by rw[hl2];rfl,?_⟩;rw[NO hi]at h1 ⊢;simp only[Option.map_some,Option.getD_some];rw[Rz];intro e he;rw[Nm]at h1;have h2:=of_decide_eq_true (h1 e (RQ.2 he));rw[ih e.on h2 (by omega),Bool.or_true]
   rw[h]at this
   cases this
  ·rfl
end
end
section
open Go.RowKit Go.Shelf
attribute [local go_sem] size_bs toList_bs Oper.semAt_some
theorem af(a:Act)(m:Nat):a.eval (.tmp m)=a.tmps.getD m undef:=rfl
theorem mG{base:Array Value}{who:Nat->Option Nat}{val:Nat->Value}:cE base who val (Array.replicate m false)={ tmps:=base,defers:=[] }:=by
 have key:(cE base who val (Array.replicate m false)).tmps=base:=by
  unfold cE;dsimp only;apply RI
  ·simp
  ·intro s h1 h2;rw[Py];have hb:base.getD s undef=base[s]:=by rw[Mw,NO h2];rfl
   cases hq:who s with
   |none=>exact hb
   |some i =>
    dsimp only
    have hl:(Array.replicate m false).getD i false=false:=by
     rw[Mw,Qi];split <;> rfl
    rw[hl,Mj (by decide)];exact hb
 show({ tmps:=(cE base who val (Array.replicate m false)).tmps,defers:=[] }:Act)=_;rw[key]
def iR(d m:Nat)(s:Nat):Option Nat:=if d<=s∧s<d+m then some (s-d) else none
theorem kI{d i:Nat}(h:i<m):iR d m (d+i)=some i:=by
 unfold iR;rw[Mq ⟨by omega,by omega⟩];congr 1;omega
theorem kY{d i:Nat}(h:iR d m s=some i):s=d+i:=by
 unfold iR at h;split at h
 ·injection h with h;omega
 ·cases h
theorem Lo{i:Nat}(_h:i<m):(Array.ofFn (n:=m) fun j=>decide (j.val<i)).setIfInBounds i true=Array.ofFn (n:=m) fun j=>decide (j.val<i+1):=by
 apply RI
 ·simp
 ·intro s h1 h2;have hs:s<m:=by simpa using h2
  rw[R5 (by simpa using hs),Py,Py];by_cases e:i=s
  ·subst e;rw[Mq rfl];simp
  ·rw[Mj e];simp;omega
theorem sG{base:Array Value}{val:Nat->Value}{d m:Nat}:∀i,i<=m->cE base (iR d m) val (Array.ofFn (n:=m) fun j=>decide (j.val<i))=(List.range i).foldl (fun a j=>a.put (some (d+j)) (val (d+j))) { tmps:=base,defers:=[] }
 |0,_=>by
  have e:(Array.ofFn (n:=m) fun j=>decide (j.val<0))=Array.replicate m false:=by
   apply RI
   ·simp
   ·intro s h1 h2;simp
  rw[e,mG];rfl
 |i+1,h=>by
  rw[Sw,PU,←sG (m:=m) i (by omega),←Lo (m:=m) (i:=i) (by omega)];exact(nw (kI (by omega)) (fun s hs=>kY hs) (by simp;omega)).symm
theorem sH{base:Array Value}{val:Nat->Value}{d:Nat}:cE base (iR d m) val (Array.replicate m true)=(List.range m).foldl (fun a j=>a.put (some (d+j)) (val (d+j))) { tmps:=base,defers:=[] }:=by
 rw[←sG (m:=m) m (Mn _)];congr 1
 apply RI
 ·simp
 ·intro s h1 h2;simp
section
variable {F:Fence} {n:Nat} {P:Program} {ops:Array Oper} {Q:Exit->Act->World->Prop}
theorem il{listed:Array Bool}{i:Nat}(h:listed.getD j false=true):(listed.setIfInBounds i true).getD j false=true:=by
 rw[Mw]at h ⊢;rw[QJ];split
 ·rename_i e
  subst e;split
  ·rfl
  ·rename_i hge
   rw[OS (by omega)]at h
   cases h
 ·exact h
theorem ug(hfn:∀k,F.fn k)(hdp:F.depth.isSome=false)(hro:F.round=none){i:Nat}{o:Oper}{K:Act->World->Prop}{a:Act}{w:World}(ho:ops[i]? = some o)(hg:o.guard=none)(l fn:Nat)(tmps:Array Value)(assign body:Code){R:Ending->World->Prop}
  (hrun:(execOp a.eval o).run P w = .ok (.round l fn tmps assign body) w) (hR:RoundIn F (n-1) P l fn tmps assign body w R) (hK:∀e W,R e W->∃v,e = .returned v∧K (a.put o.dst v) W):wpOpIn F n P ops Q i K a w:=by
 unfold wpOpIn;rw[ho];dsimp only;rw[Mq (by simp[Region.wanted,hg])];refine⟨fun f _=>hfn f,?_⟩;rw[hro];show Oper.uponIn F n P o a K Q ((execOp a.eval o).run P w);rw[hrun];refine⟨fun h=>(by rw[hdp]at h;cases h),hR.mono ?_⟩;intro e W hr;obtain⟨v,rfl,hk⟩:=hK e W hr;exact hk
structure ChInv (ops:Array Oper) (base:Array Value) (val:Nat->Value) (d c:Nat) (W:World) (J:World->Prop) (f:Nat) (listed:Array Bool) (a:Act) (w:World):Prop where
 size:listed.size=ops.size
 cnt:listed.toList.count false<=f
 act:a=cE base (iR d ops.size) val listed
 cl:∀i o e,ops[i]? = some o->listed.getD i false=true->e ∈ o.after.toList->Region.binds .any e=true->listed.getD e.on false=true
 wld:(listed.getD c false=false∧w=W)∨(listed.getD c false=true∧J w)
section
variable {base:Array Value} {val:Nat->Value} {d c f i:Nat} {W w:World} {J:World->Prop} {listed:Array Bool} {a:Act} {o:Oper}
theorem ChInv.need(h:ChInv ops base val d c W J (f+1) listed a w)(hd:d+ops.size<=base.size)(hi:i ∈ Region.ready .any ops listed)(ho:ops[i]? = some o)(p:Nat)(hps:p<ops.size)(hp:(o.after.toList.any fun e=>e.on == p && Region.binds .any e)=true):a.tmps.getD (d+p) undef=val (d+p):=by
 rw[h.act];exact sF (by omega) (kI hps) (eX hi ho hp)
theorem ChInv.base'(h:ChInv ops base val d c W J f listed a w)(hs:s<base.size)(hn:s<d∨d+ops.size<=s):a.tmps.getD s undef=base.getD s undef:=by
 rw[h.act];exact qo hs (by unfold iR;rw[Mj (by omega)])
theorem ChInv.step(h:ChInv ops base val d c W J (f+1) listed a w)(hi:i ∈ Region.ready .any ops listed)(ho:ops[i]? = some o)(hdst:o.dst=some (d+i))(w':World)(hw:(i≠c∧w'=w)∨(i=c∧J w')) :
  ChInv ops base val d c W J f (listed.setIfInBounds i true) (a.put o.dst (val (d+i))) w':=by
 have hlt:=bP hi;have hs:=h.size;have hc:=count_set (dE hi);have hcn:=h.cnt;refine⟨by rw[Pb];exact hs,by omega,?_,?_,?_⟩
 ·rw[hdst,h.act];exact nw (kI hlt) (fun s hs=>kY hs) (by omega)
 ·intro j oj e hj hl he hb;rcases cF hl with e1|e1
  ·subst e1;rw[ho]at hj
   cases hj;refine il (eX hi ho ?_);rw[Rx];exact⟨e,he,by rw[hb];simp⟩
  ·exact il (h.cl j oj e hj e1 he hb)
 ·rcases hw with ⟨hne,rfl⟩ | ⟨rfl,hj⟩
  ·rcases h.wld with ⟨h1,h2⟩ | ⟨h1,h2⟩
   ·left
    refine⟨?_,h2⟩
    cases hq:(listed.setIfInBounds i true).getD c false
    ·rfl
    ·rcases cF hq with e|e
     ·exact absurd e.symm hne
     ·rw[h1]at e;cases e
   ·exact .inr ⟨il h1,h2⟩
  ·right
   refine⟨?_,hj⟩;rw[Mw,OQ (by omega)];rfl
theorem ChInv.before(h:ChInv ops base val d c W J f listed a w)(hi:i ∈ Region.ready .any ops listed)(hic:i<c)(_hsz:c<ops.size)
  (hdep:∀L:Nat->Prop,(∀i o e,ops[i]? = some o->L i->e ∈ o.after.toList->Region.binds .any e=true->L e.on)->L c->∀i,i<c->L i):w=W:=by
 rcases h.wld with ⟨_,h2⟩ | ⟨h1,_⟩
 ·exact h2
 ·have:=hdep (fun i=>listed.getD i false=true) (fun i o e ho hl he hb=>h.cl i o e ho hl he hb) h1 i hic;have hn:=dE hi;rw[Mw]at this hn
  have hlt:=bP hi;have hs:=h.size;rw[NO (by omega)]at this hn
  exact absurd (hn.symm.trans this) (by decide)
theorem ChInv.at_call(h:ChInv ops base val d c W J f listed a w)(hi:c ∈ Region.ready .any ops listed):w=W:=by
 rcases h.wld with ⟨_,h2⟩ | ⟨h1,_⟩
 ·exact h2
 ·have hn:=dE hi;have hlt:=bP hi;have hs:=h.size;rw[Mw]at h1 hn;rw[NO (by omega)]at h1 hn;exact absurd (hn.symm.trans h1) (by decide)
theorem ChInv.start(J:World->Prop):ChInv ops base val d c W J ops.size (Array.replicate ops.size false) { tmps:=base,defers:=[] } W:=by
 have hf:∀i,(Array.replicate ops.size false).getD i false=false:=fun i=>by
  rw[Mw,Qi];split <;> rfl
 refine⟨by simp,by rw[Rt,Q0];exact Mn _,mG.symm,?_,.inl ⟨hf c,rfl⟩⟩;intro i o e _ hl;rw[hf i]at hl;cases hl
theorem ChInv.fin(h:ChInv ops base val d c W J f listed a w)(hc:c<ops.size)(hr:Region.ready .any ops listed=[])
  (hacc:((List.range ops.size).all fun i=>match ops[i]? with|some o=>o.after.toList.all (fun e=>decide (e.on<i))|none=>true)=true) :
  a=(List.range ops.size).foldl (fun a j=>a.put (some (d+j)) (val (d+j))) { tmps:=base,defers:=[] }∧J w:=by
 have hall:=ny hacc hr h.size;refine⟨?_,?_⟩
 ·rw[h.act,ue h.size hall,sH]
 ·rcases h.wld with ⟨h1,_⟩ | ⟨_,h2⟩
  ·rw[hall c hc]at h1;cases h1
  ·exact h2
end
end
end
end Go.Proofs.YtaegjkllenlfpaaGreatDoor
