/- The seat's texts, part YL. -/
import Derived.Test.YtaegjkllenlfpaaGreatDoorY15
set_option maxRecDepth 100000
set_option maxHeartbeats 8000000
namespace Go.Proofs.YtaegjkllenlfpaaGreatDoor
open Tryz
variable {w w':World}{k i j d fn:Nat}{P:Program}{ops:Array Oper}{Q:Exit->Act->World->Prop}{K:Act->World->Prop}{a:Act}{tmps args:Array Value}
section
open Go.RowKit Go.Shelf
attribute [local go_sem] size_bs toList_bs
def sY(w:World)(A:Option Addr)(ds:List Int):Prop:=Reads w 1 A ds.length (ds.map (fun d=>Value.int .i64 d))
theorem sY.ext{A:Option Addr}{ds:List Int}(h:sY w A ds)(he:Ext w w'):sY w' A ds:=Reads.ext h he
theorem sY.at_{A:Option Addr}{ds:List Int}(h:sY w A ds)(hk:k<ds.length):∃b o,A=some ⟨b,o,none⟩∧b<w.heap.size∧w.cell? ⟨b,o+k,none⟩=some (.int .i64 (ds[k]'hk)):=by
 obtain⟨b,o,rfl,hb⟩:=Reads.at_ h (by omega);refine⟨b,o,rfl,hb,Reads.cell h ?_⟩;rw[Oo,Mr hk];rfl
theorem Dt(kf:Nat)(cb:Array Value)(ek:∀args w,(callFunc kf args).run prog w = .ok (.enter kf args) w)(p:Int->Bool)(ls:List Int)(A:Option Addr)(c:Nat)(w:World)(hA:sY w A ls)(hn:ls.length<=1000000)
  (hF:∀x ∈ ls,∀W,Ext w W->Calls prog kf (#[.int .i64 x]++cb) W fun e w'=>e = .returned (.bool (p x))∧Ext W w') :
  Calls prog 272 #[.slice A ls.length c,.func (.func kf) #[] cb] w fun e w'=>e = .returned (.int .i64 (bO p ls))∧Ext w w':=by
 have HA:=qh hA;have HF:=qh hF;clear hA hF;go_enter func272,ntmps272;go_wp2_with fail;go_loopw [8,5] (fun i _ wr=>∃k:Nat,k<=ls.length∧i = .int .i64 k∧(∀x ∈ ls.take k,p x=false)∧Ext w wr) (fun i _ _=>ls.length-(intOf i).toNat)
 case atStart=>exact⟨0,by omega,rfl,by simp,iD _⟩
 case round =>
  obtain⟨k,hk,rfl,hz,hx⟩:=hrel;have HZ:=qh hz;have HX:=qh hx;clear hz hx;by_cases hlt:k<ls.length
  ·obtain⟨b,o,rfl,hb,c0⟩:=(HA.out.ext HX.out).at_ hlt;have HC:=qh (HF.out (ls[k]'hlt) (Ml _));have HN:Hid (p (ls[k]'hlt)=false->∀x ∈ ls.take (k+1),p x=false):=qh (fun h=>kG hlt HZ.out h);have HI:Hid (p (ls[k]'hlt)=true->bO p ls=k):=qh (fun h=>lV hlt HZ.out h);generalize (ls[k]'hlt)=x at *;go_wp2_with fail;refine(HC.out _ HX.out).mono ?_;rintro e w1⟨rfl,hx1⟩;replace HX:=HX.qt hx1;clear hx1
   cases hp:p x
   ·have HN1:=qh (HN.out hp);clear hp;go_wp2_with fail;go_roundw
    case rel=>exact⟨k+1,by omega,by go_num,HN1.out,HX.out⟩
    case measure=>simp[intOf];omega
   ·have HI1:=qh (HI.out hp);clear hp;go_wp2_with fail;go_ret;exact⟨by rw[HI1.out];rfl,HX.out⟩
  ·have HI:Hid (bO p ls = -1):=qh (kF (by have:=HZ.out;rwa[Mv (by omega)]at this));go_wp2_with fail;go_ret;exact⟨by rw[HI.out];rfl,HX.out⟩
theorem Al(kf:Nat)(cb:Array Value)(ek:∀args w,(callFunc kf args).run prog w = .ok (.enter kf args) w)(p:Int->Bool)(ls:List Int)(A:Option Addr)(c:Nat)(w:World)(hA:sY w A ls)(hn:ls.length<=1000000)
  (hF:∀x ∈ ls,∀W,Ext w W->Calls prog kf (#[.int .i64 x]++cb) W fun e w'=>e = .returned (.bool (p x))∧Ext W w') :
  Calls prog 188 #[.slice A ls.length c,.func (.func kf) #[] cb] w fun e w'=>e = .returned (.bool (ls.any p))∧Ext w w':=by
 have HI:=qh (Dt kf cb ek p ls A c w hA hn hF);have HZ:Hid (decide (0<=bO p ls)=ls.any p):=qh (nX p ls);generalize ls.any p=b at *;generalize bO p ls=z at *;clear hA hF;go_enter func188,ntmps188;go_wp2_with fail;refine HI.out.mono ?_;rintro e w1⟨rfl,hx1⟩;have HX:=qh hx1;clear hx1;go_wp2_with fail;go_ret;exact⟨by rw[←HZ.out];rfl,HX.out⟩
theorem KW(l:Bs)(hl:l.length<=100000):bJ 106 #[.string (bs l)] (.bool (isId l)):=by
 intro w hE;have HE:=qh hE;have hcl:=m9 l;have HC:=qh (fun W h=>px l W (by omega) h);have HN:=qh (fun W=>gc (cut47 l).1 W (by omega));unfold isId;rcases NZ (∃v,Lib.atoiAll (cut47 l).2 = .ok v) with ⟨v,hk⟩|hk
 ·have HA:=qh (fun W=>rj (cut47 l).2 v hk (by omega) W);have HP:=qh (numOK_prog hk);rw[HP.out];generalize (cut47 l).1=nm at *;generalize (cut47 l).2=nu at *;generalize isName nm=ok at *;clear hk hcl hE HP
  cases ok
  ·rw[OT];go_enter func106,ntmps106;go_wp2_with fail;refine(HC.out _ HE.out).mono ?_;rintro e w1⟨⟨b,rfl⟩,hx1⟩;have HX:=qh hx1;clear hx1;go_wp2_with fail;refine(HA.out _).mono ?_;rintro e w2⟨rfl,hx1⟩;replace HX:=HX.qt hx1;clear hx1;go_wp2_with fail;refine(HN.out _).mono ?_;rintro e w3⟨rfl,hx1⟩;replace HX:=HX.qt hx1;clear hx1;go_wp2_with fail;go_ret;exact⟨rfl,HX.out⟩
  rw[Oq];by_cases h1:1<=v
  ·by_cases h2:v<=9999
   ·have HI:=qh (fun W h=>itoa_any v W (by omega) (by omega) h);generalize Lib.itoa v=it at *;have g1:decide (1<=v)=true:=by simpa using h1
    have g2:decide (v<=9999)=true:=by simpa using h2
    rw[g1,g2,Oq,Oq];by_cases h3:it=nu
    focus have g3:(it == nu)=true:=by simpa using h3
    rotate_left
    focus have g3:(it == nu)=false:=by simpa using h3
    all_goals
     rw[g3];clear h3;go_enter func106,ntmps106;go_wp2_with fail;refine(HC.out _ HE.out).mono ?_;rintro e w1⟨⟨b,rfl⟩,hx1⟩;have HX:=qh hx1;clear hx1;go_wp2_with fail;refine(HA.out _).mono ?_;rintro e w2⟨rfl,hx1⟩;replace HX:=HX.qt hx1;clear hx1;go_wp2_with fail;refine(HN.out _).mono ?_;rintro e w3⟨rfl,hx1⟩;replace HX:=HX.qt hx1;clear hx1;go_wp2_with fail;refine(HI.out _ (HE.out.ext HX.out)).mono ?_;rintro e w4⟨rfl,hx1⟩;replace HX:=HX.qt hx1;clear hx1;go_wp2_with fail;go_ret;exact⟨rfl,HX.out⟩
   ·have g1:decide (1<=v)=true:=by simpa using h1
    have g2:decide (v<=9999)=false:=by simpa using h2
    rw[g1,g2,Oq,OT];generalize Lib.itoa v=it at *;go_enter func106,ntmps106;go_wp2_with fail;refine(HC.out _ HE.out).mono ?_;rintro e w1⟨⟨b,rfl⟩,hx1⟩;have HX:=qh hx1;clear hx1;go_wp2_with fail;refine(HA.out _).mono ?_;rintro e w2⟨rfl,hx1⟩;replace HX:=HX.qt hx1;clear hx1;go_wp2_with fail;refine(HN.out _).mono ?_;rintro e w3⟨rfl,hx1⟩;replace HX:=HX.qt hx1;clear hx1;go_wp2_with fail;go_ret;exact⟨rfl,HX.out⟩
  ·have g1:decide (1<=v)=false:=by simpa using h1
   rw[g1,OT,OT];generalize Lib.itoa v=it at *;go_enter func106,ntmps106;go_wp2_with fail;refine(HC.out _ HE.out).mono ?_;rintro e w1⟨⟨b,rfl⟩,hx1⟩;have HX:=qh hx1;clear hx1;go_wp2_with fail;refine(HA.out _).mono ?_;rintro e w2⟨rfl,hx1⟩;replace HX:=HX.qt hx1;clear hx1;go_wp2_with fail;refine(HN.out _).mono ?_;rintro e w3⟨rfl,hx1⟩;replace HX:=HX.qt hx1;clear hx1;go_wp2_with fail;go_ret;exact⟨rfl,HX.out⟩
 ·have hk':∀v,Lib.atoiAll (cut47 l).2 ≠ .ok v:=fun v h=>hk ⟨v,h⟩
  have HA:=qh (fun W h=>rm (cut47 l).2 hk' (by omega) W h);rw[numOK_bad hk',SF];generalize (cut47 l).1=nm at *;generalize (cut47 l).2=nu at *;clear hk hk' hcl hE;generalize isName nm=ok at *;go_enter func106,ntmps106;go_wp2_with fail;refine(HC.out _ HE.out).mono ?_;rintro e w1⟨⟨b,rfl⟩,hx1⟩;have HX:=qh hx1;clear hx1;go_wp2_with fail;refine(HA.out _ (HE.out.ext HX.out)).mono ?_;rintro e w2⟨⟨n,p,rfl⟩,hx1⟩;replace HX:=HX.qt hx1;clear hx1;go_wp2_with fail;refine(HN.out _).mono ?_;rintro e w3⟨rfl,hx1⟩;replace HX:=HX.qt hx1;clear hx1
  cases ok
  ·skip;go_wp2_with fail;go_ret;exact⟨rfl,HX.out⟩
  ·skip;go_wp2_with fail;go_ret;exact⟨rfl,HX.out⟩
theorem IJ(d:Int)(W:World):Calls prog 189 (#[.int .i64 d]++#[]) W fun e w'=>e = .returned (.bool (!dayOK d))∧Ext W w':=by
 obtain⟨b,hb⟩:∃b,b=!dayOK d:=⟨_,rfl⟩;by_cases h1:d < -25567
 ·have HBB:Hid (b=true):=qh (by rw[hb];unfold dayOK;simp;omega);rw[←hb,HBB.out];clear hb;go_enter func189,ntmps189;go_wp2_with fail;go_ret;exact⟨rfl,iD _⟩
 ·by_cases h2:84005<d
  focus have HBB:Hid (b=true):=qh (by rw[hb];unfold dayOK;simp;omega)
  rotate_left
  focus have HBB:Hid (b=false):=qh (by rw[hb];unfold dayOK;simp;omega)
  all_goals
   rw[←hb,HBB.out];clear hb;go_enter func189,ntmps189;go_wp2_with fail;go_ret;exact⟨rfl,iD _⟩
theorem xf(a b:Int)(A:Option Addr)(c:Nat)(W:World)(hA:sY W A [a,b]):Calls prog 107 #[.slice A 2 c] W fun e w'=>e = .returned (.bool (dayOK a && dayOK b))∧Ext W w':=by
 have hc:=Al 189 #[] (fun _ _=>by rfl) (fun d=>!dayOK d) [a,b] A c W hA (by simp) (fun x _ V _=>IJ x V);have HZ:Hid ((!([a,b].any (fun d=>!dayOK d)))=(dayOK a && dayOK b)):=qh (by simp);have hC2:Calls prog 188 #[.slice A 2 c,.func (.func 189) #[] #[]] W fun e w'=>e = .returned (.bool ([a,b].any (fun d=>!dayOK d)))∧Ext W w':=hc
 have HC:=qh hC2;clear hc hC2 hA;generalize [a,b].any (fun d=>!dayOK d)=z at *;generalize (dayOK a && dayOK b)=y at *;go_enter func107,ntmps107;go_wp2_with fail;refine HC.out.mono ?_;rintro e w1⟨rfl,hx1⟩;have HX:=qh hx1;clear hx1;go_wp2_with fail;go_ret;exact⟨by rw[←HZ.out];rfl,HX.out⟩
theorem qM(a:Bs)(ha:a.length<=100000):bJ 108 #[.string (bs a)] (.bool (decide (valI a<0))):=by
 intro w hE;have HC:=qh (gK a ha w hE);have HZ:Hid (decide (cmpI (valI a) 0<0)=decide (valI a<0)):=qh (by unfold cmpI;split <;> (try split) <;> simp <;> omega);rw[←HZ.out];clear hE HZ;generalize cmpI (valI a) 0=z at *;go_enter func108,ntmps108;go_wp2_with fail;refine HC.out.mono ?_;rintro e w1⟨rfl,hx1⟩;have HX:=qh hx1;clear hx1;go_wp2_with fail;go_ret;exact⟨rfl,HX.out⟩
def dj(g:GainV):Bs:=if valI g.c-valI g.p<0 then [] else ofI (valI g.c-valI g.p)
structure SmallG (g:GainV):Prop where
 cause:g.cause.length<=1000
 lot:g.lot.length<=1000
 ins:g.ins.length<=1000
 q:g.q.length<=1000
 p:g.p.length<=1000
 c:g.c.length<=1000
 d:g.d.length<=1000
 r:g.r.length<=1000
theorem IK(g:GainV)(hs:SmallG g):bJ 109 #[kB g] (.string (bs (dj g))):=by
 intro w hE;have HE:=qh hE;have C1:=qh (lC g.c g.p (by have:=hs.c;omega) (by have:=hs.p;omega));have hl:=jg (x:=g.c) (y:=g.p) (L:=1000) hs.c hs.p;have C2:=qh (qM (ofI (valI g.c-valI g.p)) (by omega));rw[valI_ofI]at C2;have HZ:Hid (dj g=if valI g.c-valI g.p<0 then [] else ofI (valI g.c-valI g.p)):=qh rfl;have HB:=qh (ID w 60 (dr g));have HX:Hid (Ext w (w.alloc (.cells (dr g) 60))):=qh (Id _ _);obtain⟨g0,g1,g2,g3,g4,g5,g6,g7,g8,g9⟩:=ax HB.out (iD _);clear hE hs hl;generalize dj g=z at *;generalize valI g.c-valI g.p=d at *;obtain⟨gk,gl,gi,ga,gc',gq,gp,gco,gd,gr⟩:=g;simp only at *;go_enter func109,ntmps109;go_wp2_with fail;refine(C1.out _ (HE.out.ext HX.out)).mono ?_;rintro e w1⟨rfl,hx1⟩;replace HX:=HX.qt hx1;clear hx1 g0 g1 g2 g3 g4 g5 g6 g7 g8 g9;go_wp2_with fail;refine(C2.out _ (HE.out.ext HX.out)).mono ?_;rintro e w2⟨rfl,hx1⟩;replace HX:=HX.qt hx1;clear hx1;by_cases hd:d<0
 focus have hz:=HZ.out;rw[Mq hd]at hz;subst hz;have hdt:decide (d<0)=true:=by simpa using hd
 rotate_left
 focus have hz:=HZ.out;rw[Mj hd]at hz;subst hz;have hdt:decide (d<0)=false:=by simpa using hd
 all_goals
  rw[hdt];clear HZ hd hdt;go_wp2_with fail;go_ret;exact⟨rfl,HX.out⟩
def fw(g:GainV):List Bs:=[g.q,g.p,g.c,g.d,g.r]
def mR(g:GainV):Prop:=valI g.d<0∨valI (dj g)<valI g.d∨(g.r=[]∧g.d≠[])
instance (g:GainV):Decidable (mR g):=by unfold mR;infer_instance
def aR(g:GainV):Int :=
 if isName g.cause=false∨isId g.lot=false∨isName g.ins=false then 23
 else if(dayOK g.acq && dayOK g.clo)=false then 13 else if g.clo<g.acq then 8
 else if ∃x ∈ fw g,checkI x≠0 then 1
 else if valI g.q<0∨valI g.c<0∨valI g.r<0∨valI g.q<valI g.r then 2
 else if mR g then 2 else 0
structure CkG (g:GainV) (r:Int):Prop where
 n:(isName g.cause=false∨isId g.lot=false∨isName g.ins=false)->r=23
 d:isName g.cause=true->isId g.lot=true->isName g.ins=true->(dayOK g.acq && dayOK g.clo)=false->r=13
 o:isName g.cause=true->isId g.lot=true->isName g.ins=true->(dayOK g.acq && dayOK g.clo)=true->g.clo<g.acq->r=8
 i:isName g.cause=true->isId g.lot=true->isName g.ins=true->(dayOK g.acq && dayOK g.clo)=true->¬ g.clo<g.acq->(∃x ∈ fw g,checkI x≠0)->r=1
 v:isName g.cause=true->isId g.lot=true->isName g.ins=true->(dayOK g.acq && dayOK g.clo)=true->¬ g.clo<g.acq->(∀x ∈ fw g,checkI x=0)->(valI g.q<0∨valI g.c<0∨valI g.r<0∨valI g.q<valI g.r)->r=2
 b:isName g.cause=true->isId g.lot=true->isName g.ins=true->(dayOK g.acq && dayOK g.clo)=true->¬ g.clo<g.acq->(∀x ∈ fw g,checkI x=0)->¬ (valI g.q<0∨valI g.c<0∨valI g.r<0∨valI g.q<valI g.r)->mR g->r=2
 k:isName g.cause=true->isId g.lot=true->isName g.ins=true->(dayOK g.acq && dayOK g.clo)=true->¬ g.clo<g.acq->(∀x ∈ fw g,checkI x=0)->¬ (valI g.q<0∨valI g.c<0∨valI g.r<0∨valI g.q<valI g.r)->¬ mR g->r=0
theorem IL(g:GainV):CkG g (aR g):=by
 have nn:isName g.cause=true->isId g.lot=true->isName g.ins=true->¬ (isName g.cause=false∨isId g.lot=false∨isName g.ins=false):=by
  intro a b c;rw[a,b,c];simp
 have mm:(∀x ∈ fw g,checkI x=0)->¬ ∃x ∈ fw g,checkI x≠0:=fun h ⟨x,hx,e⟩=>e (h x hx)
 unfold aR;refine⟨fun h=>Mq h,fun a b c d=>?_,fun a b c d e=>?_,fun a b c d e f=>?_,fun a b c d e f h=>?_,fun a b c d e f h i=>?_,fun a b c d e f h i=>?_⟩
 ·rw[Mj (nn a b c),Mq d]
 ·rw[Mj (nn a b c),Mj (by rw[d];decide),Mq e]
 ·rw[Mj (nn a b c),Mj (by rw[d];decide),Mj e,Mq f]
 ·rw[Mj (nn a b c),Mj (by rw[d];decide),Mj e,Mj (mm f),Mq h]
 ·rw[Mj (nn a b c),Mj (by rw[d];decide),Mj e,Mj (mm f),Mj h,Mq i]
 ·rw[Mj (nn a b c),Mj (by rw[d];decide),Mj e,Mj (mm f),Mj h,Mj i]
theorem cS{o:Oper}(ho:ops[i]? = some o)(hw:Region.wanted o (yielded ops a.tmps)=false)(hK:K (a.put o.dst undef) w):wpOp P ops Q i K a w:=by
 unfold wpOp;rw[ho];dsimp only;rw[Mj (by rw[hw];decide)];exact hK
theorem iC{o oj:Oper}(hj:ops[j]? = some oj)(hd:oj.dst=some d)(ht:tmps.getD d undef = .bool true)(hg:o.guard=some (j,false)):Region.wanted o (yielded ops tmps)=false:=by
 have h:tmps[d]? = some (.bool true):=by
  rw[Mw]at ht
  cases hq:tmps[d]? with
  |none=>rw[hq]at ht;exact absurd ht (by simp[undef])
  |some v=>rw[hq]at ht;simp at ht;rw[ht]
 simp[Region.wanted,hg,yielded,hj,hd,h]
theorem aX{o:Oper}(ho:ops[i]? = some o)(hw:Region.wanted o (yielded ops a.tmps)=true)(v:Value)(hrun:(execOp a.eval o).run P w = .ok (.value v) w')(hK:K (a.put o.dst v) w'):wpOp P ops Q i K a w:=by
 unfold wpOp;rw[ho];dsimp only;rw[Mq hw];refine .inl ?_;unfold Oper.wp;rw[hrun];exact hK
theorem dH{o:Oper}{post:Ending->World->Prop}(ho:ops[i]? = some o)(hw:Region.wanted o (yielded ops a.tmps)=true)(hrun:(execOp a.eval o).run P w = .ok (.enter fn args) w)(hC:Calls P fn args w post)(hK:∀e w',post e w'->∃v,e = .returned v∧K (a.put o.dst v) w'):wpOp P ops Q i K a w:=by
 unfold wpOp;rw[ho];dsimp only;rw[Mq hw];refine .inl ?_;unfold Oper.wp;rw[hrun];refine hC.mono ?_;intro e w' he;obtain⟨v,rfl,hk⟩:=hK e w' he;exact hk
theorem aU{o oj:Oper}{b:Bool}(hj:ops[j]? = some oj)(hd:oj.dst=some d)(ht:tmps.getD d undef = .bool b)(hg:o.guard=some (j,b)):Region.wanted o (yielded ops tmps)=true:=by
 have h:tmps[d]? = some (.bool b):=by
  rw[Mw]at ht
  cases hq:tmps[d]? with
  |none=>rw[hq]at ht;exact absurd ht (by simp[undef])
  |some v=>rw[hq]at ht;simp at ht;rw[ht]
 simp[Region.wanted,hg,yielded,hj,hd,h]
theorem uU{o oj:Oper}(hj:ops[j]? = some oj)(hd:oj.dst=some d)(ht:tmps.getD d undef = .bool false)(hg:o.guard=some (j,true)):Region.wanted o (yielded ops tmps)=false:=by
 have h:tmps[d]? = some (.bool false):=by
  rw[Mw]at ht
  cases hq:tmps[d]? with
  |none=>rw[hq]at ht;exact absurd ht (by simp[undef])
  |some v=>rw[hq]at ht;simp at ht;rw[ht]
 simp[Region.wanted,hg,yielded,hj,hd,h]
theorem mS{o oj:Oper}(hj:ops[j]? = some oj)(hd:oj.dst=some d)(ht:tmps.getD d undef=undef)(hg:o.guard=some (j,true)):Region.wanted o (yielded ops tmps)=false:=by
 cases hq:tmps[d]? with
 |none=>simp[Region.wanted,hg,yielded,hj,hd,hq]
 |some v =>
  rw[Mw,hq]at ht;simp at ht;subst ht;simp[Region.wanted,hg,yielded,hj,hd,hq,undef]
theorem RdS.lit5(w:World)(a b c d e:Bs):RdS (w.alloc (.cells #[.string (bs a),.string (bs b),.string (bs c),.string (bs d),.string (bs e)] 24)) (some ⟨w.heap.size,0,none⟩) [a,b,c,d,e]:=Reads.lit (xs:=scells [a,b,c,d,e]) rfl
theorem oG(g:GainV)(hs:SmallG g):bJ 35 #[kB g] (.int .i64 (aR g)):=by
 intro w hE;obtain⟨s1,s2,s3,s4,s5,s6,s7,s8⟩:=hs;have HE:=qh hE;have HK:=qh (IL g);have K1:=qh (fun W (_:Env W)=>gc g.cause W (by omega));have K2:=qh (KW g.lot (by omega));have K3:=qh (fun W (_:Env W)=>gc g.ins W (by omega))
 have KI:Hid (∀x ∈ fw g,bJ 72 #[.string (bs x)] (.int .i64 (checkI x))):=qh (fun x hx=>dq x (by
  simp only[fw,MS,N7,Qg]at hx;rcases hx with rfl|rfl|rfl|rfl|rfl <;> omega))
 have NQ:=qh (qM g.q (by omega));have NC:=qh (qM g.c (by omega));have NR:=qh (qM g.r (by omega));have CQ:=qh (cmpP g.r g.q (by omega) (by omega));have ND:=qh (qM g.d (by omega));have LO:=qh (IK g ⟨s1,s2,s3,s4,s5,s6,s7,s8⟩)
 have hll:(dj g).length<=2000:=by
  have:=jg (x:=g.c) (y:=g.p) (L:=1000) (by omega) (by omega);unfold dj;split
  ·simp
  ·omega
 have CL:=qh (cmpP g.d (dj g) (by omega) (by omega));clear hE s1 s2 s3 s4 s5 s6 s7 s8 hll;have HBG:Hid (mR g↔valI g.d<0∨valI (dj g)<valI g.d∨(g.r=[]∧g.d≠[])):=qh Iff.rfl;have HNG:Hid (fw g=[g.q,g.p,g.c,g.d,g.r]):=qh rfl;obtain⟨HN,HDD,HO,HI,HV,HH,HKK⟩:=HK.out;replace HN:=qh HN;replace HDD:=qh HDD;replace HO:=qh HO;replace HI:=qh HI;replace HV:=qh HV;replace HH:=qh HH;replace HKK:=qh HKK;clear HK;generalize aR g=r at *;generalize dj g=lo at *;generalize mR g=bad at *;generalize fw g=ns at *;have HB:=qh (ID w 60 (dr g));have HX:Hid (Ext w (w.alloc (.cells (dr g) 60))):=qh (Id _ _);obtain⟨gk,gl,gi,ga,gc',gq,gp,gco,gd,gr⟩:=g;simp only at *;go_enter func35,ntmps35;go_upto_region 1 with fail;generalize hG:w.heap.size=G at *;generalize w.alloc (.cells #[.string (bs gk),.string (bs gl),.string (bs gi),.int .i64 ga,.int .i64 gc',.string (bs gq),.string (bs gp),.string (bs gco),.string (bs gd),.string (bs gr)] 60)=w0 at *;clear hG;obtain⟨g0,g1,g2,g3,g4,g5,g6,g7,g8,g9⟩:=ax HB.out (iD _);go_wp2_with fail;refine(K1.out _ (HE.out.ext HX.out)).mono ?_;rintro e v9⟨rfl,hx1⟩;replace HB:=qh (HB.out.ext hx1);replace HX:=HX.qt hx1;clear hx1;clear g0 g1 g2 g3 g4 g5 g6 g7 g8 g9;obtain⟨g0,g1,g2,g3,g4,g5,g6,g7,g8,g9⟩:=ax HB.out (iD _)
 cases hk:isName gk
 ·obtain rfl:=HN.out (.inl hk);clear HN HDD HO HI HV HH HKK hk;go_wp2_with fail;go_ret;exact⟨rfl,HX.out⟩
 have BK:=qh hk;clear hk K1;go_wp2_with fail;refine(K2.out _ (HE.out.ext HX.out)).mono ?_;rintro e v9⟨rfl,hx1⟩;replace HB:=qh (HB.out.ext hx1);replace HX:=HX.qt hx1;clear hx1;clear g0 g1 g2 g3 g4 g5 g6 g7 g8 g9;obtain⟨g0,g1,g2,g3,g4,g5,g6,g7,g8,g9⟩:=ax HB.out (iD _)
 cases hl:isId gl
 ·obtain rfl:=HN.out (.inr (.inl hl));clear HN HDD HO HI HV HH HKK hl;go_wp2_with fail;go_ret;exact⟨rfl,HX.out⟩
 have BL:=qh hl;clear hl K2;go_wp2_with fail;refine(K3.out _ (HE.out.ext HX.out)).mono ?_;rintro e v9⟨rfl,hx1⟩;replace HB:=qh (HB.out.ext hx1);replace HX:=HX.qt hx1;clear hx1;clear g0 g1 g2 g3 g4 g5 g6 g7 g8 g9;obtain⟨g0,g1,g2,g3,g4,g5,g6,g7,g8,g9⟩:=ax HB.out (iD _)
 cases hi:isName gi
 ·obtain rfl:=HN.out (.inr (.inr hi));clear HN HDD HO HI HV HH HKK hi;go_wp2_with fail;go_ret;exact⟨rfl,HX.out⟩
 have BI:=qh hi;clear hi K3 HN;replace HDD:=qh (HDD.out BK.out BL.out BI.out);replace HO:=qh (HO.out BK.out BL.out BI.out);replace HI:=qh (HI.out BK.out BL.out BI.out);replace HV:=qh (HV.out BK.out BL.out BI.out);replace HH:=qh (HH.out BK.out BL.out BI.out);replace HKK:=qh (HKK.out BK.out BL.out BI.out);clear BK BL BI;have KD:=qh (xf ga gc' (some ⟨v9.heap.size,0,none⟩) 2 (v9.alloc (.cells #[.int .i64 ga,.int .i64 gc'] 23)) (Reads.lit (xs:=[.int .i64 ga,.int .i64 gc']) rfl));generalize (dayOK ga && dayOK gc')=dk at *;go_wp2_with fail;refine KD.out.mono ?_;rintro e v8⟨rfl,hx1⟩;replace hx1:=(Id v9 (.cells #[.int .i64 ga,.int .i64 gc'] 23)).trans hx1;replace HB:=qh (HB.out.ext hx1);replace HX:=HX.qt hx1;clear g0 g1 g2 g3 g4 g5 g6 g7 g8 g9;clear hx1 KD;generalize v9.heap.size=SD at *;obtain⟨g0,g1,g2,g3,g4,g5,g6,g7,g8,g9⟩:=ax HB.out (iD _)
 cases dk
 ·obtain rfl:=HDD.out rfl;clear HDD HO HI HV HH HKK;go_wp2_with fail;go_ret;exact⟨rfl,HX.out⟩
 by_cases hd:gc'<ga
 ·obtain rfl:=HO.out rfl hd;clear HDD HO HI HV HH HKK;go_wp2_with fail;go_ret;exact⟨rfl,HX.out⟩
 replace HI:=qh (HI.out rfl (Pk.1 hd));replace HV:=qh (HV.out rfl (Pk.1 hd));replace HH:=qh (HH.out rfl (Pk.1 hd));replace HKK:=qh (HKK.out rfl (Pk.1 hd));clear HDD HO;have hd2:decide (gc'<ga)=false:=by simpa using hd
 have HL:=qh (RdS.lit5 v8 gq gp gco gd gr);rw[←HNG.out]at HL;have HXW:Hid (Ext v8 (v8.alloc (.cells #[.string (bs gq),.string (bs gp),.string (bs gco),.string (bs gd),.string (bs gr)] 24))):=qh (Id _ _);replace HB:=qh (HB.out.ext HXW.out);replace HX:=qh (HX.out.trans HXW.out);have HN5:Hid (ns.length=5):=qh (by rw[HNG.out];rfl);clear HXW;go_upto_region 8 with fail;generalize v8.alloc (.cells #[.string (bs gq),.string (bs gp),.string (bs gco),.string (bs gd),.string (bs gr)] 24)=w5 at *;generalize v8.heap.size=S at *;clear g0 g1 g2 g3 g4 g5 g6 g7 g8 g9;go_loopw [45,4] (fun i _ wr=>∃k:Nat,k<=5∧i = .int .i64 k∧(∀x ∈ ns.take k,checkI x=0)∧Ext w5 wr) (fun i _ _=>5-(intOf i).toNat)
 case atStart=>exact⟨0,by omega,rfl,by simp,iD _⟩
 case round =>
  obtain⟨k,hk,rfl,hall,hxx⟩:=hrel;have HAL:=qh hall;have HXX:=qh hxx;clear hall hxx;by_cases hlt:k<5
  ·have hlt5:k<ns.length:=by rw[HN5.out];exact hlt
   obtain⟨b,o,hA2,hbl,c0⟩:=(HL.out.ext HXX.out).at_ hlt5;injection hA2 with hA2
   injection hA2 with e1 e2
   subst e1 e2;simp only[MV]at c0;have KX:=qh (KI.out _ (Ml hlt5))
   have HNX:Hid (checkI (ns[k]'hlt5)=0->∀x ∈ ns.take (k+1),checkI x=0):=qh (fun h x hx=>by
    rw[Mo hlt5]at hx;rcases MN.1 hx with hx|hx
    ·exact HAL.out x hx
    ·simp at hx;rw[hx];exact h)
   have HBD:Hid (checkI (ns[k]'hlt5)≠0->r=1):=qh (fun h=>HI.out ⟨_,Ml hlt5,h⟩);have hki:(k:Int)<5:=by omega
   have hk0:(0:Int)<=(k:Int):=by omega
   generalize ns[k]'hlt5=x at *;generalize checkI x=z at *;go_wp2_with fail;refine(KX.out _ (HE.out.ext (HX.out.trans HXX.out))).mono ?_;rintro e v7⟨rfl,hx1⟩;replace HXX:=HXX.qt hx1;clear hx1;by_cases hz:z=0
   ·have HNY:=qh (HNX.out hz);subst hz;clear HNX HBD;go_wp2_with fail;go_roundw
    case rel=>exact⟨k+1,by omega,by go_num,HNY.out,HXX.out⟩
    case measure=>simp[intOf];omega
   ·obtain rfl:=HBD.out hz;have hz2:(z != 0)=true:=by rw[Nc];exact hz
    clear HNX HBD HI HV HH HKK;go_wp2_with fail;go_ret;exact⟨rfl,HX.out.trans HXX.out⟩
  ·have hke:k=5:=by omega
   subst hke
   have hall5:∀x ∈ ns,checkI x=0:=by
    have:=HAL.out;rwa[Mv (by rw[HN5.out];exact Mn _)]at this
   replace HV:=qh (HV.out hall5);replace HH:=qh (HH.out hall5);replace HKK:=qh (HKK.out hall5);replace HB:=qh (HB.out.ext HXX.out);replace HX:=qh (HX.out.trans HXX.out);clear hall5 HAL HXX HI HL KI HNG HN5;obtain⟨g0,g1,g2,g3,g4,g5,g6,g7,g8,g9⟩:=ax HB.out (iD _);go_wp2_with fail;refine(NQ.out _ (HE.out.ext HX.out)).mono ?_;rintro e v9⟨rfl,hx1⟩;replace HB:=qh (HB.out.ext hx1);replace HX:=HX.qt hx1;clear hx1;clear g0 g1 g2 g3 g4 g5 g6 g7 g8 g9;obtain⟨g0,g1,g2,g3,g4,g5,g6,g7,g8,g9⟩:=ax HB.out (iD _);by_cases hq:valI gq<0
   ·obtain rfl:=HV.out (.inl hq);have t1:decide (valI gq<0)=true:=by simpa using hq
    rw[t1];clear HV HH HKK hq t1;go_wp2_with fail;go_ret;exact⟨rfl,HX.out⟩
   have t1:decide (valI gq<0)=false:=by simpa using hq
   rw[t1];have Q1:=qh hq;clear hq t1 NQ;go_wp2_with fail;refine(NC.out _ (HE.out.ext HX.out)).mono ?_;rintro e v9⟨rfl,hx1⟩;replace HB:=qh (HB.out.ext hx1);replace HX:=HX.qt hx1;clear hx1;clear g0 g1 g2 g3 g4 g5 g6 g7 g8 g9;obtain⟨g0,g1,g2,g3,g4,g5,g6,g7,g8,g9⟩:=ax HB.out (iD _);by_cases hq:valI gco<0
   ·obtain rfl:=HV.out (.inr (.inl hq));have t1:decide (valI gco<0)=true:=by simpa using hq
    rw[t1];clear HV HH HKK hq t1;go_wp2_with fail;go_ret;exact⟨rfl,HX.out⟩
   have t1:decide (valI gco<0)=false:=by simpa using hq
   rw[t1];have Q2:=qh hq;clear hq t1 NC;go_wp2_with fail;refine(NR.out _ (HE.out.ext HX.out)).mono ?_;rintro e v9⟨rfl,hx1⟩;replace HB:=qh (HB.out.ext hx1);replace HX:=HX.qt hx1;clear hx1;clear g0 g1 g2 g3 g4 g5 g6 g7 g8 g9;obtain⟨g0,g1,g2,g3,g4,g5,g6,g7,g8,g9⟩:=ax HB.out (iD _);by_cases hq:valI gr<0
   ·obtain rfl:=HV.out (.inr (.inr (.inl hq)));have t1:decide (valI gr<0)=true:=by simpa using hq
    rw[t1];clear HV HH HKK hq t1;go_wp2_with fail;go_ret;exact⟨rfl,HX.out⟩
   have t1:decide (valI gr<0)=false:=by simpa using hq
   rw[t1];have Q3:=qh hq;clear hq t1 NR;go_wp2_with fail;refine(CQ.out _ (HE.out.ext HX.out)).mono ?_;rintro e v9⟨rfl,hx1⟩;replace HB:=qh (HB.out.ext hx1);replace HX:=HX.qt hx1;clear hx1;clear g0 g1 g2 g3 g4 g5 g6 g7 g8 g9;obtain⟨g0,g1,g2,g3,g4,g5,g6,g7,g8,g9⟩:=ax HB.out (iD _);by_cases hq:valI gq<valI gr
   ·obtain rfl:=HV.out (.inr (.inr (.inr hq)));have t1:decide (0<cmpI (valI gr) (valI gq))=true:=by rw[MA,bA];exact hq
    generalize cmpI (valI gr) (valI gq)=z at *;clear HV HH HKK hq;go_wp2_with fail;go_ret;exact⟨rfl,HX.out⟩
   have t1:decide (0<cmpI (valI gr) (valI gq))=false:=by rw[Mi,bA];exact hq
   generalize cmpI (valI gr) (valI gq)=z at *
   have HQ:Hid (¬ (valI gq<0∨valI gco<0∨valI gr<0∨valI gq<valI gr)):=qh (by
    have q1:=Q1.out;have q2:=Q2.out;have q3:=Q3.out;omega)
   replace HH:=qh (HH.out HQ.out);replace HKK:=qh (HKK.out HQ.out);clear HQ Q1 Q2 Q3 hq CQ HV;by_cases d1:valI gd<0
   ·obtain rfl:=HH.out (HBG.out.2 (.inl d1));have t2:decide (valI gd<0)=true:=by simpa using d1
    rw[t2]at ND;clear HH HKK HBG d1 t2 LO CL;go_upto_region 15 with fail;refine PR (by kernel_rfl) ?_;change wpAny _ _ _ _ _ _ _ (World.drew v9);replace HB:=qh HB.out.drew;replace HX:=qh HX.out.drew;generalize World.drew v9=Wd at *;clear g0 g1 g2 g3 g4 g5 g6 g7 g8 g9
    have l8':∀W,Ext Wd W->(Instr.loadAt 24 (.pointer (some ⟨G,8,none⟩))).run prog W = .ok (Value.string (bs gd)) W:=fun W hx=>by
     obtain⟨g0,g1,g2,g3,g4,g5,g6,g7,g8,g9⟩:=ax HB.out hx;go_simp
    have f8:∀W:World,(Instr.fieldAt 60 (.pointer (some ⟨G,0,none⟩)) 8).run prog W = .ok (.pointer (some ⟨G,8,none⟩)) W:=fun W=>by go_simp
    have cn:∀W,Ext Wd W->Calls prog 108 #[.string (bs gd)] W fun e w'=>e = .returned (.bool true)∧Ext W w':=fun W hx=>ND.out W (HE.out.ext (HX.out.trans hx))
    refine en (Inv:=GrInv _ _ (fun s=>(#[Value.pointer (some ⟨G,8,none⟩),Value.string (bs gd),Value.bool true,Value.bool true,undef,undef,undef,undef,undef,undef,Value.bool true,Value.bool true,undef,undef,undef,undef,undef,undef,undef,undef,Value.bool true]:Array Value).getD (s-74) undef) 74 20 (fun W=>Ext Wd W) (fun W=>Ext Wd W)) ?hend ?hz ?hstep _ _ _ _ (GrInv.start _ (iD Wd))
    case hz=>exact fun listed a w' h=>eu (by have:=h.cnt;omega) h.size
    case hend =>
     intro f listed a w' h hr;obtain⟨ha,hj⟩:=h.fin (by decide) hr (by kernel_rfl);have ha2:a=({ tmps:=#[kB ⟨gk,gl,gi,ga,gc',gq,gp,gco,gd,gr⟩,Value.pointer (some ⟨G,0,none⟩),u2,undef,u4,Value.pointer (some ⟨G,0,none⟩),Value.string (bs gk),Value.bool true,Value.bool false,Value.bool false,Value.pointer (some ⟨G,1,none⟩),Value.string (bs gl),Value.bool true,Value.bool false,Value.bool false,Value.bool false,Value.pointer (some ⟨G,2,none⟩),Value.string (bs gi),Value.bool true,Value.bool false,Value.bool false,Value.pointer (some ⟨G,3,none⟩),Value.int .i64 ga,Value.pointer (some ⟨G,4,none⟩),Value.int .i64 gc',Value.slice (some ⟨SD,0,none⟩) 2 2,Value.bool true,Value.bool false,Value.pointer (some ⟨G,3,none⟩),Value.int .i64 ga,Value.pointer (some ⟨G,4,none⟩),Value.int .i64 gc',Value.bool false,Value.pointer (some ⟨G,5,none⟩),Value.string (bs gq),Value.pointer (some ⟨G,6,none⟩),Value.string (bs gp),Value.pointer (some ⟨G,7,none⟩),Value.string (bs gco),Value.pointer (some ⟨G,8,none⟩),Value.string (bs gd),Value.pointer (some ⟨G,9,none⟩),Value.string (bs gr),Value.slice (some ⟨S,0,none⟩) 5 5,Value.int .i64 5,Value.int .i64 5,Value.bool false,u47,u48,u49,u50,u51,u52,Value.pointer (some ⟨G,5,none⟩),Value.string (bs gq),Value.bool false,Value.bool false,Value.pointer (some ⟨G,7,none⟩),Value.string (bs gco),Value.bool false,Value.bool false,Value.bool false,Value.pointer (some ⟨G,9,none⟩),Value.string (bs gr),Value.bool false,Value.bool false,Value.bool false,Value.pointer (some ⟨G,9,none⟩),Value.string (bs gr),Value.pointer (some ⟨G,5,none⟩),Value.string (bs gq),Value.int .i64 z,Value.bool false,Value.bool false,Value.pointer (some ⟨G,8,none⟩),Value.string (bs gd),Value.bool true,Value.bool true,undef,undef,undef,undef,undef,undef,Value.bool true,Value.bool true,undef,undef,undef,undef,undef,undef,undef,undef,Value.bool true],defers:=[] }:Act):=ha.trans (by kernel_rfl);clear ha;subst ha2;have HJ:=qh hj;clear h hr hj l8' f8 cn;go_wp2_with fail;go_ret;exact⟨rfl,HX.out.trans HJ.out⟩
    case hstep =>
     intro f listed a w' i h hi;have hW:Ext Wd w':=by rcases h.wld with ⟨_,h2⟩ | ⟨_,h2⟩ <;> exact h2
     have hlt:i<21:=bP hi;have hbz:∀s,s<74->a.tmps.getD s undef=_:=fun s hs=>h.base' (s:=s) (by show s<95;omega) (.inl hs)
     obtain rfl|rfl|rfl|rfl|rfl|rfl|rfl|rfl|rfl|rfl|rfl|rfl|rfl|rfl|rfl|rfl|rfl|rfl|rfl|rfl|rfl:i=0∨i=1∨i=2∨i=3∨i=4∨i=5∨i=6∨i=7∨i=8∨i=9∨i=10∨i=11∨i=12∨i=13∨i=14∨i=15∨i=16∨i=17∨i=18∨i=19∨i=20:=by omega
     all_goals have nd:=fun p (q:p<21)=>h.need hi rfl p q (show 74+p<95 by omega)
     all_goals have e1:a.tmps.getD 1 undef=Value.pointer (some ⟨G,0,none⟩):=hbz 1 (by omega)
     all_goals try have e74:a.tmps.getD 74 undef=Value.pointer (some ⟨G,8,none⟩):=nd 0 (by decide) rfl
     all_goals try have e75:a.tmps.getD 75 undef=Value.string (bs gd):=nd 1 (by decide) rfl
     all_goals try have e76:a.tmps.getD 76 undef=Value.bool true:=nd 2 (by decide) rfl
     all_goals try have e77:a.tmps.getD 77 undef=Value.bool true:=nd 3 (by decide) rfl
     all_goals try have e84:a.tmps.getD 84 undef=Value.bool true:=nd 10 (by decide) rfl
     all_goals try have e85:a.tmps.getD 85 undef=Value.bool true:=nd 11 (by decide) rfl
     all_goals try have e89:a.tmps.getD 89 undef=undef:=nd 15 (by decide) rfl
     all_goals try have e94:a.tmps.getD 94 undef=Value.bool true:=nd 20 (by decide) rfl
     all_goals first
      |exact cS rfl (iC rfl rfl e77 rfl) (h.step hi rfl rfl _ (.inl ⟨by decide,fun h=>h,fun h=>h⟩))
      |exact cS rfl (iC rfl rfl e85 rfl) (h.step hi rfl rfl _ (.inl ⟨by decide,fun h=>h,fun h=>h⟩))
      |exact cS rfl (mS rfl rfl e89 rfl) (h.step hi rfl rfl _ (.inl ⟨by decide,fun h=>h,fun h=>h⟩))
      |(refine dx (fn:=108) (args:=#[.string (bs gd)]) rfl rfl ?_ (cn _ hW) ?_
        ·simp[execOp,af, *,resolve,invoke,Deferred.ofValue];rfl
        ·rintro e W3⟨rfl,hx⟩;exact⟨_,rfl,h.step hi rfl rfl _ (.inl ⟨by decide,fun h=>h.trans hx,fun h=>h.trans hx⟩)⟩)
      |(refine ar rfl rfl _ ?_ (h.step hi rfl rfl _ (by first|exact .inl ⟨by decide,fun h=>h,fun h=>h⟩|exact .inr ⟨rfl,hW⟩));simp[execOp,af, *];try go_simp)
   have t2:decide (valI gd<0)=false:=by simpa using d1
   rw[t2]at ND;by_cases d2:valI lo<valI gd
   ·obtain rfl:=HH.out (HBG.out.2 (.inr (.inl d2)));have t3:decide (0<cmpI (valI gd) (valI lo))=true:=by rw[MA,bA];exact d2
    generalize cmpI (valI gd) (valI lo)=y at *;clear HH HKK HBG d1 d2 t2;go_upto_region 15 with fail;refine PR (by kernel_rfl) ?_;change wpAny _ _ _ _ _ _ _ (World.drew v9);replace HB:=qh HB.out.drew;replace HX:=qh HX.out.drew;generalize World.drew v9=Wd at *;clear g0 g1 g2 g3 g4 g5 g6 g7 g8 g9
    have l8':∀W,Ext Wd W->(Instr.loadAt 24 (.pointer (some ⟨G,8,none⟩))).run prog W = .ok (Value.string (bs gd)) W:=fun W hx=>by
     obtain⟨g0,g1,g2,g3,g4,g5,g6,g7,g8,g9⟩:=ax HB.out hx;go_simp
    have f8:∀W:World,(Instr.fieldAt 60 (.pointer (some ⟨G,0,none⟩)) 8).run prog W = .ok (.pointer (some ⟨G,8,none⟩)) W:=fun W=>by go_simp
    have cn:∀W,Ext Wd W->Calls prog 108 #[.string (bs gd)] W fun e w'=>e = .returned (.bool false)∧Ext W w':=fun W hx=>ND.out W (HE.out.ext (HX.out.trans hx))
    have l60:∀W,Ext Wd W->(Instr.loadAt 60 (.pointer (some ⟨G,0,none⟩))).run prog W = .ok (Value.agg #[.string (bs gk),.string (bs gl),.string (bs gi),.int .i64 ga,.int .i64 gc',.string (bs gq),.string (bs gp),.string (bs gco),.string (bs gd),.string (bs gr)]) W:=fun W hx=>by
     obtain⟨g0,g1,g2,g3,g4,g5,g6,g7,g8,g9⟩:=ax HB.out hx;go_simp
    have cl:∀W,Ext Wd W->Calls prog 109 #[Value.agg #[.string (bs gk),.string (bs gl),.string (bs gi),.int .i64 ga,.int .i64 gc',.string (bs gq),.string (bs gp),.string (bs gco),.string (bs gd),.string (bs gr)]] W fun e w'=>e = .returned (.string (bs lo))∧Ext W w':=fun W hx=>LO.out W (HE.out.ext (HX.out.trans hx))
    have cc:∀W,Ext Wd W->Calls prog 16 #[.string (bs gd),.string (bs lo)] W fun e w'=>e = .returned (.int .i64 y)∧Ext W w':=fun W hx=>CL.out W (HE.out.ext (HX.out.trans hx))
    refine en (Inv:=GrInv _ _ (fun s=>(#[Value.pointer (some ⟨G,8,none⟩),Value.string (bs gd),Value.bool false,Value.bool false,Value.pointer (some ⟨G,8,none⟩),Value.string (bs gd),Value.agg #[.string (bs gk),.string (bs gl),.string (bs gi),.int .i64 ga,.int .i64 gc',.string (bs gq),.string (bs gp),.string (bs gco),.string (bs gd),.string (bs gr)],Value.string (bs lo),Value.int .i64 y,Value.bool true,Value.bool true,Value.bool true,undef,undef,undef,undef,undef,undef,undef,undef,Value.bool true]:Array Value).getD (s-74) undef) 74 20 (fun W=>Ext Wd W) (fun W=>Ext Wd W)) ?hend ?hz ?hstep _ _ _ _ (GrInv.start _ (iD Wd))
    case hz=>exact fun listed a w' h=>eu (by have:=h.cnt;omega) h.size
    case hend =>
     intro f listed a w' h hr;obtain⟨ha,hj⟩:=h.fin (by decide) hr (by kernel_rfl);have ha2:a=({ tmps:=#[kB ⟨gk,gl,gi,ga,gc',gq,gp,gco,gd,gr⟩,Value.pointer (some ⟨G,0,none⟩),u2,undef,u4,Value.pointer (some ⟨G,0,none⟩),Value.string (bs gk),Value.bool true,Value.bool false,Value.bool false,Value.pointer (some ⟨G,1,none⟩),Value.string (bs gl),Value.bool true,Value.bool false,Value.bool false,Value.bool false,Value.pointer (some ⟨G,2,none⟩),Value.string (bs gi),Value.bool true,Value.bool false,Value.bool false,Value.pointer (some ⟨G,3,none⟩),Value.int .i64 ga,Value.pointer (some ⟨G,4,none⟩),Value.int .i64 gc',Value.slice (some ⟨SD,0,none⟩) 2 2,Value.bool true,Value.bool false,Value.pointer (some ⟨G,3,none⟩),Value.int .i64 ga,Value.pointer (some ⟨G,4,none⟩),Value.int .i64 gc',Value.bool false,Value.pointer (some ⟨G,5,none⟩),Value.string (bs gq),Value.pointer (some ⟨G,6,none⟩),Value.string (bs gp),Value.pointer (some ⟨G,7,none⟩),Value.string (bs gco),Value.pointer (some ⟨G,8,none⟩),Value.string (bs gd),Value.pointer (some ⟨G,9,none⟩),Value.string (bs gr),Value.slice (some ⟨S,0,none⟩) 5 5,Value.int .i64 5,Value.int .i64 5,Value.bool false,u47,u48,u49,u50,u51,u52,Value.pointer (some ⟨G,5,none⟩),Value.string (bs gq),Value.bool false,Value.bool false,Value.pointer (some ⟨G,7,none⟩),Value.string (bs gco),Value.bool false,Value.bool false,Value.bool false,Value.pointer (some ⟨G,9,none⟩),Value.string (bs gr),Value.bool false,Value.bool false,Value.bool false,Value.pointer (some ⟨G,9,none⟩),Value.string (bs gr),Value.pointer (some ⟨G,5,none⟩),Value.string (bs gq),Value.int .i64 z,Value.bool false,Value.bool false,Value.pointer (some ⟨G,8,none⟩),Value.string (bs gd),Value.bool false,Value.bool false,Value.pointer (some ⟨G,8,none⟩),Value.string (bs gd),Value.agg #[.string (bs gk),.string (bs gl),.string (bs gi),.int .i64 ga,.int .i64 gc',.string (bs gq),.string (bs gp),.string (bs gco),.string (bs gd),.string (bs gr)],Value.string (bs lo),Value.int .i64 y,Value.bool true,Value.bool true,Value.bool true,undef,undef,undef,undef,undef,undef,undef,undef,Value.bool true],defers:=[] }:Act):=ha.trans (by kernel_rfl);clear ha;subst ha2;have HJ:=qh hj;clear h hr hj l8' f8 cn l60 cl cc;go_wp2_with fail;go_ret;exact⟨rfl,HX.out.trans HJ.out⟩
    case hstep =>
     intro f listed a w' i h hi;have hW:Ext Wd w':=by rcases h.wld with ⟨_,h2⟩ | ⟨_,h2⟩ <;> exact h2
     have hlt:i<21:=bP hi;have hbz:∀s,s<74->a.tmps.getD s undef=_:=fun s hs=>h.base' (s:=s) (by show s<95;omega) (.inl hs)
     obtain rfl|rfl|rfl|rfl|rfl|rfl|rfl|rfl|rfl|rfl|rfl|rfl|rfl|rfl|rfl|rfl|rfl|rfl|rfl|rfl|rfl:i=0∨i=1∨i=2∨i=3∨i=4∨i=5∨i=6∨i=7∨i=8∨i=9∨i=10∨i=11∨i=12∨i=13∨i=14∨i=15∨i=16∨i=17∨i=18∨i=19∨i=20:=by omega
     all_goals have nd:=fun p (q:p<21)=>h.need hi rfl p q (show 74+p<95 by omega)
     all_goals have e1:a.tmps.getD 1 undef=Value.pointer (some ⟨G,0,none⟩):=hbz 1 (by omega)
     all_goals try have e74:a.tmps.getD 74 undef=Value.pointer (some ⟨G,8,none⟩):=nd 0 (by decide) rfl
     all_goals try have e75:a.tmps.getD 75 undef=Value.string (bs gd):=nd 1 (by decide) rfl
     all_goals try have e76:a.tmps.getD 76 undef=Value.bool false:=nd 2 (by decide) rfl
     all_goals try have e77:a.tmps.getD 77 undef=Value.bool false:=nd 3 (by decide) rfl
     all_goals try have e78:a.tmps.getD 78 undef=Value.pointer (some ⟨G,8,none⟩):=nd 4 (by decide) rfl
     all_goals try have e79:a.tmps.getD 79 undef=Value.string (bs gd):=nd 5 (by decide) rfl
     all_goals try have e80:a.tmps.getD 80 undef=Value.agg #[.string (bs gk),.string (bs gl),.string (bs gi),.int .i64 ga,.int .i64 gc',.string (bs gq),.string (bs gp),.string (bs gco),.string (bs gd),.string (bs gr)]:=nd 6 (by decide) rfl
     all_goals try have e81:a.tmps.getD 81 undef=Value.string (bs lo):=nd 7 (by decide) rfl
     all_goals try have e82:a.tmps.getD 82 undef=Value.int .i64 y:=nd 8 (by decide) rfl
     all_goals try have e83:a.tmps.getD 83 undef=Value.bool true:=nd 9 (by decide) rfl
     all_goals try have e84:a.tmps.getD 84 undef=Value.bool true:=nd 10 (by decide) rfl
     all_goals try have e85:a.tmps.getD 85 undef=Value.bool true:=nd 11 (by decide) rfl
     all_goals try have e89:a.tmps.getD 89 undef=undef:=nd 15 (by decide) rfl
     all_goals try have e94:a.tmps.getD 94 undef=Value.bool true:=nd 20 (by decide) rfl
     all_goals first
      |exact cS rfl (iC rfl rfl e85 rfl) (h.step hi rfl rfl _ (.inl ⟨by decide,fun h=>h,fun h=>h⟩))
      |exact cS rfl (mS rfl rfl e89 rfl) (h.step hi rfl rfl _ (.inl ⟨by decide,fun h=>h,fun h=>h⟩))
      |(refine dx (fn:=108) (args:=#[.string (bs gd)]) rfl rfl ?_ (cn _ hW) ?_
        ·simp[execOp,af, *,resolve,invoke,Deferred.ofValue];rfl
        ·rintro e W3⟨rfl,hx⟩;exact⟨_,rfl,h.step hi rfl rfl _ (.inl ⟨by decide,fun h=>h.trans hx,fun h=>h.trans hx⟩)⟩)
      |(refine dH (fn:=109) (args:=#[Value.agg #[.string (bs gk),.string (bs gl),.string (bs gi),.int .i64 ga,.int .i64 gc',.string (bs gq),.string (bs gp),.string (bs gco),.string (bs gd),.string (bs gr)]]) rfl (aU rfl rfl e77 rfl) ?_ (cl _ hW) ?_
        ·simp[execOp,af, *,resolve,invoke,Deferred.ofValue];rfl
        ·rintro e W3⟨rfl,hx⟩;exact⟨_,rfl,h.step hi rfl rfl _ (.inl ⟨by decide,fun h=>h.trans hx,fun h=>h.trans hx⟩)⟩)
      |(refine dH (fn:=16) (args:=#[.string (bs gd),.string (bs lo)]) rfl (aU rfl rfl e77 rfl) ?_ (cc _ hW) ?_
        ·simp[execOp,af, *,resolve,invoke,Deferred.ofValue];rfl
        ·rintro e W3⟨rfl,hx⟩;exact⟨_,rfl,h.step hi rfl rfl _ (.inl ⟨by decide,fun h=>h.trans hx,fun h=>h.trans hx⟩)⟩)
      |(refine aX rfl (aU rfl rfl e77 rfl) _ ?_ (h.step hi rfl rfl _ (by first|exact .inl ⟨by decide,fun h=>h,fun h=>h⟩|exact .inr ⟨rfl,hW⟩));simp[execOp,af, *];try go_simp)
      |(refine ar rfl rfl _ ?_ (h.step hi rfl rfl _ (by first|exact .inl ⟨by decide,fun h=>h,fun h=>h⟩|exact .inr ⟨rfl,hW⟩));simp[execOp,af, *];try go_simp)
   have t3:decide (0<cmpI (valI gd) (valI lo))=false:=by rw[Mi,bA];exact d2
   generalize cmpI (valI gd) (valI lo)=y at *;by_cases d3:gr=[]
   ·by_cases d4:gd=[]
    focus
     obtain rfl:=HKK.out (fun h=>by
      rcases HBG.out.1 h with h|h|h
      ·exact d1 h
      ·exact d2 h
      ·exact h.2 d4)
     have u1:gr.isEmpty=true:=by rw[d3];rfl
     have u2:(!gd.isEmpty)=false:=by rw[d4];rfl
    rotate_left
    focus
     obtain rfl:=HH.out (HBG.out.2 (.inr (.inr ⟨d3,d4⟩)));have u1:gr.isEmpty=true:=by rw[d3];rfl
     have u2:(!gd.isEmpty)=true:=by simpa using d4
    all_goals
     clear HH HKK HBG d1 d2 d3 d4 t2;go_upto_region 15 with fail;have HD:Hid (Ext v9 v9.drew):=qh (iD _).drew
     go_region_held3 (fun w'=>w'.cell? ⟨G,0,none⟩=some (.string (bs gk))∧w'.cell? ⟨G,1,none⟩=some (.string (bs gl))∧w'.cell? ⟨G,2,none⟩=some (.string (bs gi))∧w'.cell? ⟨G,3,none⟩=some (.int .i64 ga)∧w'.cell? ⟨G,4,none⟩=some (.int .i64 gc')∧w'.cell? ⟨G,5,none⟩=some (.string (bs gq))∧w'.cell? ⟨G,6,none⟩=some (.string (bs gp))∧w'.cell? ⟨G,7,none⟩=some (.string (bs gco))∧w'.cell? ⟨G,8,none⟩=some (.string (bs gd))∧w'.cell? ⟨G,9,none⟩=some (.string (bs gr)))
      (go_keep)
      (first
       |(go_at_call 108;((with_reducible refine(ND.out _ (HE.out.ext (HX.out.trans HD.out))).mono ?_);rintro e w5⟨rfl,hx⟩);(replace HD:=HD.qt hx);(obtain⟨g0,g1,g2,g3,g4,g5,g6,g7,g8,g9⟩:=ax HB.out HD.out);clear hx)
       |(go_at_call 109;((with_reducible refine(LO.out _ (HE.out.ext (HX.out.trans HD.out))).mono ?_);rintro e w5⟨rfl,hx⟩);(replace HD:=HD.qt hx);(obtain⟨g0,g1,g2,g3,g4,g5,g6,g7,g8,g9⟩:=ax HB.out HD.out);clear hx)
       |(go_at_call 16;((with_reducible refine(CL.out _ (HE.out.ext (HX.out.trans HD.out))).mono ?_);rintro e w5⟨rfl,hx⟩);(replace HD:=HD.qt hx);(obtain⟨g0,g1,g2,g3,g4,g5,g6,g7,g8,g9⟩:=ax HB.out HD.out);clear hx)
       |fail)
     all_goals
      go_wp2_with fail;go_ret;exact⟨rfl,HX.out.trans HD.out⟩
   ·obtain rfl:=HKK.out (fun h=>by
     rcases HBG.out.1 h with h|h|h
     ·exact d1 h
     ·exact d2 h
     ·exact d3 h.1)
    have u1:gr.isEmpty=false:=by simpa using d3
    clear HH HKK HBG d1 d2 d3 t2;go_upto_region 15 with fail;refine PR (by kernel_rfl) ?_;change wpAny _ _ _ _ _ _ _ (World.drew v9);replace HB:=qh HB.out.drew;replace HX:=qh HX.out.drew;generalize World.drew v9=Wd at *;clear g0 g1 g2 g3 g4 g5 g6 g7 g8 g9
    have l8':∀W,Ext Wd W->(Instr.loadAt 24 (.pointer (some ⟨G,8,none⟩))).run prog W = .ok (Value.string (bs gd)) W:=fun W hx=>by
     obtain⟨g0,g1,g2,g3,g4,g5,g6,g7,g8,g9⟩:=ax HB.out hx;go_simp
    have f8:∀W:World,(Instr.fieldAt 60 (.pointer (some ⟨G,0,none⟩)) 8).run prog W = .ok (.pointer (some ⟨G,8,none⟩)) W:=fun W=>by go_simp
    have cn:∀W,Ext Wd W->Calls prog 108 #[.string (bs gd)] W fun e w'=>e = .returned (.bool false)∧Ext W w':=fun W hx=>ND.out W (HE.out.ext (HX.out.trans hx))
    have l60:∀W,Ext Wd W->(Instr.loadAt 60 (.pointer (some ⟨G,0,none⟩))).run prog W = .ok (Value.agg #[.string (bs gk),.string (bs gl),.string (bs gi),.int .i64 ga,.int .i64 gc',.string (bs gq),.string (bs gp),.string (bs gco),.string (bs gd),.string (bs gr)]) W:=fun W hx=>by
     obtain⟨g0,g1,g2,g3,g4,g5,g6,g7,g8,g9⟩:=ax HB.out hx;go_simp
    have cl:∀W,Ext Wd W->Calls prog 109 #[Value.agg #[.string (bs gk),.string (bs gl),.string (bs gi),.int .i64 ga,.int .i64 gc',.string (bs gq),.string (bs gp),.string (bs gco),.string (bs gd),.string (bs gr)]] W fun e w'=>e = .returned (.string (bs lo))∧Ext W w':=fun W hx=>LO.out W (HE.out.ext (HX.out.trans hx))
    have cc:∀W,Ext Wd W->Calls prog 16 #[.string (bs gd),.string (bs lo)] W fun e w'=>e = .returned (.int .i64 y)∧Ext W w':=fun W hx=>CL.out W (HE.out.ext (HX.out.trans hx))
    have l9':∀W,Ext Wd W->(Instr.loadAt 24 (.pointer (some ⟨G,9,none⟩))).run prog W = .ok (Value.string (bs gr)) W:=fun W hx=>by
     obtain⟨g0,g1,g2,g3,g4,g5,g6,g7,g8,g9⟩:=ax HB.out hx;go_simp
    have f9:∀W:World,(Instr.fieldAt 60 (.pointer (some ⟨G,0,none⟩)) 9).run prog W = .ok (.pointer (some ⟨G,9,none⟩)) W:=fun W=>by go_simp
    refine en (Inv:=GrInv _ _ (fun s=>(#[Value.pointer (some ⟨G,8,none⟩),Value.string (bs gd),Value.bool false,Value.bool false,Value.pointer (some ⟨G,8,none⟩),Value.string (bs gd),Value.agg #[.string (bs gk),.string (bs gl),.string (bs gi),.int .i64 ga,.int .i64 gc',.string (bs gq),.string (bs gp),.string (bs gco),.string (bs gd),.string (bs gr)],Value.string (bs lo),Value.int .i64 y,Value.bool false,Value.bool false,Value.bool false,Value.pointer (some ⟨G,9,none⟩),Value.string (bs gr),Value.bool false,Value.bool false,undef,undef,undef,Value.bool false,Value.bool false]:Array Value).getD (s-74) undef) 74 20 (fun W=>Ext Wd W) (fun W=>Ext Wd W)) ?hend ?hz ?hstep _ _ _ _ (GrInv.start _ (iD Wd))
    case hz=>exact fun listed a w' h=>eu (by have:=h.cnt;omega) h.size
    case hend =>
     intro f listed a w' h hr;obtain⟨ha,hj⟩:=h.fin (by decide) hr (by kernel_rfl);have ha2:a=({ tmps:=#[kB ⟨gk,gl,gi,ga,gc',gq,gp,gco,gd,gr⟩,Value.pointer (some ⟨G,0,none⟩),u2,undef,u4,Value.pointer (some ⟨G,0,none⟩),Value.string (bs gk),Value.bool true,Value.bool false,Value.bool false,Value.pointer (some ⟨G,1,none⟩),Value.string (bs gl),Value.bool true,Value.bool false,Value.bool false,Value.bool false,Value.pointer (some ⟨G,2,none⟩),Value.string (bs gi),Value.bool true,Value.bool false,Value.bool false,Value.pointer (some ⟨G,3,none⟩),Value.int .i64 ga,Value.pointer (some ⟨G,4,none⟩),Value.int .i64 gc',Value.slice (some ⟨SD,0,none⟩) 2 2,Value.bool true,Value.bool false,Value.pointer (some ⟨G,3,none⟩),Value.int .i64 ga,Value.pointer (some ⟨G,4,none⟩),Value.int .i64 gc',Value.bool false,Value.pointer (some ⟨G,5,none⟩),Value.string (bs gq),Value.pointer (some ⟨G,6,none⟩),Value.string (bs gp),Value.pointer (some ⟨G,7,none⟩),Value.string (bs gco),Value.pointer (some ⟨G,8,none⟩),Value.string (bs gd),Value.pointer (some ⟨G,9,none⟩),Value.string (bs gr),Value.slice (some ⟨S,0,none⟩) 5 5,Value.int .i64 5,Value.int .i64 5,Value.bool false,u47,u48,u49,u50,u51,u52,Value.pointer (some ⟨G,5,none⟩),Value.string (bs gq),Value.bool false,Value.bool false,Value.pointer (some ⟨G,7,none⟩),Value.string (bs gco),Value.bool false,Value.bool false,Value.bool false,Value.pointer (some ⟨G,9,none⟩),Value.string (bs gr),Value.bool false,Value.bool false,Value.bool false,Value.pointer (some ⟨G,9,none⟩),Value.string (bs gr),Value.pointer (some ⟨G,5,none⟩),Value.string (bs gq),Value.int .i64 z,Value.bool false,Value.bool false,Value.pointer (some ⟨G,8,none⟩),Value.string (bs gd),Value.bool false,Value.bool false,Value.pointer (some ⟨G,8,none⟩),Value.string (bs gd),Value.agg #[.string (bs gk),.string (bs gl),.string (bs gi),.int .i64 ga,.int .i64 gc',.string (bs gq),.string (bs gp),.string (bs gco),.string (bs gd),.string (bs gr)],Value.string (bs lo),Value.int .i64 y,Value.bool false,Value.bool false,Value.bool false,Value.pointer (some ⟨G,9,none⟩),Value.string (bs gr),Value.bool false,Value.bool false,undef,undef,undef,Value.bool false,Value.bool false],defers:=[] }:Act):=ha.trans (by kernel_rfl);clear ha;subst ha2;have HJ:=qh hj;clear h hr hj l8' f8 cn l60 cl cc l9' f9;go_wp2_with fail;go_ret;exact⟨rfl,HX.out.trans HJ.out⟩
    case hstep =>
     intro f listed a w' i h hi;have hW:Ext Wd w':=by rcases h.wld with ⟨_,h2⟩ | ⟨_,h2⟩ <;> exact h2
     have hlt:i<21:=bP hi;have hbz:∀s,s<74->a.tmps.getD s undef=_:=fun s hs=>h.base' (s:=s) (by show s<95;omega) (.inl hs)
     obtain rfl|rfl|rfl|rfl|rfl|rfl|rfl|rfl|rfl|rfl|rfl|rfl|rfl|rfl|rfl|rfl|rfl|rfl|rfl|rfl|rfl:i=0∨i=1∨i=2∨i=3∨i=4∨i=5∨i=6∨i=7∨i=8∨i=9∨i=10∨i=11∨i=12∨i=13∨i=14∨i=15∨i=16∨i=17∨i=18∨i=19∨i=20:=by omega
     all_goals have nd:=fun p (q:p<21)=>h.need hi rfl p q (show 74+p<95 by omega)
     all_goals have e1:a.tmps.getD 1 undef=Value.pointer (some ⟨G,0,none⟩):=hbz 1 (by omega)
     all_goals try have e74:a.tmps.getD 74 undef=Value.pointer (some ⟨G,8,none⟩):=nd 0 (by decide) rfl
     all_goals try have e75:a.tmps.getD 75 undef=Value.string (bs gd):=nd 1 (by decide) rfl
     all_goals try have e76:a.tmps.getD 76 undef=Value.bool false:=nd 2 (by decide) rfl
     all_goals try have e77:a.tmps.getD 77 undef=Value.bool false:=nd 3 (by decide) rfl
     all_goals try have e78:a.tmps.getD 78 undef=Value.pointer (some ⟨G,8,none⟩):=nd 4 (by decide) rfl
     all_goals try have e79:a.tmps.getD 79 undef=Value.string (bs gd):=nd 5 (by decide) rfl
     all_goals try have e80:a.tmps.getD 80 undef=Value.agg #[.string (bs gk),.string (bs gl),.string (bs gi),.int .i64 ga,.int .i64 gc',.string (bs gq),.string (bs gp),.string (bs gco),.string (bs gd),.string (bs gr)]:=nd 6 (by decide) rfl
     all_goals try have e81:a.tmps.getD 81 undef=Value.string (bs lo):=nd 7 (by decide) rfl
     all_goals try have e82:a.tmps.getD 82 undef=Value.int .i64 y:=nd 8 (by decide) rfl
     all_goals try have e83:a.tmps.getD 83 undef=Value.bool false:=nd 9 (by decide) rfl
     all_goals try have e84:a.tmps.getD 84 undef=Value.bool false:=nd 10 (by decide) rfl
     all_goals try have e85:a.tmps.getD 85 undef=Value.bool false:=nd 11 (by decide) rfl
     all_goals try have e86:a.tmps.getD 86 undef=Value.pointer (some ⟨G,9,none⟩):=nd 12 (by decide) rfl
     all_goals try have e87:a.tmps.getD 87 undef=Value.string (bs gr):=nd 13 (by decide) rfl
     all_goals try have e88:a.tmps.getD 88 undef=Value.bool false:=nd 14 (by decide) rfl
     all_goals try have e89:a.tmps.getD 89 undef=Value.bool false:=nd 15 (by decide) rfl
     all_goals try have e93:a.tmps.getD 93 undef=Value.bool false:=nd 19 (by decide) rfl
     all_goals try have e94:a.tmps.getD 94 undef=Value.bool false:=nd 20 (by decide) rfl
     all_goals first
      |exact cS rfl (uU rfl rfl e89 rfl) (h.step hi rfl rfl _ (.inl ⟨by decide,fun h=>h,fun h=>h⟩))
      |(refine dx (fn:=108) (args:=#[.string (bs gd)]) rfl rfl ?_ (cn _ hW) ?_
        ·simp[execOp,af, *,resolve,invoke,Deferred.ofValue];rfl
        ·rintro e W3⟨rfl,hx⟩;exact⟨_,rfl,h.step hi rfl rfl _ (.inl ⟨by decide,fun h=>h.trans hx,fun h=>h.trans hx⟩)⟩)
      |(refine dH (fn:=109) (args:=#[Value.agg #[.string (bs gk),.string (bs gl),.string (bs gi),.int .i64 ga,.int .i64 gc',.string (bs gq),.string (bs gp),.string (bs gco),.string (bs gd),.string (bs gr)]]) rfl (aU rfl rfl e77 rfl) ?_ (cl _ hW) ?_
        ·simp[execOp,af, *,resolve,invoke,Deferred.ofValue];rfl
        ·rintro e W3⟨rfl,hx⟩;exact⟨_,rfl,h.step hi rfl rfl _ (.inl ⟨by decide,fun h=>h.trans hx,fun h=>h.trans hx⟩)⟩)
      |(refine dH (fn:=16) (args:=#[.string (bs gd),.string (bs lo)]) rfl (aU rfl rfl e77 rfl) ?_ (cc _ hW) ?_
        ·simp[execOp,af, *,resolve,invoke,Deferred.ofValue];rfl
        ·rintro e W3⟨rfl,hx⟩;exact⟨_,rfl,h.step hi rfl rfl _ (.inl ⟨by decide,fun h=>h.trans hx,fun h=>h.trans hx⟩)⟩)
      |(refine aX rfl (aU rfl rfl e77 rfl) _ ?_ (h.step hi rfl rfl _ (by first|exact .inl ⟨by decide,fun h=>h,fun h=>h⟩|exact .inr ⟨rfl,hW⟩));simp[execOp,af, *];try go_simp)
      |(refine aX rfl (aU rfl rfl e85 rfl) _ ?_ (h.step hi rfl rfl _ (by first|exact .inl ⟨by decide,fun h=>h,fun h=>h⟩|exact .inr ⟨rfl,hW⟩));simp[execOp,af, *];try go_simp)
      |(refine ar rfl rfl _ ?_ (h.step hi rfl rfl _ (by first|exact .inl ⟨by decide,fun h=>h,fun h=>h⟩|exact .inr ⟨rfl,hW⟩));simp[execOp,af, *];try go_simp)
end
end Go.Proofs.YtaegjkllenlfpaaGreatDoor
