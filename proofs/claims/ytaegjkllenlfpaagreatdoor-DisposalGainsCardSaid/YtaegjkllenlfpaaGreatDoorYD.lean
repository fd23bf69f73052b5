/- The seat's texts, part YD. -/
import Derived.Test.YtaegjkllenlfpaaGreatDoorYC
set_option maxRecDepth 100000
set_option maxHeartbeats 8000000
namespace Go.Proofs.YtaegjkllenlfpaaGreatDoor
open Go.Proofs.Tryz
variable {f:FactV}{xs:List LotV}{ps:List Fr}{os:List OptV}{W W':World}{F G b o i:Nat}
section
open Go.RowKit
structure GnAll (ls:List LotV) (f:FactV) (gs:List GainV) (ss:List StepV):Prop where
 len:gs.length=ss.length
 nod:(gs.map (·.lot)).Nodup
 at_:∀g ∈ gs,∃i,∃hi:i<ls.length,findL ls g.lot=some i∧(ls[i]'hi).ins=f.ins∧(ls[i]'hi).acq=g.acq∧valI g.q<=valI (ls[i]'hi).q
 ins:∀g ∈ gs,g.ins=f.ins∧g.clo=f.day∧g.cause=f.key
 ok:∀g ∈ gs,g.acq<=g.clo->aR g=0
 st:∀k (h:k<gs.length) (h':k<ss.length),ss[k]'h'=⟨f.key,(gs[k]'h).lot,[],(gs[k]'h).q,[],(gs[k]'h).c⟩
theorem Gl{key ins:Bs}{day:Int}{x:LotV}{p:Bs}(hk:isName key=true)(hi:isName ins=true)(hd:dayOK day=true)(hx:checkL x=0)(hp:checkI p=0)(ho:x.acq<=day):aR (jk key ins day x p)=0:=by
 obtain⟨c1,c2,c3,c4,_⟩:=bg hx
 have h:isId x.id=true∧dayOK x.acq=true:=by
  unfold checkL at hx;split at hx
  ·cases hx
  rename_i g1
  split at hx
  ·cases hx
  rename_i g2
  simp only[Qo,QE,not_or,Bool.not_eq_false]at g1 g2;exact⟨g1.1,g2.1⟩
 have hl:=Ax (jk key ins day x p);have hnil:valI []=0:=by decide
 refine(IL _).k hk h.1 hi (by show(dayOK x.acq && dayOK day)=true;rw[h.2,hd];rfl) (by show ¬ day<x.acq;omega) (fun y hy=>?_) ?_ ?_
 ·have hy':y ∈ [x.q,p,x.c,[],[]]:=hy;simp only[MS,N7,Qg]at hy';rcases hy' with e|e|e|e|e <;> rw[e]
  ·exact c1
  ·exact hp
  ·exact c2
  ·decide
  ·decide
 ·show ¬ (valI x.q<0∨valI x.c<0∨valI []<0∨valI x.q<valI []);rw[hnil];omega
 ·rintro(h1|h1 | ⟨_,h1⟩)
  ·have h2:valI []<0:=h1;omega
  ·have h2:valI (dj (jk key ins day x p))<valI []:=h1;omega
  ·exact h1 rfl
theorem vA{ls:List LotV}{pr:List Bs}(hl:pr.length=xs.length)(hn:(ls.map (·.id)).Nodup)(hk:isName f.key=true)(hi:isName f.ins=true)(hd:dayOK f.day=true)(hp:∀b ∈ pr,checkI b=0)
  (hxn:(xs.map (·.id)).Nodup) (hx:∀x ∈ xs,checkL x=0∧∃y ∈ ls,y.id=x.id∧y.ins=f.ins∧y.acq=x.acq∧valI x.q<=valI y.q):GnAll ls f (cG f.key f.ins f.day xs pr) (cQ f.key xs):=by
 have hlen:=mo (key:=f.key) (ins:=f.ins) (day:=f.day) hl
 have key:∀g ∈ cG f.key f.ins f.day xs pr,∃x ∈ xs,∃p ∈ pr,g=jk f.key f.ins f.day x p:=by
  intro g hg;obtain⟨k,hk,rfl⟩:=Ok hg;obtain⟨_,hp,e⟩:=nQ (key:=f.key) (ins:=f.ins) (day:=f.day) hl (by rw[←hlen];exact hk);exact⟨_,Ml _,_,Ml hp,e⟩
 refine⟨by rw[hlen];simp[cQ],?_,fun g hg=>?_,fun g hg=>?_,fun g hg ho=>?_,fun k h h'=>?_⟩
 ·have e:(cG f.key f.ins f.day xs pr).map (·.lot)=xs.map (·.id):=by
   unfold cG;have e1:(xs.zip pr).map Prod.fst=xs:=List.map_fst_zip (by omega);rw[OH];conv=>rhs;rw[←e1,OH]
   rfl
  rw[e];exact hxn
 ·obtain⟨x,hxm,p,_,rfl⟩:=key g hg;obtain⟨_,y,hy,e1,e2,e3,e4⟩:=hx x hxm;obtain⟨i,hi,rfl⟩:=Ok hy;refine⟨i,hi,?_,e2,e3,e4⟩;show findL ls x.id=some i;rw[←e1];exact kN ls i hi hn
 ·obtain⟨x,_,p,_,rfl⟩:=key g hg;exact⟨rfl,rfl,rfl⟩
 ·obtain⟨x,hxm,p,hpm,rfl⟩:=key g hg;exact Gl hk hi hd (hx x hxm).1 (hp p hpm) ho
 ·have h2:k<xs.length:=by rw[←hlen];exact h
  obtain⟨_,_,e⟩:=nQ (key:=f.key) (ins:=f.ins) (day:=f.day) hl h2;rw[e];simp[cQ,jk,qz]
theorem vB{d:Int}(h1 : -25567<=d)(h2:d<=84005):dayOK d=true:=by
 unfold dayOK;simp[h1,h2]
theorem SelIn.gnAll{ls:List LotV}(h:SelIn ls f ps os)(n:Nat)(hq:valI f.qty<=totQ ls f.ins):GnAll ls f (cM ls f n ps) (kw ls f n ps):=by
 have s:=h.sale;have l:=h.ls n;obtain⟨hp,_⟩:=h.pick n hq;refine vA (ft (jr f) (aO ls f n ps)) (bD h.all) s.key s.ins (vB s.d0 s.d1) (fun b hb=>(h.prtLen n hq b hb).2) ?_ (fun x hx=>⟨(h.restOK n hq).2 x hx,?_⟩)
 ·have e:(aO ls f n ps).map (·.id)=(cC ls f n ps).map (·.num):=by
   apply Oi
   ·have:(aO ls f n ps).length=(cC ls f n ps).length:=iA l.all hp;simpa using this
   ·intro i h1 h2;simp only[Nb]at h1 h2;obtain⟨_,_,e,_⟩:=wZ l.all hp h2;have e':((aO ls f n ps)[i]'h1).id=((cC ls f n ps)[i]'h2).num:=e;simpa using e'
  rw[e];exact hp.ok.nod
 ·obtain⟨k,hk,rfl⟩:=Ok hx
  have hk2:k<(cC ls f n ps).length:=by
   have e:(aO ls f n ps).length=(cC ls f n ps).length:=iA l.all hp;rw[←e];exact hk
  obtain⟨hk',y,hy,e1,e2,e3⟩:=r8 l.all hp hk2;have e4:(aO ls f n ps)[k]'hk=if y.q=((cC ls f n ps)[k]'hk2).den then y else eF y ((cC ls f n ps)[k]'hk2).den:=e3;obtain⟨z,hz,f1,_,f2⟩:=hp.ok.at_ _ (Ml hk2);have:=pH (bD l.all) hy hz (f1.trans e2.symm);subst this
  have base:∃u ∈ ls,u.id=z.id∧u.ins=f.ins∧u.acq=z.acq∧valI z.q<=valI u.q:=by
   have hm:=hy;unfold bE at hm;split at hm
   ·rcases mM h.all hm with h1 | ⟨u,v,hu,rfl,_,_⟩
    ·exact⟨z,h1,rfl,e1,rfl,Ru _⟩
    ·exact⟨u,hu,rfl,e1,rfl,Ru _⟩
   ·exact⟨z,hm,rfl,e1,rfl,Ru _⟩
  obtain⟨u,hu,g1,g2,g3,g4⟩:=base;refine⟨u,hu,?_⟩;rw[e4];split
  ·exact⟨g1,g2,g3,g4⟩
  ·exact⟨g1,g2,g3,Int.le_trans f2 g4⟩
theorem Ec{ls:List LotV}(h:CalIn ls f ps os):GnAll ls f (gI ls f) (mp ls f):=by
 have s:=FN h.fe h.kd;have hnd:=bD h.all;refine vA (ft (jU ls f) (ofL ls f.ins)) hnd s.key s.ins (vB s.d0 s.d1) (fun b hb=>?_) (jJ hnd f.ins) (fun x hx=>?_)
 ·unfold dz at hb;obtain⟨v,_,rfl⟩:=MH.1 hb;exact eS _
 ·obtain⟨h1,h2⟩:=cj hx;exact⟨(av h.all).2 x h1,x,h1,rfl,h2,rfl,Ru _⟩
end
section
open Go.RowKit Go.Shelf
attribute [local go_sem] size_bs toList_bs
theorem Ed:(prog.info? 9).map (fun i=>(i.zero,i.size,i.bytes))=some (some (.string ⟨#[]⟩),1,16):=by kernel_rfl
theorem I2(ids:List Bs)(A:Option Addr)(c:Nat)(s:Bs)(w:World)(hA:RdS w A ids)(hn:ids.length<=1000000)(h:s ∉ ids) :
  Calls prog 34 #[.slice A ids.length c,.string (bs s)] w fun e w'=>e = .returned (.bool false)∧Ext w w':=by
 have HI:Hid (Calls prog 105 #[.slice A ids.length c,.string (bs s)] w fun e w'=>e = .returned (.int .i64 (-1))∧Ext w w'):=qh (by
  have HA:=qh hA;have HN:=qh h;clear hA h;go_enter func105,ntmps105;go_wp2_with fail;go_loopw [8,5] (fun i _ wr=>∃k:Nat,k<=ids.length∧i = .int .i64 k∧Ext w wr) (fun i _ _=>ids.length-(intOf i).toNat)
  case atStart=>exact⟨0,by omega,rfl,iD _⟩
  case round =>
   obtain⟨k,hk,rfl,hx⟩:=hrel;have HX:=qh hx;clear hx;by_cases hlt:k<ids.length
   ·obtain⟨b,o,rfl,hb,c0⟩:=(HA.out.ext HX.out).at_ hlt;have hne:s≠ids[k]'hlt:=fun e=>HN.out (by rw[e];exact Ml hlt)
    generalize (ids[k]'hlt)=x at *;have e1:(s == x)=false:=by rw[Mt];exact hne
    have e2:(x == s)=false:=by rw[Mt];exact Ol hne
    clear hne;go_wp2_with fail;go_roundw
    case rel=>exact⟨k+1,by omega,by go_num,HX.out⟩
    case measure=>simp[intOf];omega
   ·go_wp2_with fail;go_ret;exact⟨rfl,HX.out⟩)
 clear hA h;go_enter func34,ntmps34;go_wp2_with fail;refine HI.out.mono ?_;rintro e w1⟨rfl,hx1⟩;have HX:=qh hx1;clear hx1;go_wp2_with fail;go_ret;exact⟨rfl,HX.out⟩
theorem Gm(ls:List LotV)(A:Option Addr)(c:Nat)(f:FactV)(ps:List Fr)(os:List OptV)(pa oa:Option Addr)(pc oq:Nat)(w:World)(hE:Env w)(hA:aK w A ls)(hF:FactAt w f ps os pa oa pc)(hwf:(Lit.int .i64 f.kind).wf=true)(hs:∀x ∈ ls,SmallL x)(hn:ls.length<=100000)(h1:dY ls f ps os 14≠0) :
  Calls prog 26 #[.slice A ls.length c,aC f (ae pa ps.length pc) (ae oa os.length oq)] w fun e w'=>e = .returned (.tuple #[zR,.int .i64 (dY ls f ps os 14)])∧Ext w w':=by
 have CK:=qh (fun W (hx:Ext w W)=>sZ ls A c f ps os pa oa pc oq 14 W (hE.ext hx) (hA.ext hx) (hF.ext hx) hwf hs hn);have hs1:(prog.info? 30).map (·.size)=some (ag f (ae pa ps.length pc) (ae oa os.length oq)).toList.length:=by kernel_rfl
 have B0:=qh (((ID w 22 #[.slice A ls.length c]).alloc (.cells (ag f (ae pa ps.length pc) (ae oa os.length oq)) 30)).alloc (.cells #[.slice none 0 0,.slice none 0 0,.slice none 0 0,.slice none 0 0] rT));have B1:=qh ((Mf (w.alloc (.cells #[.slice A ls.length c] 22)) 30 (ag f (ae pa ps.length pc) (ae oa os.length oq)) (w.heap.size+1) (by simp)).alloc (.cells #[.slice none 0 0,.slice none 0 0,.slice none 0 0,.slice none 0 0] rT));have B3:=qh (Mf ((w.alloc (.cells #[.slice A ls.length c] 22)).alloc (.cells (ag f (ae pa ps.length pc) (ae oa os.length oq)) 30)) rT #[.slice none 0 0,.slice none 0 0,.slice none 0 0,.slice none 0 0] (w.heap.size+2) (by simp));have HX:Hid (Ext w (((w.alloc (.cells #[.slice A ls.length c] 22)).alloc (.cells (ag f (ae pa ps.length pc) (ae oa os.length oq)) 30)).alloc (.cells #[.slice none 0 0,.slice none 0 0,.slice none 0 0,.slice none 0 0] rT))):=qh (((Id _ _).alloc _).alloc _);clear hE hA hF hs hwf;generalize dY ls f ps os 14=z at *;go_enter func26,ntmps26;go_upto_region 1 with fail;generalize (((w.alloc (.cells #[.slice A ls.length c] 22)).alloc (.cells (ag f (ae pa ps.length pc) (ae oa os.length oq)) 30)).alloc (.cells #[.slice none 0 0,.slice none 0 0,.slice none 0 0,.slice none 0 0] rT))=w0 at *;obtain⟨X,hX⟩:∃X,w.heap.size=X:=⟨_,rfl⟩;rw[hX]at B0 B1 B3 ⊢;have q0:=boxCell B0.out;have hrg:=aL B1.out;go_wp2_with (first|refine bS (by kernel_rfl) 30 _ rfl (X+1) 0 rfl _ _ hrg M3 rfl hs1 ?_|fail);refine(CK.out _ HX.out).mono ?_;rintro e w1⟨rfl,hx1⟩;replace B3:=qh (B3.out.ext hx1);replace HX:=HX.qt hx1;clear hx1 CK q0 hrg B0 B1;have g1:(z != 0)=true:=by rw[Nc];exact h1
 clear h1;obtain⟨r0,r1,r2,r3⟩:=iq B3.out (iD _);have f0:=B3.out.frozen 0;have f1:=B3.out.frozen 1;have f2:=B3.out.frozen 2;have f3:=B3.out.frozen 3;go_wp2_with fail;have hB4:=lI (a := .slice none 0 0) (b := .slice none 0 0) (c := .slice none 0 0) (d := .slice none 0 0) B3.out;refine MI (du rfl _ _ (X+1+1) _ _ _ _ _ rfl rfl hB4) rfl ?_;exact⟨rfl,mH HX.out (by omega)⟩
def L5(ls:List LotV)(f:FactV)(w0:World)(R:Nat)(v:Value)(W:World):Prop:=∃A1 n1 c1 A2 n2 c2 A3 n3 c3 z,v = .int .i64 z∧Blk W R rT #[.slice A1 n1 c1,.slice A2 n2 c2,.slice A3 n3 c3,.slice none 0 0]∧Ext w0 W ∧
 (z=0->∃gs ss,GnAll ls f gs ss∧(∀g ∈ gs,SmallG g)∧gs.length<=1000∧n2=gs.length∧n3=ss.length∧dM W A2 gs∧oS W A3 ss)
def Bg(ls:List LotV)(f:FactV)(z:Int)(w:World)(e:Ending)(w':World):Prop:=∃A1 n1 c1 A2 n2 c2 A3 n3 c3,e = .returned (.tuple #[.agg #[.slice A1 n1 c1,.slice A2 n2 c2,.slice A3 n3 c3,.slice none 0 0],.int .i64 z]) ∧
 (z=0->∃gs ss,GnAll ls f gs ss∧(∀g ∈ gs,SmallG g)∧gs.length<=1000∧n2=gs.length∧n3=ss.length∧dM w' A2 gs∧oS w' A3 ss)∧Ext w w'
theorem I3{ls:List LotV}{n:Nat}(hn:GreatNo f ps os)(h:SelIn ls f ps os)(hq:valI f.qty<=totQ ls f.ins):(∀g ∈ cM ls f n ps,SmallG g)∧(cM ls f n ps).length<=1000:=by
 obtain⟨a,b⟩:=h.gnsLen n hq;refine⟨fun g hg=>?_,a⟩;obtain⟨b1,b2,b3⟩:=b g hg;obtain⟨k,hk,rfl⟩:=Ok hg;have hlen:=mo (key:=f.key) (ins:=f.ins) (day:=f.day) (ft (jr f) (aO ls f n ps));have hk2:k<(aO ls f n ps).length:=by unfold cM at hk;rw[hlen]at hk;exact hk
 obtain⟨_,hpk,e⟩:=nQ (key:=f.key) (ins:=f.ins) (day:=f.day) (ft (jr f) (aO ls f n ps)) hk2;have e2:(cM ls f n ps)[k]'hk=jk f.key f.ins f.day ((aO ls f n ps)[k]'hk2) ((dz (jr f) (aO ls f n ps))[k]'hpk):=e;have hf:=(h.takFine n hq _ (Ml hk2)).id;rw[e2]at b1 b2 b3 ⊢;exact⟨by show f.key.length<=1000;have:=hn.key;omega,by show((aO ls f n ps)[k]'hk2).id.length<=1000;omega,by show f.ins.length<=1000;have:=hn.ins;omega,by omega,by omega,by omega,by show([]:Bs).length<=1000;simp,by show([]:Bs).length<=1000;simp⟩
theorem Lf{ls:List LotV}(hn:GreatNo f ps os)(h:CalIn ls f ps os)(hv:(jU ls f).length<=900):(∀g ∈ gI ls f,SmallG g)∧(gI ls f).length<=1000:=by
 have hle:(ofL ls f.ins).length<=ls.length:=M8 _ _;refine⟨fun g hg=>?_,by rw[qW];have:=(av h.all).1;omega⟩;obtain⟨k,hk,rfl⟩:=Ok hg;have hk2:k<(ofL ls f.ins).length:=by rw[qW]at hk;exact hk
 have w:=Ld (f:=f) h.all (dG h.great) (by omega)
 have hw:∀x ∈ ((ofL ls f.ins).map (·.q)).map valI,0<=x:=by
  intro x hx;obtain⟨y,hy,rfl⟩:=MH.1 hx;exact w.nn y hy
 have hS:0<(((ofL ls f.ins).map (·.q)).map valI).sum:=w.sum;obtain⟨_,hpk,e⟩:=nQ (key:=f.key) (ins:=f.ins) (day:=f.day) (ft (jU ls f) (ofL ls f.ins)) hk2;have e2:(gI ls f)[k]'hk=jk f.key f.ins f.day ((ofL ls f.ins)[k]'hk2) ((dz (jU ls f) (ofL ls f.ins))[k]'hpk):=e
 have hb:((dz (jU ls f) (ofL ls f.ins))[k]'hpk).length<=901:=by
  have hb:=Ml hpk;generalize (dz (jU ls f) (ofL ls f.ins))[k]'hpk=b at *;unfold dz at hb;obtain⟨v,hv2,rfl⟩:=MH.1 hb;exact eR (l:=jU ls f) (xt hw hS v hv2) hv
 obtain⟨l1,l2,_,l4,_⟩:=fQ ((fD h.great).2 _ (cj (Ml hk2)).1);rw[e2];exact⟨by show f.key.length<=1000;have:=hn.key;omega,by show((ofL ls f.ins)[k]'hk2).id.length<=1000;omega,by show f.ins.length<=1000;have:=hn.ins;omega,by show((ofL ls f.ins)[k]'hk2).q.length<=1000;omega,by show((dz (jU ls f) (ofL ls f.ins))[k]'hpk).length<=1000;omega,by show((ofL ls f.ins)[k]'hk2).c.length<=1000;omega,by show([]:Bs).length<=1000;simp,by show([]:Bs).length<=1000;simp⟩
theorem oK{P O:Value}{x:GainV}(hf:Blk W F 30 (ag f P O))(hg:Blk W G 60 (dr x))(hx:Ext W W') :
  W'.cell? ⟨F,0,none⟩=some (.string (bs f.key))∧W'.cell? ⟨F,3,none⟩=some (.int .i64 f.day)∧W'.cell? ⟨F,5,none⟩=some (.string (bs f.ins))∧W'.cell? ⟨G,0,none⟩=some (.string (bs x.cause))∧W'.cell? ⟨G,1,none⟩=some (.string (bs x.lot))∧W'.cell? ⟨G,2,none⟩=some (.string (bs x.ins))∧W'.cell? ⟨G,3,none⟩=some (.int .i64 x.acq)∧W'.cell? ⟨G,4,none⟩=some (.int .i64 x.clo)∧W'.cell? ⟨G,5,none⟩=some (.string (bs x.q))∧W'.cell? ⟨G,7,none⟩=some (.string (bs x.c)):=by
 have k:=hf.ext hx;have l:=hg.ext hx;exact⟨k.cell 0,k.cell 3,k.cell 5,l.cell 0,l.cell 1,l.cell 2,l.cell 3,l.cell 4,l.cell 5,l.cell 7⟩
theorem Lg{ls:List LotV}(h:aK W (some ⟨b,o,none⟩) ls)(hi:i<ls.length):W.cell? ⟨b,o+i*7+1,none⟩=some (.string (bs (ls[i]'hi).ins))∧W.cell? ⟨b,o+i*7+2,none⟩=some (.int .i64 (ls[i]'hi).acq)∧W.cell? ⟨b,o+i*7+4,none⟩=some (.string (bs (ls[i]'hi).q)):=by
 obtain⟨b',o',e,_,c0,c1,c2,c3,c4,c5,c6⟩:=h.at_ hi;injection e with e
 injection e with e1 e2
 subst e1 e2;exact⟨c1,c2,c4⟩
theorem L6{ss:List StepV}(h:oS W (some ⟨b,o,none⟩) ss)(hi:i<ss.length):W.cell? ⟨b,o+i*6,none⟩=some (.string (bs (ss[i]'hi).cause))∧W.cell? ⟨b,o+i*6+1,none⟩=some (.string (bs (ss[i]'hi).frm))∧W.cell? ⟨b,o+i*6+2,none⟩=some (.string (bs (ss[i]'hi).to_))∧W.cell? ⟨b,o+i*6+3,none⟩=some (.string (bs (ss[i]'hi).q))∧W.cell? ⟨b,o+i*6+4,none⟩=some (.string (bs (ss[i]'hi).made))∧W.cell? ⟨b,o+i*6+5,none⟩=some (.string (bs (ss[i]'hi).c)):=by
 obtain⟨b',o',e,_,c0,c1,c2,c3,c4,c5⟩:=h.at_ hi;injection e with e
 injection e with e1 e2
 subst e1 e2;exact⟨c0,c1,c2,c3,c4,c5⟩
theorem wj(ls:List LotV)(A:Option Addr)(c:Nat)(f:FactV)(ps:List Fr)(os:List OptV)(pa oa:Option Addr)(pc oq:Nat)(n:Int)(w:World)(hE:Env w)(hL:LawIn w ls A f ps os pa oa pc) :
  Calls prog 7 #[.slice A ls.length c,aC f (ae pa ps.length pc) (ae oa os.length oq),.int .i64 n] w fun e w'=>e = .returned (.bool true)∧Ext w w':=by
 have HE:=qh hE;have HL:=qh hL;have HB:=qh (ID w 30 (ag f (ae pa ps.length pc) (ae oa os.length oq)));have HX:Hid (Ext w (w.alloc (.cells (ag f (ae pa ps.length pc) (ae oa os.length oq)) 30))):=qh (Id _ _);have hs1:(prog.info? 30).map (·.size)=some (ag f (ae pa ps.length pc) (ae oa os.length oq)).toList.length:=by kernel_rfl
 have GR:=qh (fun W (hx:Ext w W)=>FU ls A c f ps os pa oa pc oq W (hL.la.ext hx) (hL.rp.ext hx) (hL.ro.ext hx) hL.np hL.no hL.nl);clear hE hL;go_enter func7,ntmps7;go_upto_region 1 with fail;generalize w.alloc (.cells (ag f (ae pa ps.length pc) (ae oa os.length oq)) 30)=w0 at *;generalize hF0:w.heap.size=F at *;obtain⟨FV,hfv⟩:∃FV,aC f (ae pa ps.length pc) (ae oa os.length oq)=FV:=⟨_,rfl⟩;rw[hfv]at GR ⊢;have HFV:Hid (Value.agg (ag f (ae pa ps.length pc) (ae oa os.length oq)).toList.toArray=FV):=qh hfv;have HF2:=qh hfv;clear hfv;have hrg:=aL HB.out;go_wp2_with (first|refine kU (by kernel_rfl) 30 _ rfl F 0 rfl _ _ hrg M3 rfl hs1 _ HFV.out ?_|fail);refine(GR.out _ HX.out).mono ?_;rintro e w1⟨⟨b,rfl,hb⟩,hx1⟩;replace HX:=HX.qt hx1;replace HB:=qh (HB.out.ext hx1);clear hx1 GR hrg
 cases b;rotate_left
 ·clear hb;go_wp2_with fail;refine(mj _ (HE.out.ext HX.out)).mono ?_;rintro e v9⟨rfl,hx1⟩;replace HX:=HX.qt hx1;clear hx1;go_wp2_with fail;go_ret;exact⟨rfl,HX.out⟩
 obtain⟨hg,hn⟩:=hb rfl;have HG:=qh hg;have HN:=qh hn;have HFA:=qh (HL.out.fact hn);have hsm:=dG hg;have hgr:=fD hg;have hln:ls.length<=100000:=by have:=hgr.1;omega
 have hle:(ofL ls f.ins).length<=ls.length:=M8 _ _
 have hql:(ofI (totQ ls f.ins)).length<=20:=by
  have e2:totQ ls f.ins=aV ((ofL ls f.ins).map (·.q)):=by unfold totQ aV;rw[OH];rfl
  rw[e2];refine jD 13 _ (fun b hb=>?_) (by rw[Nb];omega);obtain⟨z,hz,rfl⟩:=MH.1 hb;exact(fQ (hgr.2 z (cj hz).1)).1
 have hpn:f.price.num.length<=30:=by have:=hn.pr.1;omega
 have hpd:f.price.den.length<=30:=by have:=hn.pr.2;omega
 have hvl:(jU ls f).length<=62:=ni (uW (L:=30) (by decide) hpn hpd (by omega))
 have SX:Hid (∀W,Ext w W->Calls prog 13 #[.slice A ls.length c,aC f (ae pa ps.length pc) (ae oa os.length oq),.int .i64 n] W (Bg ls f (gP ls f ps os n) W)):=qh (fun W hx=>by
  by_cases hz:gP ls f ps os n=0
  ·have hgo:=DF hg hz;obtain⟨s1,s2⟩:=I3 (n:=n.toNat) hn hgo.inn hgo.q;refine(FW ls A c f ps os pa oa pc oq n W (HE.out.ext hx) (HL.out.la.ext hx) (HFA.out.ext hx) hgo).mono ?_;rintro e w'⟨Ra,ra,Rb,rb,Rc,rc,rfl,_,h3,h4,hx1⟩;exact⟨_,_,_,_,_,_,_,_,_,by rw[hz],fun _=>⟨_,_,hgo.inn.gnAll n.toNat hgo.q,s1,s2,rfl,rfl,h3,h4⟩,hx1⟩
  ·refine(IT ls A c f ps os pa oa pc oq n W (HE.out.ext hx) (HL.out.la.ext hx) (HFA.out.ext hx) HL.out.wf hg hz).mono ?_;rintro e w'⟨rfl,hx1⟩;exact⟨_,_,_,_,_,_,_,_,_,rfl,fun h=>absurd h hz,hx1⟩)
 have CX:Hid (∀W,Ext w W->Calls prog 26 #[.slice A ls.length c,aC f (ae pa ps.length pc) (ae oa os.length oq)] W (Bg ls f (dY ls f ps os 14) W)):=qh (fun W hx=>by
  by_cases hz:dY ls f ps os 14=0
  ·have hci:CalIn ls f ps os:=by
    rcases mU ls f ps os 14 with ⟨_,e⟩ | ⟨_,_,_,e⟩ | ⟨a,b,c',_⟩
    ·rw[e]at hz;exact absurd hz (by decide)
    ·rw[e]at hz;exact absurd hz (by decide)
    ·exact⟨hg,a,b,c'⟩
   obtain⟨s1,s2⟩:=Lf hn hci (by omega);refine(Gk ls A c f ps os pa oa pc oq W (HE.out.ext hx) (HL.out.la.ext hx) (HFA.out.ext hx) hci (by omega) (by omega) (by omega)).mono ?_;rintro e w'⟨Ra,ra,Rb,rb,Rc,rc,rfl,_,h3,h4,hx1⟩;exact⟨_,_,_,_,_,_,_,_,_,by rw[hz],fun _=>⟨_,_,Ec hci,s1,s2,rfl,rfl,h3,h4⟩,hx1⟩
  ·refine(Gm ls A c f ps os pa oa pc oq W (HE.out.ext hx) (HL.out.la.ext hx) (HFA.out.ext hx) HL.out.wf hsm hln hz).mono ?_;rintro e w'⟨rfl,hx1⟩;exact⟨_,_,_,_,_,_,_,_,_,rfl,fun h=>absurd h hz,hx1⟩)
 rw[HF2.out]at SX CX;have LF:=qh (fun id W (hx:Ext w W)=>nY ls A c id W (HL.out.la.ext hx) (by omega));have HLN:=qh hgr.1;have HSL:Hid (∀x ∈ ls,x.q.length<=4000):=qh (fun x hx=>by have:=(fQ (hgr.2 x hx)).1;omega);clear hb hg hn hsm hgr hln hle hql hpn hpd hvl HG HN HFA;generalize gP ls f ps os n=z at *;generalize dY ls f ps os 14=zc at *;have hrg:=aL HB.out;go_wp2_with (first|refine kU (by kernel_rfl) 30 _ rfl F 0 rfl _ _ hrg M3 rfl hs1 _ HFV.out ?_|fail);refine(SX.out _ HX.out).mono ?_;rintro e w4⟨A1,n1,c1,A2,n2,c2,A3,n3,c3,rfl,hgs,hx1⟩;replace HX:=HX.qt hx1;replace HB:=qh (HB.out.ext hx1);have HGS:=qh hgs;have HR:=qh (ID w4 39 #[.slice A1 n1 c1,.slice A2 n2 c2,.slice A3 n3 c3,.slice none 0 0]);have HXN:Hid (Ext w4 (w4.alloc (.cells #[.slice A1 n1 c1,.slice A2 n2 c2,.slice A3 n3 c3,.slice none 0 0] 39))):=qh (Id _ _);clear hx1 hrg SX hgs;go_upto_region 4 with fail;generalize w4.alloc (.cells #[.slice A1 n1 c1,.slice A2 n2 c2,.slice A3 n3 c3,.slice none 0 0] 39)=W4 at *;generalize hR4:w4.heap.size=R at *;have x4:=(HB.out.ext HXN.out).cell 4;simp only[Mk,Mm,Ms]at x4;go_upto_if 27 with fail
 go_cut [8] (fun v8 wx=>L5 ls f w4 R v8 wx)
 case first =>
  by_cases hk:f.kind=14;rotate_left
  ·have g1:(f.kind == 14)=false:=by rw[Mt];exact hk
   go_wp2_with fail;go_meet
   refine⟨A1,n1,c1,A2,n2,c2,A3,n3,c3,z,rfl,HR.out,HXN.out,fun h=>?_⟩;obtain⟨gs,ss,h1,h2,h3,h4,h5,h6,h7⟩:=HGS.out h;exact⟨gs,ss,h1,h2,h3,h4,h5,h6.ext HXN.out,h7.ext HXN.out⟩
  have g1:(f.kind == 14)=true:=by rw[Np];exact hk
  clear hk HGS;have HB2:=qh (HB.out.ext HXN.out);have hrg:=aL HB2.out;go_wp2_with (first|refine kU (by kernel_rfl) 30 _ rfl F 0 rfl _ _ hrg M3 rfl hs1 _ HFV.out ?_|fail);refine(CX.out _ (HX.out.trans HXN.out)).mono ?_;rintro e w5⟨B1,m1,d1,B2,m2,d2,B3,m3,d3,rfl,hgs,hx1⟩;have HR2:=qh (HR.out.ext hx1);have HX5:=HXN.qt hx1;have HGS:=qh hgs;clear hx1 hrg hgs HR HB2 x4;have f0:=HR2.out.frozen 0;have f1:=HR2.out.frozen 1;have f2:=HR2.out.frozen 2;have f3:=HR2.out.frozen 3;obtain⟨r0,r1,r2,r3⟩:=iq HR2.out (iD _);go_wp2_with fail;go_meet
  have hB4:=lI (a := .slice B1 m1 d1) (b := .slice B2 m2 d2) (c := .slice B3 m3 d3) (d := .slice none 0 0) HR2.out;refine⟨B1,m1,d1,B2,m2,d2,B3,m3,d3,zc,rfl,hB4,mH HX5.out (by omega),fun h=>?_⟩;obtain⟨gs,ss,h1,h2,h3,h4,h5,h6,h7⟩:=HGS.out h;exact⟨gs,ss,h1,h2,h3,h4,h5,kJ h6 HR2.out ⟨_,_,_,rfl⟩ ⟨_,_,_,rfl⟩ ⟨_,_,_,rfl⟩ ⟨_,_,_,rfl⟩ (zj _),kJ h7 HR2.out ⟨_,_,_,rfl⟩ ⟨_,_,_,rfl⟩ ⟨_,_,_,rfl⟩ ⟨_,_,_,rfl⟩ (zk _)⟩
 case rest =>
  obtain⟨B1,m1,d1,B2,m2,d2,B3,m3,d3,z2,rfl,hr,hx1,hgs⟩:=hcut;replace HX:=HX.qt hx1;replace HB:=qh (HB.out.ext hx1);have HR:=qh hr;clear hx1 hr HGS CX HXN;by_cases hz:z2=0;rotate_left
  ·have g1:(z2 != 0)=true:=by rw[Nc];exact hz
   clear hz hgs;go_wp2_with fail;refine(mj _ (HE.out.ext HX.out)).mono ?_;rintro e v9⟨rfl,hx1⟩;replace HX:=HX.qt hx1;clear hx1;go_wp2_with fail;go_ret;exact⟨rfl,HX.out⟩
  obtain⟨gs,ss,h1,h2,h3,rfl,rfl,h6,h7⟩:=hgs hz;subst hz;have HGA:=qh h1;have HSM:=qh h2;have HGL:=qh h3;have HRG:=qh h6;have HRS:=qh h7;have hsl:=h1.len;rw[←hsl]at HR;clear h1 h2 h3 h6 h7 hgs hsl;obtain⟨q0,q1,q2,q3⟩:=iq HR.out (iD _);have hbl:((gs.length:Int) != (gs.length:Int))=false:=by simp
  obtain⟨i0,hI,hz0,hz1,hz2⟩:=Ny Ed;have HI:=qh hI;clear hI;go_wp2_with fail;go_loopw [47,10,12,13,9] (fun i _ _ _ v9 wr=>∃k A9 c9,k<=gs.length∧i = .int .i64 (k:Nat)∧v9 = .slice A9 k c9∧wr.ownsRow wc.heap.size 9 1 v9 k (scells ((gs.map (·.lot)).take k))∧Ext wc wr) (fun i _ _ _ _ _=>gs.length-(intOf i).toNat)
  case atStart=>exact⟨0,none,0,by omega,rfl,rfl,by simpa[scells] using NF _ _ _ _,iD _⟩
  case round =>
   clear q0 q1 q2 q3;obtain⟨k,A9,c9,hk,rfl,rfl,how,hx⟩:=hrel;have HO:=qh how;have HXX:=qh hx;clear how hx;by_cases hlt:k<gs.length;rotate_left
   ·have hke:k=gs.length:=by omega
    subst hke;have hki:¬ ((gs.length:Int)<(gs.length:Int)):=by omega
    replace HX:=qh (HX.out.trans HXX.out);clear HO HXX HI;go_wp2_with fail;refine(mj _ (HE.out.ext HX.out)).mono ?_;rintro e v9⟨rfl,hx1⟩;replace HX:=HX.qt hx1;clear hx1;go_wp2_with fail;go_ret;exact⟨rfl,HX.out⟩
   obtain⟨b,o,rfl,hb,c0,c1,c2,c3,c4,c5,c6,c7,c8,c9'⟩:=(HRG.out.ext HXX.out).at_ hlt;have hki:(k:Int)<(gs.length:Int):=by omega
   have hk0:(0:Int)<=(k:Int):=by omega
   have hkm:k<=1000:=by have:=HGL.out;omega
   have hlt2:k<ss.length:=by rw[←HGA.out.len];exact hlt
   obtain⟨i,hi,hf,e1,e2,e3⟩:=HGA.out.at_ _ (Ml hlt);obtain⟨j1,j2,j3⟩:=HGA.out.ins _ (Ml hlt);have hok:=HGA.out.ok _ (Ml hlt);have hst:=HGA.out.st k hlt hlt2;have hsm:=HSM.out _ (Ml hlt)
   have hnt:(gs[k]'hlt).lot ∉ (gs.map (·.lot)).take k:=by
    have hn:=HGA.out.nod;intro hm;obtain⟨j,hj,ej⟩:=Ok hm;rw[Mu,Nb]at hj;rw[List.getElem_take]at ej;have h1:(gs.map (·.lot))[j]'(by rw[Nb];omega)=(gs.map (·.lot))[k]'(by rw[Nb];exact hlt):=by rw[ej,Ry]
    have:=(List.getElem_inj hn).1 h1;omega
   have hsn:(gs.map (·.lot))[k]? = some (gs[k]'hlt).lot:=by rw[Oo,Mr hlt];rfl
   have HSN:=qh (lH _ hsn);have htk:((gs.map (·.lot)).take k).length=k:=by rw[Mu,Nb];omega
   have nt:=fun W (hx:Ext wr W)=>I2 ((gs.map (·.lot)).take k) A9 c9 (gs[k]'hlt).lot W (by
    have h:=Reads.own HO.out;unfold RdS;rw[htk];exact Reads.ext h hx) (by omega) hnt
   rw[htk]at nt;have NT:=qh nt;have lfk:=LF.out (gs[k]'hlt).lot;rw[show jv ls (gs[k]'hlt).lot=(i:Int) from by unfold jv;rw[hf],hf,Rg]at lfk;have LFK:=qh lfk;have hqs:(ls[i]'hi).q.length<=4000:=HSL.out _ (Ml hi);have CP:=qh (fun W (hx:Ext w W)=>cmpP (gs[k]'hlt).q (ls[i]'hi).q (by have:=hsm.q;omega) (by omega) W (HE.out.ext hx))
   have hcp:decide (0<cmpI (valI (gs[k]'hlt).q) (valI (ls[i]'hi).q))=false:=by
    rw[Mi,bA];omega
   have DC:=qh (fun W (hx:Ext w W)=>oG (gs[k]'hlt) hsm W (HE.out.ext hx));obtain⟨bl,ol,hAl,hbl2,_,_,_,_,_,_,_⟩:=(HL.out.la.ext (HX.out.trans HXX.out)).at_ hi;obtain⟨bt,ot,hCt,hbt,_,_,_,_,_,_⟩:=(HRS.out.ext HXX.out).at_ hlt2;subst hAl hCt;have HLC:=qh (fun W (hx:Ext wr W)=>Lg (HL.out.la.ext (HX.out.trans (HXX.out.trans hx))) hi);have htc:=fun W (hx:Ext wc W)=>L6 (HRS.out.ext hx) hlt2
   rw[hst]at htc;have HTC:=qh htc;have hii:(i:Int)<(ls.length:Int):=by omega
   have hi0:(0:Int)<=(i:Int):=by omega
   have HII:=qh hi;clear hst hsm hnt hsn htk hqs hf htc hbl2 hbt nt lfk;generalize (gs[k]'hlt)=g at *;generalize (ls[i]'hi)=y at *;generalize cmpI (valI g.q) (valI y.q)=cv at *;obtain⟨yi,yn,ya,yo,yq,yc,yu⟩:=y;obtain⟨gk,gl,gi,ga,gc',gq,gp,gco,gd,gr⟩:=g;simp only at c0 c1 c2 c3 c4 c5 c6 c7 c8 c9' e1 e2 j1 j2 j3 hok HSN NT LFK CP DC HLC HTC;subst e1 e2 j1 j2 j3;simp only[show bs ([]:Bs)=⟨#[]⟩ from rfl]at HTC;have HOK:=qh hok;generalize hcz:aR ⟨f.key,gl,f.ins,ya,f.day,gq,gp,gco,gd,gr⟩=cz at *;clear hcz hok e3;go_upto_region 14 with fail;have BX:=qh (ID wr 60 (dr ⟨f.key,gl,f.ins,ya,f.day,gq,gp,gco,gd,gr⟩));have HXA:Hid (Ext wr (wr.alloc (.cells (dr ⟨f.key,gl,f.ins,ya,f.day,gq,gp,gco,gd,gr⟩) 60))):=qh (Id _ _);have HLO:=qh (Ah HO.out);clear c0 c1 c2 c3 c4 c5 c6 c7 c8 c9';generalize wr.alloc (.cells #[.string (bs f.key),.string (bs gl),.string (bs f.ins),.int .i64 ya,.int .i64 f.day,.string (bs gq),.string (bs gp),.string (bs gco),.string (bs gd),.string (bs gr)] 60)=w5 at *;obtain⟨X8,hX8⟩:∃X8,wr.heap.size=X8:=⟨_,rfl⟩;rw[hX8]at BX HLO ⊢;clear hX8;obtain⟨f0,f3,f5,g0,g1,g2,g3,g4,g5,g7⟩:=oK (HB.out.ext (HXX.out.trans HXA.out)) BX.out (iD _);go_wp2_with fail;refine(LFK.out _ (HX.out.trans (HXX.out.trans HXA.out))).mono ?_;rintro e w6⟨rfl,hx1⟩;replace HXA:=HXA.qt hx1;replace BX:=qh (BX.out.ext hx1);clear hx1 LFK f0 f3 f5 g0 g1 g2 g3 g4 g5 g7;obtain⟨f0,f3,f5,g0,g1,g2,g3,g4,g5,g7⟩:=oK (HB.out.ext (HXX.out.trans HXA.out)) BX.out (iD _);obtain⟨l1,l2,l4⟩:=HLC.out _ HXA.out;have hi0':decide ((i:Int)<0)=false:=by rw[Mi];omega
   have hil:decide ((ls.length:Int)<=(i:Int))=false:=by rw[Mi];omega
   have hil2:decide (ls.length<=i)=false:=by rw[Mi];omega
   have hil3:¬ ((ls.length:Int)<=(i:Int)):=by omega
   go_upto_region 15 with fail;dsimp only[List.append];have HD:Hid (Ext w6 w6.drew):=qh (iD w6).drew
   go_region_held3 (fun w'=>w'.cell? ⟨F,0,none⟩=some (.string (bs f.key))∧w'.cell? ⟨F,3,none⟩=some (.int .i64 f.day)∧w'.cell? ⟨F,5,none⟩=some (.string (bs f.ins))∧w'.cell? ⟨X8,0,none⟩=some (.string (bs f.key))∧w'.cell? ⟨X8,1,none⟩=some (.string (bs gl))∧w'.cell? ⟨X8,2,none⟩=some (.string (bs f.ins))∧w'.cell? ⟨X8,3,none⟩=some (.int .i64 ya)∧w'.cell? ⟨X8,4,none⟩=some (.int .i64 f.day)∧w'.cell? ⟨X8,5,none⟩=some (.string (bs gq))∧w'.cell? ⟨bl,ol+i*7+1,none⟩=some (.string (bs f.ins))∧w'.cell? ⟨bl,ol+i*7+2,none⟩=some (.int .i64 ya)∧w'.cell? ⟨bl,ol+i*7+4,none⟩=some (.string (bs yq)))
    (go_keep)
    (first
     |(go_at_call 34;((with_reducible refine(NT.out _ (HXA.out.trans HD.out)).mono ?_);rintro e wA⟨rfl,hx⟩);(replace HD:=HD.qt hx);(obtain⟨f0,f3,f5,g0,g1,g2,g3,g4,g5,g7⟩:=oK (HB.out.ext (HXX.out.trans HXA.out)) BX.out HD.out);(obtain⟨l1,l2,l4⟩:=HLC.out _ (HXA.out.trans HD.out));clear hx NT)
     |(go_at_call 16;((with_reducible refine(CP.out _ (HX.out.trans (HXX.out.trans (HXA.out.trans HD.out)))).mono ?_);rintro e wB⟨rfl,hx⟩);(replace HD:=HD.qt hx);(obtain⟨f0,f3,f5,g0,g1,g2,g3,g4,g5,g7⟩:=oK (HB.out.ext (HXX.out.trans HXA.out)) BX.out HD.out);(obtain⟨l1,l2,l4⟩:=HLC.out _ (HXA.out.trans HD.out));clear hx CP)
     |fail)
   have hx1:=HD.out;replace HXA:=HXA.qt hx1;replace BX:=qh (BX.out.ext hx1);clear HD hx1 f0 f3 f5 g0 g2 g3 g4 g5 g7 l1 l2 l4 HLC hi0' hil hil2 hil3;have HO4:=qh (own_ext2 (own_ext2 HO.out HXA.out) (Id wB (.cells #[.string (bs gl)] 9)));have HX4:=qh ((HXX.out.trans HXA.out).trans (Id wB (.cells #[.string (bs gl)] 9)));have BX4:=qh (BX.out.ext (Id wB (.cells #[.string (bs gl)] 9)));have hsz:=HX4.out.size;have hlow:=iB HO4.out;clear HO;go_wp2_with (at_builtin;go_must (refine OE _ rfl (.tmp 129) (.tmp 132) 65 rfl wc.heap.size 9 i0 _ 1 16 underlying65 HI.out hz0 hz1 hz2 rfl (by decide) _ k (scells ((gs.map (fun x:GainV=>x.lot)).take k)) rfl HO4.out ⟨wB.heap.size,0,none⟩ 1 1 [.string (bs gl)] rfl rfl (M7 (M4 wB _)) (by simp[Value.oneCell']) (by simp only[maxLen];omega) (by omega) hsz ?_);intro v2 w7 hown' hgrow hnil;refine gm ?_);obtain⟨A3,c3,rfl⟩:=aF hown';clear hnil;have HO5:=qh hown';have HX5:=qh (HX4.out.grown hgrow hlow);have BX5:Hid (Blk w7 X8 60 (dr ⟨f.key,gl,f.ins,ya,f.day,gq,gp,gco,gd,gr⟩)):=qh ((No hgrow X8 BX4.out.lt (fun e=>absurd (HLO.out X8 e.symm) (Nat.lt_irrefl _))).trans BX4.out);obtain⟨g0,g1,g2,g3,g4,g5,g6,g7,g8,g9⟩:=ax BX5.out (iD _);have f0:=(HB.out.ext HX5.out).cell 0;simp only[Mk,Mm]at f0;obtain⟨t0,t1,t2,t3,t4,t5⟩:=HTC.out _ HX5.out;obtain⟨r0,r1,r2,r3⟩:=iq HR.out HX5.out;rw[HSN.out]at HO5;clear HSN BX BX4 HX4 HO4 hsz hlow hgrow hown' HXX HXA HTC HLO;by_cases hle:ya<=f.day
   ·have gle:decide (ya<=f.day)=true:=by simpa using hle
    have hcz:=HOK.out hle;rw[hcz]at DC;clear hle hcz HOK;refine eE ?_;go_wp2_with fail;go_quiet (fail);go_wp2_with fail;refine(DC.out _ ((HX.out.trans HX5.out).drewN _)).mono ?_;rintro e w8⟨rfl,hx1⟩;have HXa:=qh (((iD w7).drewN _).trans hx1);have HX6:=qh (HX5.out.trans HXa.out);clear hx1 DC;go_wp2_with fail;go_roundw
    case rel=>exact⟨k+1,A3,c3,by omega,by go_num,rfl,own_ext2 HO5.out HXa.out,HX6.out⟩
    case measure=>simp[intOf];omega
   ·have gle:decide (ya<=f.day)=false:=by simpa using hle
    clear hle HOK DC;refine eE ?_;go_wp2_with fail;go_quiet (fail);go_wp2_with fail;go_roundw
    case rel=>exact⟨k+1,A3,c3,by omega,by go_num,rfl,own_ext2 HO5.out ((iD w7).drewN _),HX5.out.drewN _⟩
    case measure=>simp[intOf];omega
end
section
open Go.RowKit Go.Shelf
theorem dlGains(ls:List LotV)(A:Option Addr)(c:Nat)(f:FactV)(ps:List Fr)(os:List OptV)(pa oa:Option Addr)(pc oq:Nat)(n:Int)(W:World)(hR:aK W A ls)(_:ls.length<=c)(hn:ls.length<=4611686018427387904)(hF:FactIn W f ps os pa oa pc oq)(hE:Env W) :
  Calls prog 7 #[.slice A ls.length c,aC f (ae pa ps.length pc) (ae oa os.length oq),.int .i64 n] W fun e w'=>e = .returned (.bool true)∧Ext W w' :=
 wj ls A c f ps os pa oa pc oq n W hE ⟨hR,hF.rp,hF.cp,hF.ro,hF.wf,hn,hF.np,hF.no⟩
end
end Go.Proofs.YtaegjkllenlfpaaGreatDoor
