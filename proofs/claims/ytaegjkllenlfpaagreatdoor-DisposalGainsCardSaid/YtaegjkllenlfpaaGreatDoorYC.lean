/- The seat's texts, part YC. -/
import Derived.Test.YtaegjkllenlfpaaGreatDoorYX
set_option maxRecDepth 100000
set_option maxHeartbeats 8000000
namespace Go.Proofs.YtaegjkllenlfpaaGreatDoor
open Go.Proofs.Tryz
variable {T v:Int}{k base c X:Nat}{w W W':World}
section
open Go.RowKit
theorem xp:∀(l:List Int),(∀x ∈ l,0<=x)->∀y ∈ l,y<=l.sum
 |[],_,y,hy=>by cases hy
 |a :: r,h,y,hy=>by
  have h1:0<=r.sum:=eU r fun x hx=>h x (Nq _ hx)
  have ha:=h a (Re ..);rw[Nz];rcases MS.1 hy with e|e
  ·rw[e];omega
  ·have:=xp r (fun x hx=>h x (Nq _ hx)) y e;omega
theorem vv{ws:List Int}(hT:0<=T)(hw:∀x ∈ ws,0<=x)(hS:0<ws.sum):∀v ∈ aY T ws,0<=v∧v<=T:=by
 intro v hv;have h0:=mZ hT hw hS v hv;obtain⟨k,hk,rfl⟩:=Pj.1 hv;have hk':k<ws.length:=by rw[iK]at hk;exact hk
 have h:=(wa (T:=T) hS k hk' hk).2;have hle:=xp ws hw _ (Ml hk');have h1:T*ws[k]'hk'<=T*ws.sum:=RR hle hT;refine⟨h0,Pk.1 fun hlt=>?_⟩;have h2:(T+1)*ws.sum<=(aY T ws)[k]'hk*ws.sum:=Qv (by omega) (by omega);rw[Qw,Int.one_mul]at h2;omega
theorem xt{ws:List Int}(hw:∀x ∈ ws,0<=x)(hS:0<ws.sum):∀v ∈ bZ T ws,v.natAbs<=T.natAbs:=by
 intro v hv;unfold bZ at hv;split at hv
 ·obtain⟨u,hu,rfl⟩:=MH.1 hv;have:=vv (T := -T) (by omega) hw hS u hu;omega
 ·have:=vv (T:=T) (by omega) hw hS v hv;omega
section
variable {key ins:Bs} {day:Int} {xs:List LotV} {pr:List Bs}
theorem mo(h:pr.length=xs.length):(cG key ins day xs pr).length=xs.length:=by
 unfold cG;rw[Nb,List.length_zip];omega
theorem nQ(h:pr.length=xs.length)(hk:k<xs.length):∃hk':k<(cG key ins day xs pr).length,∃hp:k<pr.length,(cG key ins day xs pr)[k]'hk'=jk key ins day (xs[k]'hk) (pr[k]'hp):=by
 refine⟨by rw[mo h];exact hk,by omega,?_⟩;simp[cG]
end
structure Fine (L:Nat) (x:LotV):Prop where
 id:x.id.length<=40
 ins:x.ins.length<=40
 q:x.q.length<=L
 c:x.c.length<=L
 u:x.u.length<=L
theorem Bd{a:Bs}{L:Nat}(hc:checkI a=0)(h0:0<=valI a)(hv:valI a<=v)(hL:(ofI v).length<=L):a.length<=L+1:=by
 rw[←dC.1 hc];refine eR (l:=ofI v) ?_ hL;rw[valI_ofI];omega
theorem Gi{L:Nat}{x y:LotV}(hx:Fine L x)(cx:checkL x=0)(cy:checkL y=0)(e1:y.id=x.id)(e2:y.ins=x.ins)(hq:valI y.q<=valI x.q)(hc:valI y.c<=valI x.c):Fine (L+1) y:=by
 obtain⟨y1,y2,y3,y4,y5⟩:=bg cy;obtain⟨x1,x2,x3,x4,x5⟩:=bg cx;have hql:y.q.length<=L+1:=Bd y1 (by omega) hq (by rw[dC.1 x1];exact hx.q);refine⟨by rw[e1];exact hx.id,by rw[e2];exact hx.ins,hql,Bd y2 y4 hc (by rw[dC.1 x2];exact hx.c),?_⟩;rcases y5 with e|e
 ·rw[e];simp
 ·rw[e];exact hql
section
variable {ls:List LotV} {f:FactV} {ps:List Fr} {os:List OptV}
theorem SelIn.fine(h:SelIn ls f ps os)(n:Nat):∀x ∈ bE ls f.ins n,Fine 21 x:=by
 have hg:=fD h.great
 have hf:∀x ∈ ls,Fine 21 x:=fun x hx=>by
  obtain⟨a,b,c,d,e⟩:=fQ (hg.2 x hx);exact⟨d,e,by omega,by omega,by omega⟩
 unfold bE;split
 ·intro x hx;rcases mM h.all hx with hx | ⟨y,v,hy,rfl,v0,v1⟩
  ·exact hf x hx
  ·have hy:=hf y hy;refine⟨hy.id,hy.ins,hy.q,?_,hy.u⟩;have e:totC ls f.ins=aV ((ofL ls f.ins).map (·.c)):=by unfold totC aV;rw[OH];rfl
   have hl:=jD 13 ((ofL ls f.ins).map (·.c)) (by
    intro b hb;obtain⟨z,hz,rfl⟩:=MH.1 hb;exact(fQ (hg.2 z (cj hz).1)).2.1) (by
    rw[Nb];have h1:(ofL ls f.ins).length<=ls.length:=M8 _ _;have:=(av h.all).1;omega)
   rw[←e]at hl;exact eR (l:=ofI (totC ls f.ins)) (by rw[valI_ofI];omega) hl
 ·exact hf
theorem SelIn.restOK(h:SelIn ls f ps os)(n:Nat)(hq:valI f.qty<=totQ ls f.ins):checkAllL (ij ls f n ps)=0∧∀x ∈ aO ls f n ps,checkL x=0:=Av (h.ls n).all (h.pick n hq).1.ok
theorem SelIn.cuts(h:SelIn ls f ps os)(n:Nat)(hq:valI f.qty<=totQ ls f.ins):∀x ∈ bE ls f.ins n,∀d:Bs,∀p ∈ cC ls f n ps,p.num=x.id->p.den=d->x.q≠d->checkL (eF x d)=0∧checkL (cR x d)=0:=by
 intro x hx d p hp e1 e2 hne;have l:=h.ls n;have hv:=(av l.all).2;have hk:=(h.pick n hq).1.ok;obtain⟨y,hy,e3,e4,e5⟩:=hk.at_ p hp;have:=pH (bD l.all) hx hy (e3.trans e1);subst this
 rw[←e2];exact uX (hv y hx) (hk.den p hp) e4 (uz hv hx (hk.den p hp) e5 (by rw[e2];exact hne))
theorem SelIn.takFine(h:SelIn ls f ps os)(n:Nat)(hq:valI f.qty<=totQ ls f.ins):∀x ∈ aO ls f n ps,Fine 22 x:=by
 have l:=h.ls n;have hv:=(av l.all).2;have hp:=(h.pick n hq).1;intro y hy;obtain⟨k,hk,rfl⟩:=Ok hy
 have hk2:k<(cC ls f n ps).length:=by
  have:=iA l.all hp;unfold aO at hk;omega
 obtain⟨hk',x,hx,_,e1,e2⟩:=r8 l.all hp hk2;have hxf:=h.fine n x hx;have e3:(aO ls f n ps)[k]'hk=if x.q=((cC ls f n ps)[k]'hk2).den then x else eF x ((cC ls f n ps)[k]'hk2).den:=e2;rw[e3];split
 ·exact⟨hxf.id,hxf.ins,by have:=hxf.q;omega,by have:=hxf.c;omega,by have:=hxf.u;omega⟩
 ·rename_i hne
  obtain⟨ca,cb⟩:=h.cuts n hq x hx _ _ (Ml hk2) e1.symm rfl hne;obtain⟨s1,s2⟩:=FL x ((cC ls f n ps)[k]'hk2).den;obtain⟨_,_,b3,b4,_⟩:=bg cb;exact Gi hxf (hv x hx) ca rfl rfl (by omega) (by omega)
theorem SelIn.wt(h:SelIn ls f ps os)(n:Nat)(hq:valI f.qty<=totQ ls f.ins):WtOK ((aO ls f n ps).map (·.q)):=pL (h.ls n).all (h.pick n hq).1 (h.pos n hq)
theorem SelIn.prtLen(h:SelIn ls f ps os)(n:Nat)(hq:valI f.qty<=totQ ls f.ins):∀b ∈ dz (jr f) (aO ls f n ps),b.length<=44∧checkI b=0:=by
 have w:=h.wt n hq
 have hw:∀x ∈ ((aO ls f n ps).map (·.q)).map valI,0<=x:=by
  intro x hx;obtain⟨y,hy,rfl⟩:=MH.1 hx;exact w.nn y hy
 have hs:0<(((aO ls f n ps).map (·.q)).map valI).sum:=w.sum;intro b hb;unfold dz at hb;obtain⟨v,hv,rfl⟩:=MH.1 hb;have h1:=xt hw hs v hv;exact⟨eR (l:=jr f) h1 h.net.1,eS _⟩
theorem SelIn.gnsLen(h:SelIn ls f ps os)(n:Nat)(hq:valI f.qty<=totQ ls f.ins):(cM ls f n ps).length<=1000∧∀g ∈ cM ls f n ps,g.q.length<=44∧g.p.length<=44∧g.c.length<=44:=by
 have l:=h.ls n;obtain⟨hp,_⟩:=h.pick n hq;have hlen:=mo (key:=f.key) (ins:=f.ins) (day:=f.day) (ft (jr f) (aO ls f n ps));have ht:(aO ls f n ps).length=(cC ls f n ps).length:=iA l.all hp;have h1:=hp.len;have h2:(ofL (bE ls f.ins n) f.ins).length<=(bE ls f.ins n).length:=M8 _ _;have h3:=(av l.all).1;refine⟨by unfold cM;rw[hlen];omega,fun g hg=>?_⟩;obtain⟨k,hk,rfl⟩:=Ok hg;have hk2:k<(aO ls f n ps).length:=by unfold cM at hk;rw[hlen]at hk;exact hk
 obtain⟨_,hpk,e⟩:=nQ (key:=f.key) (ins:=f.ins) (day:=f.day) (ft (jr f) (aO ls f n ps)) hk2;have e2:(cM ls f n ps)[k]'hk=jk f.key f.ins f.day ((aO ls f n ps)[k]'hk2) ((dz (jr f) (aO ls f n ps))[k]'hpk):=e;have hf:=h.takFine n hq _ (Ml hk2);have hb:=h.prtLen n hq _ (Ml hpk);rw[e2];exact⟨by have:=hf.q;show((aO ls f n ps)[k]'hk2).q.length<=44;omega,hb.1,by have:=hf.c;show((aO ls f n ps)[k]'hk2).c.length<=44;omega⟩
end
end
section
open Go.RowKit Go.Shelf
attribute [local go_sem] size_bs toList_bs
theorem D6{e:TypeId}{size n:Nat}{A:Option Addr}{xs:List Value}(h:w.ownsRow base e size (.slice A n c) n xs):n<=c:=by
 rcases h.2 with ⟨h1,h2⟩ | ⟨g,cap,cur,h1,_,_,h2,_⟩
 ·omega
 ·injection h1 with e1 e2 e3
  subst e3;exact h2
theorem wi(fs:List Fr)(f:Fr):bH (fs++[f])=bH fs++bC f:=by simp[bH]
def nR(ls:List LotV)(ins:Bs)(k:Nat):List Fr:=((ofL ls ins).take k).map (fun x=>⟨x.id,x.q⟩)
theorem Be{ls:List LotV}{ins:Bs}(h:k<(ofL ls ins).length):nR ls ins (k+1)=nR ls ins k++[⟨((ofL ls ins)[k]'h).id,((ofL ls ins)[k]'h).q⟩]:=by
 unfold nR;rw[Mo h,Pp];rfl
theorem D7(ls:List LotV)(ins:Bs):nR ls ins (ofL ls ins).length=dX ls ins:=by unfold nR dX;rw[MK]
theorem ED(ls:List LotV)(A:Option Addr)(c:Nat)(f:FactV)(P O:Value)(X Y:Nat)(W:World)(hn:ls.length<=100000)
  (b0:Blk W X 22 #[.slice A ls.length c]) (b1:Blk W Y 30 (ag f P O)) (hA:aK W A ls) :
  Calls prog 91 #[.pointer (some ⟨X,0,none⟩),.pointer (some ⟨Y,0,none⟩)] W fun e w'=>∃A' c',e = .returned (.tuple #[.slice A' (dX ls f.ins).length c',.int .i64 0])∧eH w' A' (dX ls f.ins)∧(dX ls f.ins).length<=c'∧Ext W w':=by
 have hle:(ofL ls f.ins).length<=ls.length:=M8 _ _;have q0:=boxCell b0;obtain⟨x0,x1,x2,x3,x4,x5,x6,x7,x8,x9,x10,x11,x12,x13,x14,x15,x16,x17,x18,x19,x20⟩:=aj b1 (iD _);have HC:=qh (nk ls A c f.ins W hA hn);have HPL:Hid ((dX ls f.ins).length=(ofL ls f.ins).length):=qh (by simp[dX]);obtain⟨i0,hI,hz0,hz1,hz2⟩:=Ny uH;have HI:=qh hI;clear x0 x1 x2 x3 x4 x6 x7 x8 x9 x10 x11 x12 x13 x14 x15 x16 x17 x18 x19 x20 b0 b1 hA hI;generalize f.ins=ins at *;go_enter func91,ntmps91;go_wp2_with fail;refine HC.out.mono ?_;rintro e w2⟨A2,c2,rfl,ho2,hc2,hx1⟩;have HX:=qh hx1;have HR2:Hid (aK w2 A2 (ofL ls ins)):=qh (Reads.own ho2);clear hx1 ho2 hc2 HC q0 x5;go_wp2_with fail;go_loopw [12,4] (fun i v wr=>∃k A7 c7,k<=(ofL ls ins).length∧i = .int .i64 (k:Nat)∧v = .slice A7 k c7∧wr.ownsRow w2.heap.size 124 2 v k (bH (nR ls ins k))∧Ext w2 wr) (fun i _ _=>(ofL ls ins).length-(intOf i).toNat)
 case atStart=>exact⟨0,none,0,by omega,rfl,rfl,by simpa[bH,nR] using NF _ _ _ _,iD _⟩
 case round =>
  obtain⟨k,A7,c7,hk,rfl,rfl,how,hx⟩:=hrel;have HO:=qh how;have HX2:=qh hx;clear how hx;by_cases hlt:k<(ofL ls ins).length
  ·obtain⟨b,o,hA2,hbl,d0,d1,d2,d3,d4,d5,d6⟩:=(HR2.out.ext HX2.out).at_ hlt;subst hA2;have hki:(k:Int)<((ofL ls ins).length:Int):=by omega
   have hk0:(0:Int)<=(k:Int):=by omega
   have HSN:=qh (Be hlt);generalize (ofL ls ins)[k]'hlt=x at *;obtain⟨xi,xn,xa,xo,xq,xc,xu⟩:=x;simp only at d0 d1 d2 d3 d4 d5 d6 HSN;go_upto_region 5 with fail;have BX:=qh (ID wr 62 (lc ⟨xi,xn,xa,xo,xq,xc,xu⟩));have HX3:=qh (HX2.out.trans (Id wr (.cells (lc ⟨xi,xn,xa,xo,xq,xc,xu⟩) 62)));have HO3:=qh (own_ext2 HO.out (Id wr (.cells (lc ⟨xi,xn,xa,xo,xq,xc,xu⟩) 62)));obtain⟨x0,x1,x2,x3,x4,x5,x6⟩:=ap BX.out (iD _);simp only at *;generalize wr.alloc (.cells #[.string (bs xi),.string (bs xn),.int .i64 xa,.int .i64 xo,.string (bs xq),.string (bs xc),.string (bs xu)] 62)=w5 at *;generalize wr.heap.size=X8 at *;have HO4:=qh (own_ext2 HO3.out (Id w5 (.cells #[.string (bs xi),.string (bs xq)] 124)));have HX4:=qh (HX3.out.trans (Id w5 (.cells #[.string (bs xi),.string (bs xq)] 124)));have hsz:=HX4.out.size;have hlow:=iB HO4.out;clear BX HO HO3 HX2 HX3;go_wp2_with (at_builtin;go_must (refine OE _ rfl (.tmp 16) (.tmp 22) 27 rfl w2.heap.size 124 i0 _ 2 32 Rq HI.out hz0 hz1 hz2 rfl (by decide) _ k (bH (nR ls ins k)) rfl HO4.out ⟨w5.heap.size,0,none⟩ 1 1 (bC ⟨xi,xq⟩) rfl rfl (M7 (M4 w5 _)) (zW _) (by simp only[maxLen];omega) (by omega) hsz ?_);intro v2 w' hown' hgrow hnil;(obtain⟨A3,c3,rfl⟩:=aF hown');clear hnil;(have HO5:=qh hown');(have HX5:=qh (HX4.out.grown hgrow hlow)));rw[←wi,←HSN.out]at HO5;go_roundw
   case rel=>exact⟨k+1,A3,c3,by omega,by go_num,rfl,HO5.out,HX5.out⟩
   case measure=>simp[intOf];omega
  ·have hke:k=(ofL ls ins).length:=by omega
   subst hke;have hki:¬ (((ofL ls ins).length:Int)<((ofL ls ins).length:Int)):=by omega
   rw[D7]at HO;have hfit:=D6 HO.out
   have hrd:eH wr A7 (dX ls ins):=by
    unfold eH;rw[HPL.out];exact Reads.own HO.out
   have HRD:=qh hrd;have HFT:=qh hfit;clear hrd hfit HO;go_wp2_with fail;go_ret2;exact⟨A7,c7,by rw[HPL.out];rfl,HRD.out,by rw[HPL.out];exact HFT.out,HX.out.trans HX2.out⟩
theorem EE(xs:List LotV)(A:Option Addr)(c:Nat)(f:FactV)(P O:Value)(Y:Nat)(W:World)(b1:Blk W Y 30 (ag f P O))(hE:Env W)(hA:aK W A xs)(hs:∀x ∈ xs,SmallL x)(hn:xs.length<=100000)
  (h1:f.price.num.length<=2000) (h2:f.price.den.length<=2000) (hq:(ofI (totQ xs f.ins)).length<=2000) :
  Calls prog 92 (#[.slice A xs.length c]++#[.pointer (some ⟨Y,0,none⟩)]) W fun e w'=>e = .returned (.string (bs (ofI (pN f.price (ofI (totQ xs f.ins))))))∧Ext W w':=by
 obtain⟨x0,x1,x2,x3,x4,x5,x6,x7,x8,x9,x10,x11,x12,x13,x14,x15,x16,x17,x18,x19,x20⟩:=aj b1 (iD _);have B1:=qh b1;have HE:=qh hE;have HT:=qh (gW xs A c f.ins W hE hA hs hn);have HV:=qh (Dw (L:=2000) (by omega) (by omega) f.price (ofI (totQ xs f.ins)) h1 h2 hq);clear x0 x1 x2 x3 x4 x6 x7 x8 x9 x10 x11 x12 x13 x14 x15 x16 x17 x18 x19 x20 b1 hE hA hs hn h1 h2 hq;generalize ofI (pN f.price (ofI (totQ xs f.ins)))=v at *;generalize ofI (totQ xs f.ins)=q at *;generalize ofI (totC xs f.ins)=tc at *;go_enter func92,ntmps92;go_wp2_with fail;refine HT.out.mono ?_;rintro e w1⟨rfl,hx1⟩;have HX:=qh hx1;clear hx1 HT x5;obtain⟨-,-,-,-,-,-,-,-,-,-,-,-,x12,x13,x14,x15,-⟩:=aj B1.out HX.out;go_wp2_with fail;refine(HV.out _ (HE.out.ext HX.out)).mono ?_;rintro e w2⟨rfl,hx1⟩;replace HX:=HX.qt hx1;clear hx1 HV;go_wp2_with fail;go_ret;exact⟨rfl,HX.out⟩
end
section
open Go.RowKit
theorem nS{ls:List LotV}{ins:Bs}(hall:checkAllL ls=0)(hs:∀x ∈ ls,SmallL x):(aI ls (dX ls ins)).2=ofL ls ins:=by
 have hnd:=bD hall;rw[ie _ _ hnd (oH hall hs).ok];unfold dX;rw[OH];conv=>rhs;rw[←List.map_id (ofL ls ins)]
 refine OC (fun x hx=>?_);have h:=rX (p:=⟨x.id,x.q⟩) hnd (cj hx).1 rfl;rw[Mq rfl]at h;exact h
theorem yB{xs:List LotV}(hn:(xs.map (·.id)).Nodup){x:LotV}(hx:x ∈ xs):gH (xs.map (fun y=>(⟨y.id,y.q⟩:Fr))) x.id=some x.q:=by
 induction xs with
 |nil=>cases hx
 |cons y r ih =>
  rw[MQ,Oe]at hn;rw[MQ,lN];rcases MS.1 hx with rfl|h
  ·rw[Mq rfl]
  ·rw[Mj (fun e=>hn.1 (MH.2 ⟨x,h,Eq.symm e⟩)),ih hn.2 h]
theorem Bf{ls:List LotV}{ins:Bs}(hall:checkAllL ls=0)(hs:∀x ∈ ls,SmallL x):(aI ls (dX ls ins)).1=pO ls ins:=by
 have hnd:=bD hall;rw[ie _ _ hnd (oH hall hs).ok];unfold pO;rw[←List.filterMap_eq_filter];refine ic (fun x hx=>?_);by_cases hi:x.ins=ins
 ·have hm:x ∈ ofL ls ins:=Og.2 ⟨hx,by simpa using hi⟩;have h:=yB (jJ hnd ins) hm;unfold cV;rw[show dX ls ins=(ofL ls ins).map (fun y=>(⟨y.id,y.q⟩:Fr)) from rfl,h];simp[Option.guard,hi]
 ·have h:gH (dX ls ins) x.id=none:=pj (fun p hp e=>by
   obtain⟨y,hy,rfl⟩:=MH.1 hp;obtain⟨h1,h2⟩:=cj hy;have:=pH hnd hx h1 e;rw[this]at h2;exact hi h2)
  unfold cV;rw[h];simp[Option.guard,hi]
end
section
open Go.RowKit Go.Shelf
attribute [local go_sem] size_bs toList_bs Oper.semAt_some
theorem Gj(n l B:Nat)(A:Option Addr)(c:Nat)(t:Bs)(J:World->Prop)
  (hJ:∀W,J W->Blk W B 22 #[.slice A 0 c]∧Blk W (B+1) 24 #[.string (bs t)]) (hX:∀W W',J W->Ext W W'->J W') (W:World) (hW0:J W) :
  CallsIn Fence.wide n prog 198 #[.func (.yield l) #[] #[],.pointer (some ⟨B,0,none⟩),.pointer (some ⟨B+1,0,none⟩)] W fun e W'=>(∃v,e = .returned v)∧J W':=by
 have hfn:∀k,Fence.wide.fn k:=fun _=>trivial
 have hdp:Fence.wide.depth.isSome=false:=rfl;have HJ:=qh hJ;have HX:=qh hX;have H0:=qh hW0;clear hJ hX hW0;obtain⟨b0,b1⟩:=HJ.out W H0.out;have q0:=b0.cell 0;have q1:=b1.cell 0;simp only[Mk,Mm]at q0 q1;clear b0 b1;refine Sd func198 rfl trivial ?_ rfl;simp only[ntmps198,Nh,MG,Ns,Nat.reduceAdd,Nat.reduceSub,Ov,Ow,OU,OA,ML,MZ];gi_wp2
 gi_loopw [13,4] (fun i v4 wr=>i = .int .i64 0∧v4 = .slice none 0 0∧wr=W) (fun _ _ _=>0)
 case atStart=>exact⟨rfl,rfl,rfl⟩
 case round =>
  obtain⟨rfl,rfl,rfl⟩:=hrel;have C4:=qh (sW t none 0 wr);gi_wp2
  refine(Nu.2 C4.out).mono ?_;rintro e w6⟨rfl,hx6⟩;have HJ6:=qh (HX.out wr w6 H0.out hx6);clear hx6 C4 q0 q1;obtain⟨b0,b1⟩:=HJ.out w6 HJ6.out;have q0:=b0.cell 0;simp only[Mk,Mm]at q0;clear b0 b1;gi_wp2
  gi_loopw [31,9,10] (fun i _ _ wr=>i = .int .i64 0∧wr=w6) (fun _ _ _ _=>0)
  case atStart=>exact⟨rfl,rfl⟩
  case round =>
   obtain⟨rfl,rfl⟩:=hrel;gi_wp2
   go_end0
   exact⟨⟨_,rfl⟩,HJ6.out⟩
end
section
open Go.RowKit Go.Shelf
attribute [local go_sem] size_bs toList_bs
theorem D8(ls:List LotV)(f:FactV)(P O:Value)(t:Bs)(kc kp:Nat)(cb pb:Array Value)(ec:∀args w,(callFunc kc args).run prog w = .ok (.enter kc args) w)(ep:∀args w,(callFunc kp args).run prog w = .ok (.enter kp args) w)
  (A:Option Addr) (c:Nat) (w:World) (hE:Env w) (hA:aK w A ls) (hs:∀x ∈ ls,SmallL x) (hall:checkAllL ls=0)
  (hC:∀W,Ext w W->Calls prog kc cb W fun e w'=>∃A' c',e = .returned (.tuple #[.slice A' 0 c',.int .i64 0])∧Ext W w')
  (hP:∀W A' c',Ext w W->Calls prog kp (#[.slice A' 0 c']++pb) W fun e w'=>e = .returned (.string (bs t))∧Ext W w') :
  Calls prog 58 #[.slice A ls.length c,aC f P O,.func (.func kc) #[] cb,.func (.func kp) #[] pb] w (gu ls [] [] w):=by
 have hfn:∀k,Fence.wide.fn k:=fun _=>trivial
 have hdp:Fence.wide.depth.isSome=false:=rfl
 have htk:∀A PA c pc W,Env W->aK W A ls->Calls prog 82 #[.slice A ls.length c,.slice PA 0 pc] W (fun e w'=>∃A c B d,e = .returned (.tuple #[.slice A ls.length c,.slice B 0 d,.int .i64 0])∧aK w' A ls∧aK w' B []∧Ext W w') :=
  fun A PA c pc W hE hA=>xb ls [] ⟨by simp,by simp,by simp⟩ hs hall (by simp) (by simp) A PA c pc (Om _) W hE hA Reads.nil
 have HE:=qh hE;have HA:=qh hA;have HC:=qh hC;have HPP:=qh hP;clear hE hA hC hP hs hall;have HTK:=qh htk;clear htk;have HB0:Hid (Blk ((w.alloc (.cells (ag f P O) 30)).alloc (.cells #[.slice none 0 0,.slice none 0 0,.slice none 0 0,.slice none 0 0] 39)) w.heap.size 30 (ag f P O)):=qh ((ID _ _ _).alloc _);have HR0:Hid (Blk ((w.alloc (.cells (ag f P O) 30)).alloc (.cells #[.slice none 0 0,.slice none 0 0,.slice none 0 0,.slice none 0 0] 39)) (w.heap.size+1) rT #[.slice none 0 0,.slice none 0 0,.slice none 0 0,.slice none 0 0]):=qh (Mf _ _ _ _ (by simp));have HX0:Hid (Ext w ((w.alloc (.cells (ag f P O) 30)).alloc (.cells #[.slice none 0 0,.slice none 0 0,.slice none 0 0,.slice none 0 0] 39))):=qh ((Id _ _).alloc _);obtain⟨fk,fst,fca,fda,fki,fin,fot,fcu,ftg,fq,fam,ffe,⟨fpn,fpd⟩,⟨frn,frd⟩,⟨fsn,fsd⟩,fch⟩:=f;try simp only at *
 refine(Nu (n:=5)).1 ?_;refine Qk func58 rfl trivial ?_ rfl;simp only[ntmps58,Nh,MG,Ns,Nat.reduceAdd,Nat.reduceSub,Ov,Ow,OU,OA,ML,MZ];gi_wp2_with fail;generalize (w.alloc (.cells #[.string (bs fk),.int .i64 fst,.bool fca,.int .i64 fda,.int .i64 fki,.string (bs fin),.string (bs fot),.string (bs fcu),.string (bs ftg),.string (bs fq),.string (bs fam),.string (bs ffe),.string (bs fpn),.string (bs fpd),.string (bs frn),.string (bs frd),.string (bs fsn),.string (bs fsd),P,O,.int .i64 fch] 30)).alloc (.cells #[.slice none 0 0,.slice none 0 0,.slice none 0 0,.slice none 0 0] 39)=w0 at *;refine(Nu.2 (HC.out _ HX0.out)).mono ?_;rintro e w1⟨A',c',rfl,hx1⟩;replace HX0:=HX0.qt hx1;replace HB0:=qh (HB0.out.ext hx1);replace HR0:=qh (HR0.out.ext hx1);clear hx1 HC;gi_wp2_with fail;refine(Nu.2 (HTK.out A A' c c' w1 (HE.out.ext HX0.out) (HA.out.ext HX0.out))).mono ?_;rintro e w2⟨A2,c2,A3,c3,rfl,hr2,hr3,hx1⟩;replace HX0:=HX0.qt hx1;replace HB0:=qh (HB0.out.ext hx1);replace HR0:=qh (HR0.out.ext hx1);have HRS:=qh hr2;clear hx1 hr2 hr3 HTK;have HU:=qh (ID w2 rT #[.slice A2 ls.length c2,.slice none 0 0,.slice none 0 0,.slice none 0 0]);have HXU:Hid (Ext w2 (w2.alloc (.cells #[.slice A2 ls.length c2,.slice none 0 0,.slice none 0 0,.slice none 0 0] rT))):=qh (Id _ _);gi_wp2_with fail;refine(Nu.2 (HPP.out _ A3 c3 (HX0.out.trans HXU.out))).mono ?_;rintro e w3⟨rfl,hx1⟩;replace HU:=qh (HU.out.ext hx1);replace HXU:=HXU.qt hx1;clear hx1 HPP;obtain⟨U,hU⟩:∃U,w2.heap.size=U:=⟨_,rfl⟩;rw[hU]at HU;have HUe:=qh hU;have hRU:w.heap.size+1<U:=by have:=HR0.out.lt;omega
 gi_wp2_with fail;refine(Nu.2 (Ej 0 A3 c3 t w3)).mono ?_;rintro e w4⟨rfl,hw4⟩;have hxx:Ext w3 w4:=by rw[hw4];exact(Id _ _).alloc _
 have BB:Hid (Blk w4 w3.heap.size 22 #[.slice A3 0 c3]):=qh (by rw[hw4];exact(ID _ _ _).alloc _);have BA:Hid (Blk w4 (w3.heap.size+1) 24 #[.string (bs t)]):=qh (by rw[hw4];exact Mf _ _ _ _ (by simp));have hs4:w4.heap.size=w3.heap.size+2:=by rw[hw4];simp
 replace HU:=qh (HU.out.ext hxx);replace HXU:=HXU.qt hxx;have HB4:=qh ((HB0.out.ext HXU.out));have HR4:=qh ((HR0.out.ext HXU.out));have HS4:=qh (HRS.out.ext HXU.out);have hUlt:=HU.out.lt;obtain⟨B,hB⟩:∃B,w3.heap.size=B:=⟨_,rfl⟩;rw[hB]at BB BA;clear hxx hw4 HB0 HR0 HRS;gi_wp2_with fail;refine fI rfl (by omega) w4.heap.size rfl rfl trivial (fun _ _=>by rfl) ?_;intro fn lp W1 hlp hW1 _
 have h0:∃vg vs,RD w4 U lp (.slice A2 ls.length c2) vg vs [] [] W1:=by
  subst hW1;have hxx:=(Id w4 (.deferred (some []))).alloc (.loop lp);refine⟨.slice none 0 0,.slice none 0 0,(Mh _ _).ext hxx,HU.out.ext hxx,?_,?_,?_,?_⟩
  ·exact NF _ _ _ _
  ·exact NF _ _ _ _
  ·exact qc (newAt _ _ _ rfl)
  ·exact newAt _ _ _ (by simp)
 refine(Gj 4 (w4.heap.size+1) B A3 c3 t (fun W=>∃vg vs,RD w4 U lp (.slice A2 ls.length c2) vg vs [] [] W) ?hJ (fun W W' h hx=>?hX) W1 h0).mono ?_
 case hJ =>
  rintro W⟨vg,vs,h⟩;exact⟨h.ex.blk BB.out (eh BB.out HU.out (by decide)),h.ex.blk BA.out (eh BA.out HU.out (by decide))⟩
 case hX =>
  obtain⟨vg,vs,h⟩:=h;exact⟨vg,vs,h.on hx⟩
 rintro e W⟨hv,h⟩;obtain⟨vg,vs,h⟩:=h;refine⟨hv,.inl ⟨h.L,?_⟩⟩;have hP:=h.put (lp':={ lp with state := .exhausted }) hUlt;generalize W.putObj (w4.heap.size+1) (.loop { lp with state := .exhausted })=W3 at *;clear h hv hW1 hlp W1 h0;obtain⟨Ag,cg,rfl⟩:=aF hP.og;obtain⟨As,cs',rfl⟩:=aF hP.os;have HP:=qh hP;have HRB:=qh (hP.ex.blk HR4.out (by omega));clear hP;obtain⟨u0,u1,u2,u3⟩:=iq HP.out.u (iD _);obtain⟨r0,r1,r2,r3⟩:=iq HRB.out (iD _);have f0:=HRB.out.frozen 0;have f1:=HRB.out.frozen 1;have f2:=HRB.out.frozen 2;have f3:=HRB.out.frozen 3;dsimp only at *;have HXW:Hid (Ext w W3):=qh (HP.out.ex.toExt (HX0.out.trans HXU.out) (by omega));have HRS:Hid (aK W3 A2 ls):=qh (qy HS4.out HP.out.ex HU.out (fun j v hv=>wL hv ⟨_,_,_,rfl⟩ ⟨_,_,_,rfl⟩ ⟨_,_,_,rfl⟩ ⟨_,_,_,rfl⟩) (km _));have hRD:w4.heap.size≠w.heap.size+1:=by omega
 gi_wp2
 have hD:=El (a := .slice A2 ls.length c2) (b := .slice Ag ([]:List GainV).length cg) (c := .slice As ([]:List StepV).length cs') (d := .slice none 0 0) (R:=w.heap.size+1) HP.out.D hRD;have hB4:=lI (a := .slice A2 ls.length c2) (b := .slice Ag ([]:List GainV).length cg) (c := .slice As ([]:List StepV).length cs') (d := .slice none 0 0) HRB.out;refine⟨by simp,.inl ⟨_,_,rfl,QN hD,?_⟩⟩;refine⟨.tuple #[.agg #[.slice A2 ls.length c2,.slice Ag ([]:List GainV).length cg,.slice As ([]:List StepV).length cs',.slice none 0 0],.int .i64 0],du rfl _ _ (w.heap.size+1) _ _ _ _ _ rfl rfl (hB4.put _ (Ol hRD)),?_⟩;refine⟨A2,c2,Ag,cg,As,cs',rfl,?_,?_,?_,?_⟩
 ·exact wM (kJ HRS.out HRB.out ⟨_,_,_,rfl⟩ ⟨_,_,_,rfl⟩ ⟨_,_,_,rfl⟩ ⟨_,_,_,rfl⟩ (km _)) hD (by intro cs t z h;cases h) _
 ·exact Reads.own (kH (xQ HP.out.og HRB.out (by decide)) hD)
 ·exact Reads.own (kH (xQ HP.out.os HRB.out (by decide)) hD)
 ·exact(mH HXW.out (by omega)).putObj (by omega) _
structure CalIn (ls:List LotV) (f:FactV) (ps:List Fr) (os:List OptV):Prop where
 great:cI ls=false
 all:checkAllL ls=0
 fe:cr f ps os=0
 kd:f.kind=14
structure CalAt (w:World) (ls:List LotV) (f:FactV) (P O:Value) (X:Nat) (A:Option Addr) (c:Nat) (W:World):Prop where
 x:w.heap.size<=X
 ext:Ext w W
 b0:Blk W X 22 #[.slice A ls.length c]
 b1:Blk W (X+1) 30 (ag f P O)
 rd:aK W A ls
theorem CalAt.on{ls:List LotV}{f:FactV}{P O:Value}{A:Option Addr}(h:CalAt w ls f P O X A c W)(hx:Ext W W'):CalAt w ls f P O X A c W':=⟨h.x,h.ext.trans hx,h.b0.ext hx,h.b1.ext hx,h.rd.ext hx⟩
theorem xv(ls:List LotV)(A:Option Addr)(c:Nat)(f:FactV)(ps:List Fr)(os:List OptV)(pa oa:Option Addr)(pc oq:Nat)(w:World)(hE:Env w)(hA:aK w A ls)(hF:FactAt w f ps os pa oa pc)(hi:CalIn ls f ps os)
  (R:Value->Value->Value->Int->World->Prop) (hR:∀a b c d z X W,w.heap.size<=X->R a b c z W->Blk W X rT #[.slice none 0 0,.slice none 0 0,.slice none 0 0,.slice none 0 0]->R a b c z (nz W X a b c d))
  (hD:∀X W,CalAt w ls f (ae pa ps.length pc) (ae oa os.length oq) X A c W->Calls prog 58 #[.slice A ls.length c,aC f (ae pa ps.length pc) (ae oa os.length oq),.func (.func 91) #[] #[.pointer (some ⟨X,0,none⟩),.pointer (some ⟨X+1,0,none⟩)],.func (.func 92) #[] #[.pointer (some ⟨X+1,0,none⟩)]] W fun e w'=>oE R e w'∧Ext W w') :
  Calls prog 26 #[.slice A ls.length c,aC f (ae pa ps.length pc) (ae oa os.length oq)] w (oE R):=by
 have hs:=dG hi.great;have hwf:(Lit.int .i64 f.kind).wf=true:=by rw[hi.kd];decide
 have ck:=fun W (hx:Ext w W)=>uS ls A c f ps os pa oa pc oq W (hE.ext hx) (hA.ext hx) (hF.ext hx) hwf hs hi.all hi.fe
 rw[hi.kd]at ck;have CK:=qh ck;have HA:=qh hA;have HD:=qh hD;have HRR:=qh hR;have hs1:(prog.info? 30).map (·.size)=some (ag f (ae pa ps.length pc) (ae oa os.length oq)).toList.length:=by kernel_rfl
 have B0:=qh (((ID w 22 #[.slice A ls.length c]).alloc (.cells (ag f (ae pa ps.length pc) (ae oa os.length oq)) 30)).alloc (.cells #[.slice none 0 0,.slice none 0 0,.slice none 0 0,.slice none 0 0] rT));have B1:=qh ((Mf (w.alloc (.cells #[.slice A ls.length c] 22)) 30 (ag f (ae pa ps.length pc) (ae oa os.length oq)) (w.heap.size+1) (by simp)).alloc (.cells #[.slice none 0 0,.slice none 0 0,.slice none 0 0,.slice none 0 0] rT));have B3:=qh (Mf ((w.alloc (.cells #[.slice A ls.length c] 22)).alloc (.cells (ag f (ae pa ps.length pc) (ae oa os.length oq)) 30)) rT #[.slice none 0 0,.slice none 0 0,.slice none 0 0,.slice none 0 0] (w.heap.size+2) (by simp));have HX:Hid (Ext w (((w.alloc (.cells #[.slice A ls.length c] 22)).alloc (.cells (ag f (ae pa ps.length pc) (ae oa os.length oq)) 30)).alloc (.cells #[.slice none 0 0,.slice none 0 0,.slice none 0 0,.slice none 0 0] rT))):=qh (((Id _ _).alloc _).alloc _);clear hE hA hF hi hD hR ck hs hwf;go_enter func26,ntmps26;go_upto_region 1 with fail;generalize (((w.alloc (.cells #[.slice A ls.length c] 22)).alloc (.cells (ag f (ae pa ps.length pc) (ae oa os.length oq)) 30)).alloc (.cells #[.slice none 0 0,.slice none 0 0,.slice none 0 0,.slice none 0 0] rT))=w0 at *;obtain⟨X,hX⟩:∃X,w.heap.size=X:=⟨_,rfl⟩;rw[hX]at B0 B1 B3 ⊢;have q0:=boxCell B0.out;have hrg:=aL B1.out;go_wp2_with (first|refine bS (by kernel_rfl) 30 _ rfl (X+1) 0 rfl _ _ hrg M3 rfl hs1 ?_|fail);refine(CK.out _ HX.out).mono ?_;rintro e w1⟨rfl,hx1⟩;replace B0:=qh (B0.out.ext hx1);replace B1:=qh (B1.out.ext hx1);replace B3:=qh (B3.out.ext hx1);replace HX:=HX.qt hx1;clear hx1 CK q0 hrg;have HS:Hid (CalAt w ls f (ae pa ps.length pc) (ae oa os.length oq) X A c w1):=qh ⟨by omega,HX.out,B0.out,B1.out,HA.out.ext HX.out⟩;have q0:=boxCell B0.out;have hrg:=aL B1.out;have HDD:=qh (HD.out X w1 HS.out);clear HS HD;go_wp2_with (first|refine bS (by kernel_rfl) 30 _ rfl (X+1) 0 rfl _ _ hrg M3 rfl hs1 ?_|fail);refine HDD.out.mono ?_;rintro e w5⟨⟨Aa,na,ca,Ab,nb,cb,Ac,nc,cc,z,rfl,hr⟩,hx1⟩;replace B3:=qh (B3.out.ext hx1);have HRE:=qh hr;clear hr hx1 HDD hrg q0;obtain⟨r0,r1,r2,r3⟩:=iq B3.out (iD _);have f0:=B3.out.frozen 0;have f1:=B3.out.frozen 1;have f2:=B3.out.frozen 2;have f3:=B3.out.frozen 3;go_wp2_with fail;have hB4:=lI (a := .slice Aa na ca) (b := .slice Ab nb cb) (c := .slice Ac nc cc) (d := .slice none 0 0) B3.out;refine MI (du rfl _ _ (X+1+1) _ _ _ _ _ rfl rfl hB4) rfl ?_;exact⟨Aa,na,ca,Ab,nb,cb,Ac,nc,cc,z,rfl,HRR.out _ _ _ _ _ (X+2) _ (by omega) HRE.out B3.out⟩
def jU(ls:List LotV)(f:FactV):Bs:=ofI (pN f.price (ofI (totQ ls f.ins)))
theorem vw(ls:List LotV)(ins:Bs):totQ (ofL ls ins) ins=totQ ls ins:=by unfold totQ ofL;rw[List.filter_filter];simp
def gI(ls:List LotV)(f:FactV):List GainV:=cG f.key f.ins f.day (ofL ls f.ins) (dz (jU ls f) (ofL ls f.ins))
def mp(ls:List LotV)(f:FactV):List StepV:=cQ f.key (ofL ls f.ins)
theorem D9(ls:List LotV)(A:Option Addr)(c:Nat)(f:FactV)(ps:List Fr)(os:List OptV)(pa oa:Option Addr)(pc oq:Nat)(w:World)(hE:Env w)(hA:aK w A ls)(hF:FactAt w f ps os pa oa pc)(hi:CalIn ls f ps os)
  (h1:f.price.num.length<=1000) (h2:f.price.den.length<=1000) (hq:(ofI (totQ ls f.ins)).length<=1000) (h0:0<(ofL ls f.ins).length) :
  Calls prog 26 #[.slice A ls.length c,aC f (ae pa ps.length pc) (ae oa os.length oq)] w (gu (pO ls f.ins) (gI ls f) (mp ls f) w):=by
 have hs:=dG hi.great;have hn:=(av hi.all).1;have hle:(ofL ls f.ins).length<=ls.length:=M8 _ _;have hp:=oH (ins:=f.ins) hi.all hs;have h0p:0<(dX ls f.ins).length:=by simpa[dX] using h0
 have hv:(jU ls f).length<=1000+1000+2:=ni (uW (L:=1000) (by decide) h1 h2 hq);have hso:∀x ∈ ofL ls f.ins,SmallL x:=fun x hx=>hs x (cj hx).1
 refine(xv ls A c f ps os pa oa pc oq w hE hA hF hi (se (pO ls f.ins) (gI ls f) (mp ls f) w) (fun a b c d z X W hX hr hb=>hr.set hX hb) ?_).mono ?_
 ·intro X W h;have hd:=uR ls (dX ls f.ins) f (ae pa ps.length pc) (ae oa os.length oq) (jU ls f) 91 92 #[.pointer (some ⟨X,0,none⟩),.pointer (some ⟨X+1,0,none⟩)] #[.pointer (some ⟨X+1,0,none⟩)] (fun _ _=>by rfl) (fun _ _=>by rfl) A c W (hE.ext h.ext) h.rd hs hi.all hp h0p (by omega) (mB _) ?_ ?_
  ·rw[nS hi.all hs,Bf hi.all hs]at hd;refine hd.mono ?_;rintro e w'⟨A1,c1,B1,d1,C1,k1,rfl,r1,r2,r3,hx⟩;exact⟨⟨A1,_,c1,B1,_,d1,C1,_,k1,0,rfl,rfl,⟨A1,c1,rfl,r1⟩,⟨B1,d1,rfl,r2⟩,⟨C1,k1,rfl,r3⟩,h.ext.trans hx⟩,hx⟩
  ·intro W' hx;have h':=h.on hx;exact ED ls A c f _ _ X (X+1) W' (by omega) h'.b0 h'.b1 h'.rd
  ·intro W' A2 c2 hx hr;have h':=h.on hx;rw[nS hi.all hs]at hr ⊢;have hq2:(ofI (totQ (ofL ls f.ins) f.ins)).length<=2000:=by rw[vw];omega
   have:=EE (ofL ls f.ins) A2 c2 f _ _ (X+1) W' h'.b1 (hE.ext h'.ext) hr hso (by omega) (by omega) (by omega) hq2;rw[vw]at this
   exact this
 ·rintro e w'⟨A1,n1,c1,B1,m1,d1,C1,k1,l1,z,rfl,rfl,⟨A2,c2,e1,r1⟩,⟨B2,d2,e2,r2⟩,⟨C2,k2,e3,r3⟩,hx⟩;rw[e1,e2,e3];exact⟨A2,c2,B2,d2,C2,k2,rfl,r1,r2,r3,hx⟩
theorem Ea(ls:List LotV)(A:Option Addr)(c:Nat)(f:FactV)(ps:List Fr)(os:List OptV)(pa oa:Option Addr)(pc oq:Nat)(w:World)(hE:Env w)(hA:aK w A ls)(hF:FactAt w f ps os pa oa pc)(hi:CalIn ls f ps os)
  (h1:f.price.num.length<=1000) (h2:f.price.den.length<=1000) (h0:ofL ls f.ins=[]) :
  Calls prog 26 #[.slice A ls.length c,aC f (ae pa ps.length pc) (ae oa os.length oq)] w (gu ls [] [] w):=by
 have hs:=dG hi.great;have hn:=(av hi.all).1;refine(xv ls A c f ps os pa oa pc oq w hE hA hF hi (se ls [] [] w) (fun a b c d z X W hX hr hb=>hr.set hX hb) ?_).mono ?_
 ·intro X W h;have hd:=D8 ls f (ae pa ps.length pc) (ae oa os.length oq) (ofI (pN f.price (ofI (totQ [] f.ins)))) 91 92 #[.pointer (some ⟨X,0,none⟩),.pointer (some ⟨X+1,0,none⟩)] #[.pointer (some ⟨X+1,0,none⟩)] (fun _ _=>by rfl) (fun _ _=>by rfl) A c W (hE.ext h.ext) h.rd hs hi.all ?_ ?_
  ·refine hd.mono ?_;rintro e w'⟨A1,c1,B1,d1,C1,k1,rfl,r1,r2,r3,hx⟩;exact⟨⟨A1,_,c1,B1,_,d1,C1,_,k1,0,rfl,rfl,⟨A1,c1,rfl,r1⟩,⟨B1,d1,rfl,r2⟩,⟨C1,k1,rfl,r3⟩,h.ext.trans hx⟩,hx⟩
  ·intro W' hx;have h':=h.on hx;refine(ED ls A c f _ _ X (X+1) W' (by omega) h'.b0 h'.b1 h'.rd).mono ?_;rintro e w'⟨A2,c2,rfl,_,_,hx2⟩;exact⟨A2,c2,by simp[dX,h0],hx2⟩
  ·intro W' A2 c2 hx;have h':=h.on hx;exact EE [] A2 c2 f _ _ (X+1) W' h'.b1 (hE.ext h'.ext) Reads.nil (by simp) (by simp) (by omega) (by omega) (by rw[show totQ ([]:List LotV) f.ins=0 from rfl,cK.2 rfl];simp)
 ·rintro e w'⟨A1,n1,c1,B1,m1,d1,C1,k1,l1,z,rfl,rfl,⟨A2,c2,e1,r1⟩,⟨B2,d2,e2,r2⟩,⟨C2,k2,e3,r3⟩,hx⟩;rw[e1,e2,e3];exact⟨A2,c2,B2,d2,C2,k2,rfl,r1,r2,r3,hx⟩
end
section
open Go.RowKit
section
variable {ls:List LotV} {f:FactV}
theorem qW(ls:List LotV)(f:FactV):(gI ls f).length=(ofL ls f.ins).length:=mo (ft _ _)
theorem Ld(hall:checkAllL ls=0)(hs:∀x ∈ ls,SmallL x)(h0:0<(ofL ls f.ins).length):WtOK ((ofL ls f.ins).map (·.q)):=by
 have h:=pL (ins:=f.ins) hall (oH hall hs) (by simpa[dX] using h0);rwa[nS hall hs]at h
end
theorem Eb{ls:List LotV}{f:FactV}(h:(ofL ls f.ins).length=0):pO ls f.ins=ls∧totQ ls f.ins=0∧totC ls f.ins=0:=by
 have e:ofL ls f.ins=[]:=My.1 h;refine⟨?_,by unfold totQ;rw[e];rfl,by unfold totC;rw[e];rfl⟩;unfold pO;rw[List.filter_eq_self];intro x hx;have:x ∉ ofL ls f.ins:=by rw[e];exact N7
 simp only[MW];intro hi;exact this (Og.2 ⟨hx,by simpa using hi⟩)
end
section
open Go.RowKit Go.Shelf
attribute [local go_sem] size_bs toList_bs
theorem kU{P:Program}{ops:Array Oper}{rest:List Oper}{op:Oper}{a:Act}{Q:Exit->Act->World->Prop}(hw:Region.wanted op (yielded ops a.tmps)=true)(ty:TypeId)(x:Operand)(ho:op.op = .load ty x)
  (b o:Nat) (hx:a.eval x = .pointer (some ⟨b,o,none⟩)) (cs:List Value) (d:TypeDesc) (hc:w.rangeAt b o cs)
  (hu:P.underlying ty=some d) (hd:d.isRow=true) (hi:(P.info? ty).map (·.size)=some cs.length) (v:Value) (hv:Value.agg cs.toArray=v)
  (h:wpList P ops Q rest (a.put op.dst v) w):wpList P ops Q (op :: rest) a w:=by
 subst hv;exact bS hw ty x ho b o hx cs d hc hu hd hi h
theorem Gk(ls:List LotV)(A:Option Addr)(c:Nat)(f:FactV)(ps:List Fr)(os:List OptV)(pa oa:Option Addr)(pc oq:Nat)(w:World)(hE:Env w)(hA:aK w A ls)(hF:FactAt w f ps os pa oa pc)(hi:CalIn ls f ps os)
  (h1:f.price.num.length<=1000) (h2:f.price.den.length<=1000) (hq:(ofI (totQ ls f.ins)).length<=1000) :
  Calls prog 26 #[.slice A ls.length c,aC f (ae pa ps.length pc) (ae oa os.length oq)] w (gu (pO ls f.ins) (gI ls f) (mp ls f) w):=by
 by_cases h0:0<(ofL ls f.ins).length
 ·exact D9 ls A c f ps os pa oa pc oq w hE hA hF hi h1 h2 hq h0
 ·have e:(ofL ls f.ins).length=0:=by omega
  have e1:ofL ls f.ins=[]:=My.1 e;have g:gI ls f=[]:=by unfold gI cG;rw[e1];rfl
  have s:mp ls f=[]:=by unfold mp cQ;rw[e1];rfl
  rw[(Eb e).1,g,s];exact Ea ls A c f ps os pa oa pc oq w hE hA hF hi h1 h2 e1
end
end Go.Proofs.YtaegjkllenlfpaaGreatDoor
