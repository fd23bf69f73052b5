/- The seat's texts, part QL. -/
import Derived.Test.YtaegjkllenlfpaaGreatDoorQ8
import Derived.Test.YtaegjkllenlfpaaGreatDoorQ9
import Derived.Test.YtaegjkllenlfpaaGreatDoorQ14
import Derived.Test.YtaegjkllenlfpaaGreatDoorQ16
import Derived.Test.YtaegjkllenlfpaaGreatDoorQ26
import Derived.Test.YtaegjkllenlfpaaGreatDoorQ32
import Derived.Test.YtaegjkllenlfpaaGreatDoorQ33
import Derived.Test.YtaegjkllenlfpaaGreatDoorQ34
import Derived.Test.YtaegjkllenlfpaaGreatDoorQX
import Derived.Test.YtaegjkllenlfpaaGreatDoorQK
set_option maxRecDepth 100000
set_option maxHeartbeats 8000000
namespace Go.Proofs.YtaegjkllenlfpaaGreatDoor
variable {base size n c k X:Nat}{ins:Bs}
section
open Go.RowKit Go.Shelf
attribute [local go_sem] size_bs toList_bs
theorem AL(kf:Nat)(cb:Array Value)(ek:∀args w,(callFunc kf args).run Tryz.prog w = .ok (.enter kf args) w)(p:GainV->Bool)(ls:List GainV)(A:Option Addr)(c:Nat)(w:World)(hA:jQ w A ls)(hn:ls.length<=1000000)
  (hF:∀x ∈ ls,∀W,Ext w W->Calls Tryz.prog kf (#[DT x]++cb) W fun e w'=>e = .returned (.bool (p x))∧Ext W w') :
  Calls Tryz.prog 102 #[.slice A ls.length c,.func (.func kf) #[] cb] w fun e w'=>e = .returned (.int .i64 (cF p ls))∧Ext w w':=by
 have HA:=qh hA;have HF:=qh hF;clear hA hF;go_enter Tryz.func102,Tryz.ntmps102;go_wp2_with fail;go_loopw [8,5] (fun i _ wr=>∃k:Nat,k<=ls.length∧i = .int .i64 k∧(∀x ∈ ls.take k,p x=false)∧Ext w wr) (fun i _ _=>ls.length-(intOf i).toNat)
 case atStart=>exact⟨0,by omega,rfl,by simp,Ext.refl _⟩
 case round =>
  obtain⟨k,hk,rfl,hz,hx⟩:=hrel;have HZ:=qh hz;have HX:=qh hx;clear hz hx;by_cases hlt:k<ls.length
  ·obtain⟨b,o,rfl,hb,c0,c1,c2,c3,c4,c5,c6,c7,c8,c9⟩:=(HA.out.ext HX.out).at_ hlt;have HC:=qh (HF.out (ls[k]'hlt) (List.getElem_mem _));have HN:Hid (p (ls[k]'hlt)=false->∀x ∈ ls.take (k+1),p x=false):=qh (fun h=>lC hlt HZ.out h);have HI:Hid (p (ls[k]'hlt)=true->cF p ls=k):=qh (fun h=>mI hlt HZ.out h);generalize (ls[k]'hlt)=x at *;go_wp2_with fail;refine(HC.out _ HX.out).mono ?_;rintro e w1⟨rfl,hx1⟩;replace HX:=HX.qt hx1;clear hx1
   cases hp:p x
   ·have HN1:=qh (HN.out hp);clear hp;go_wp2_with fail;go_roundw
    case rel=>exact⟨k+1,by omega,by go_num,HN1.out,HX.out⟩
    case measure=>simp[intOf];omega
   ·have HI1:=qh (HI.out hp);clear hp;go_wp2_with fail;go_ret;exact⟨by rw[HI1.out];rfl,HX.out⟩
  ·have HI:Hid (cF p ls = -1):=qh (lB (by have:=HZ.out;rwa[List.take_of_length_le (by omega)]at this));go_wp2_with fail;go_ret;exact⟨by rw[HI.out];rfl,HX.out⟩
theorem yr(kf:Nat)(cb:Array Value)(ek:∀args w,(callFunc kf args).run Tryz.prog w = .ok (.enter kf args) w)(p:GainV->Bool)(ls:List GainV)(A:Option Addr)(c:Nat)(w:World)(hA:jQ w A ls)(hn:ls.length<=1000000)
  (hF:∀x ∈ ls,∀W,Ext w W->Calls Tryz.prog kf (#[DT x]++cb) W fun e w'=>e = .returned (.bool (p x))∧Ext W w') :
  Calls Tryz.prog 31 #[.slice A ls.length c,.func (.func kf) #[] cb] w fun e w'=>e = .returned (.bool (ls.any p))∧Ext w w':=by
 have HI:=qh (AL kf cb ek p ls A c w hA hn hF);have HZ:Hid (decide (0<=cF p ls)=ls.any p):=qh (pA p ls);generalize ls.any p=b at *;generalize cF p ls=z at *;clear hA hF;go_enter Tryz.func31,Tryz.ntmps31;go_wp2_with fail;refine HI.out.mono ?_;rintro e w1⟨rfl,hx1⟩;have HX:=qh hx1;clear hx1;go_wp2_with fail;go_ret;exact⟨by rw[←HZ.out];rfl,HX.out⟩
theorem AM{w:World}{e:TypeId}{A:Option Addr}{xs:List Value}(h:w.ownsRow base e size (.slice A n c) n xs):n<=c:=by
 rcases h.2 with ⟨h1,h2⟩ | ⟨g,cap,cur,h1,_,_,h2,_⟩
 ·omega
 ·injection h1 with e1 e2 e3
  subst e3;exact h2
theorem uk(fs:List Fr)(f:Fr):bE (fs++[f])=bE fs++bB f:=by simp[bE]
def mD(ls:List LotV)(ins:Bs)(k:Nat):List Fr:=((ofL ls ins).take k).map (fun x=>⟨x.id,x.q⟩)
theorem yt{ls:List LotV}(h:k<(ofL ls ins).length):mD ls ins (k+1)=mD ls ins k++[⟨((ofL ls ins)[k]'h).id,((ofL ls ins)[k]'h).q⟩]:=by
 unfold mD;rw[List.take_succ_eq_append_getElem h,List.map_append];rfl
theorem AN(ls:List LotV)(ins:Bs):mD ls ins (ofL ls ins).length=dU ls ins:=by unfold mD dU;rw[List.take_length]
theorem BK(ls:List LotV)(A:Option Addr)(c:Nat)(f:FactV)(P O:Value)(X Y:Nat)(W:World)(hn:ls.length<=100000)
  (b0:Blk W X 22 #[.slice A ls.length c]) (b1:Blk W Y 30 (af f P O)) (hA:aG W A ls) :
  Calls Tryz.prog 91 #[.pointer (some ⟨X,0,none⟩),.pointer (some ⟨Y,0,none⟩)] W fun e w'=>∃A' c',e = .returned (.tuple #[.slice A' (dU ls f.ins).length c',.int .i64 0])∧dS w' A' (dU ls f.ins)∧(dU ls f.ins).length<=c'∧Ext W w':=by
 have hle:(ofL ls f.ins).length<=ls.length:=List.length_filter_le _ _;have q0:=boxCell b0;obtain⟨x0,x1,x2,x3,x4,x5,x6,x7,x8,x9,x10,x11,x12,x13,x14,x15,x16,x17,x18,x19,x20⟩:=ah b1 (Ext.refl _);have HC:=qh (jT ls A c f.ins W hA hn);have HPL:Hid ((dU ls f.ins).length=(ofL ls f.ins).length):=qh (by simp[dU]);obtain⟨i0,hI,hz0,hz1,hz2⟩:=info_parts sX;have HI:=qh hI;clear x0 x1 x2 x3 x4 x6 x7 x8 x9 x10 x11 x12 x13 x14 x15 x16 x17 x18 x19 x20 b0 b1 hA hI;generalize f.ins=ins at *;go_enter Tryz.func91,Tryz.ntmps91;go_wp2_with fail;refine HC.out.mono ?_;rintro e w2⟨A2,c2,rfl,ho2,hc2,hx1⟩;have HX:=qh hx1;have HR2:Hid (aG w2 A2 (ofL ls ins)):=qh (Reads.own ho2);clear hx1 ho2 hc2 HC q0 x5;go_wp2_with fail;go_loopw [12,4] (fun i v wr=>∃k A7 c7,k<=(ofL ls ins).length∧i = .int .i64 (k:Nat)∧v = .slice A7 k c7∧wr.ownsRow w2.heap.size 124 2 v k (bE (mD ls ins k))∧Ext w2 wr) (fun i _ _=>(ofL ls ins).length-(intOf i).toNat)
 case atStart=>exact⟨0,none,0,by omega,rfl,rfl,by simpa[bE,mD] using World.ownsRow_nil _ _ _ _,Ext.refl _⟩
 case round =>
  obtain⟨k,A7,c7,hk,rfl,rfl,how,hx⟩:=hrel;have HO:=qh how;have HX2:=qh hx;clear how hx;by_cases hlt:k<(ofL ls ins).length
  ·obtain⟨b,o,hA2,hbl,d0,d1,d2,d3,d4,d5,d6⟩:=(HR2.out.ext HX2.out).at_ hlt;subst hA2;have hki:(k:Int)<((ofL ls ins).length:Int):=by omega
   have hk0:(0:Int)<=(k:Int):=by omega
   have HSN:=qh (yt hlt);generalize (ofL ls ins)[k]'hlt=x at *;obtain⟨xi,xn,xa,xo,xq,xc,xu⟩:=x;simp only at d0 d1 d2 d3 d4 d5 d6 HSN;go_upto_region 5 with fail;have BX:=qh (Blk.new wr 62 (lc ⟨xi,xn,xa,xo,xq,xc,xu⟩));have HX3:=qh (HX2.out.trans (Ext.new wr (.cells (lc ⟨xi,xn,xa,xo,xq,xc,xu⟩) 62)));have HO3:=qh (own_ext2 HO.out (Ext.new wr (.cells (lc ⟨xi,xn,xa,xo,xq,xc,xu⟩) 62)));obtain⟨x0,x1,x2,x3,x4,x5,x6⟩:=aj BX.out (Ext.refl _);simp only at *;generalize wr.alloc (.cells #[.string (bs xi),.string (bs xn),.int .i64 xa,.int .i64 xo,.string (bs xq),.string (bs xc),.string (bs xu)] 62)=w5 at *;generalize wr.heap.size=X8 at *;have HO4:=qh (own_ext2 HO3.out (Ext.new w5 (.cells #[.string (bs xi),.string (bs xq)] 124)));have HX4:=qh (HX3.out.trans (Ext.new w5 (.cells #[.string (bs xi),.string (bs xq)] 124)));have hsz:=HX4.out.size;have hlow:=kX HO4.out;clear BX HO HO3 HX2 HX3;go_wp2_with (at_builtin;go_must (refine wpList_append_own _ rfl (.tmp 16) (.tmp 22) 27 rfl w2.heap.size 124 i0 _ 2 32 Tryz.underlying27 HI.out hz0 hz1 hz2 rfl (by decide) _ k (bE (mD ls ins k)) rfl HO4.out ⟨w5.heap.size,0,none⟩ 1 1 (bB ⟨xi,xq⟩) rfl rfl (World.news_of_block (heap_alloc_new w5 _)) (xQ _) (by simp only[maxLen];omega) (by omega) hsz ?_);intro v2 w' hown' hgrow hnil;(obtain⟨A3,c3,rfl⟩:=aM hown');clear hnil;(have HO5:=qh hown');(have HX5:=qh (HX4.out.grown hgrow hlow)));rw[←uk,←HSN.out]at HO5;go_roundw
   case rel=>exact⟨k+1,A3,c3,by omega,by go_num,rfl,HO5.out,HX5.out⟩
   case measure=>simp[intOf];omega
  ·have hke:k=(ofL ls ins).length:=by omega
   subst hke;have hki:¬ (((ofL ls ins).length:Int)<((ofL ls ins).length:Int)):=by omega
   rw[AN]at HO;have hfit:=AM HO.out
   have hrd:dS wr A7 (dU ls ins):=by
    unfold dS;rw[HPL.out];exact Reads.own HO.out
   have HRD:=qh hrd;have HFT:=qh hfit;clear hrd hfit HO;go_wp2_with fail;go_ret2;exact⟨A7,c7,by rw[HPL.out];rfl,HRD.out,by rw[HPL.out];exact HFT.out,HX.out.trans HX2.out⟩
theorem BM(xs:List LotV)(A:Option Addr)(c:Nat)(f:FactV)(P O:Value)(Y:Nat)(W:World)(b1:Blk W Y 30 (af f P O))(hE:Env W)(hA:aG W A xs)(hs:∀x ∈ xs,SmallL x)(hn:xs.length<=100000)
  (h1:f.price.num.length<=2000) (h2:f.price.den.length<=2000) (hq:(ofI (totQ xs f.ins)).length<=2000) :
  Calls Tryz.prog 92 (#[.slice A xs.length c]++#[.pointer (some ⟨Y,0,none⟩)]) W fun e w'=>e = .returned (.string (bs (ofI (jp f.price (ofI (totQ xs f.ins))))))∧Ext W w':=by
 obtain⟨x0,x1,x2,x3,x4,x5,x6,x7,x8,x9,x10,x11,x12,x13,x14,x15,x16,x17,x18,x19,x20⟩:=ah b1 (Ext.refl _);have B1:=qh b1;have HE:=qh hE;have HT:=qh (eu xs A c f.ins W hE hA hs hn);have HV:=qh (sv (L:=2000) (by omega) (by omega) f.price (ofI (totQ xs f.ins)) h1 h2 hq);clear x0 x1 x2 x3 x4 x6 x7 x8 x9 x10 x11 x12 x13 x14 x15 x16 x17 x18 x19 x20 b1 hE hA hs hn h1 h2 hq;generalize ofI (jp f.price (ofI (totQ xs f.ins)))=v at *;generalize ofI (totQ xs f.ins)=q at *;generalize ofI (totC xs f.ins)=tc at *;go_enter Tryz.func92,Tryz.ntmps92;go_wp2_with fail;refine HT.out.mono ?_;rintro e w1⟨rfl,hx1⟩;have HX:=qh hx1;clear hx1 HT x5;obtain⟨-,-,-,-,-,-,-,-,-,-,-,-,x12,x13,x14,x15,-⟩:=ah B1.out HX.out;go_wp2_with fail;refine(HV.out _ (HE.out.ext HX.out)).mono ?_;rintro e w2⟨rfl,hx1⟩;replace HX:=HX.qt hx1;clear hx1 HV;go_wp2_with fail;go_ret;exact⟨rfl,HX.out⟩
end
section
open Go.RowKit
theorem mE{ls:List LotV}(hall:checkAllL ls=0)(hs:∀x ∈ ls,SmallL x):(ax ls (dU ls ins)).2=ofL ls ins:=by
 have hnd:=bj hall;rw[eA _ _ hnd (mX hall hs).ok];unfold dU;rw[List.map_map];conv=>rhs;rw[←List.map_id (ofL ls ins)]
 refine List.map_congr_left (fun x hx=>?_);have h:=mR (p:=⟨x.id,x.q⟩) hnd (bH hx).1 rfl;rw[if_pos rfl]at h;exact h
theorem wh{xs:List LotV}(hn:(xs.map (·.id)).Nodup){x:LotV}(hx:x ∈ xs):bW (xs.map (fun y=>(⟨y.id,y.q⟩:Fr))) x.id=some x.q:=by
 induction xs with
 |nil=>cases hx
 |cons y r ih =>
  rw[List.map_cons,List.nodup_cons]at hn;rw[List.map_cons,ja];rcases List.mem_cons.1 hx with rfl|h
  ·rw[if_pos rfl]
  ·rw[if_neg (fun e=>hn.1 (List.mem_map.2 ⟨x,h,Eq.symm e⟩)),ih hn.2 h]
theorem yv{ls:List LotV}(hall:checkAllL ls=0)(hs:∀x ∈ ls,SmallL x):(ax ls (dU ls ins)).1=aX ls ins:=by
 have hnd:=bj hall;rw[eA _ _ hnd (mX hall hs).ok];unfold aX;rw[←List.filterMap_eq_filter];refine eY (fun x hx=>?_);by_cases hi:x.ins=ins
 ·have hm:x ∈ ofL ls ins:=List.mem_filter.2 ⟨hx,by simpa using hi⟩;have h:=wh (kk hnd ins) hm;unfold aY;rw[show dU ls ins=(ofL ls ins).map (fun y=>(⟨y.id,y.q⟩:Fr)) from rfl,h];simp[Option.guard,hi]
 ·have h:bW (dU ls ins) x.id=none:=gu (fun p hp e=>by
   obtain⟨y,hy,rfl⟩:=List.mem_map.1 hp;obtain⟨h1,h2⟩:=bH hy;have:=nY hnd hx h1 e;rw[this]at h2;exact hi h2)
  unfold aY;rw[h];simp[Option.guard,hi]
end
section
open Go.RowKit Go.Shelf
attribute [local go_sem] size_bs toList_bs Oper.semAt_some
theorem Du(n l B:Nat)(A:Option Addr)(c:Nat)(t:Bs)(J:World->Prop)
  (hJ:∀W,J W->Blk W B 22 #[.slice A 0 c]∧Blk W (B+1) 24 #[.string (bs t)]) (hX:∀W W',J W->Ext W W'->J W') (W:World) (hW0:J W) :
  CallsIn Fence.wide n Tryz.prog 198 #[.func (.yield l) #[] #[],.pointer (some ⟨B,0,none⟩),.pointer (some ⟨B+1,0,none⟩)] W fun e W'=>(∃v,e = .returned v)∧J W':=by
 have hfn:∀k,Fence.wide.fn k:=fun _=>trivial
 have hdp:Fence.wide.depth.isSome=false:=rfl;have HJ:=qh hJ;have HX:=qh hX;have H0:=qh hW0;clear hJ hX hW0;obtain⟨b0,b1⟩:=HJ.out W H0.out;have q0:=b0.cell 0;have q1:=b1.cell 0;simp only[List.getElem?_toArray,List.getElem?_cons_zero]at q0 q1;clear b0 b1;refine callsIn_of_wp Tryz.func198 rfl trivial ?_ rfl;simp only[Tryz.ntmps198,List.size_toArray,List.length_cons,List.length_nil,Nat.reduceAdd,Nat.reduceSub,Array.replicate_succ,Array.replicate_zero,List.push_toArray,List.append_toArray,List.nil_append,List.cons_append];gi_wp2
 gi_loopw [13,4] (fun i v4 wr=>i = .int .i64 0∧v4 = .slice none 0 0∧wr=W) (fun _ _ _=>0)
 case atStart=>exact⟨rfl,rfl,rfl⟩
 case round =>
  obtain⟨rfl,rfl,rfl⟩:=hrel;have C4:=qh (qZ t none 0 wr);gi_wp2
  refine(callsIn_wide.2 C4.out).mono ?_;rintro e w6⟨rfl,hx6⟩;have HJ6:=qh (HX.out wr w6 H0.out hx6);clear hx6 C4 q0 q1;obtain⟨b0,b1⟩:=HJ.out w6 HJ6.out;have q0:=b0.cell 0;simp only[List.getElem?_toArray,List.getElem?_cons_zero]at q0;clear b0 b1;gi_wp2
  gi_loopw [31,9,10] (fun i _ _ wr=>i = .int .i64 0∧wr=w6) (fun _ _ _ _=>0)
  case atStart=>exact⟨rfl,rfl⟩
  case round =>
   obtain⟨rfl,rfl⟩:=hrel;gi_wp2
   go_end0
   exact⟨⟨_,rfl⟩,HJ6.out⟩
end
section
open Go.RowKit Go.Shelf
attribute [local go_sem] size_bs toList_bs
theorem AO(ls:List LotV)(f:FactV)(P O:Value)(t:Bs)(kc kp:Nat)(cb pb:Array Value)(ec:∀args w,(callFunc kc args).run Tryz.prog w = .ok (.enter kc args) w)(ep:∀args w,(callFunc kp args).run Tryz.prog w = .ok (.enter kp args) w)
  (A:Option Addr) (c:Nat) (w:World) (hE:Env w) (hA:aG w A ls) (hs:∀x ∈ ls,SmallL x) (hall:checkAllL ls=0)
  (hC:∀W,Ext w W->Calls Tryz.prog kc cb W fun e w'=>∃A' c',e = .returned (.tuple #[.slice A' 0 c',.int .i64 0])∧Ext W w')
  (hP:∀W A' c',Ext w W->Calls Tryz.prog kp (#[.slice A' 0 c']++pb) W fun e w'=>e = .returned (.string (bs t))∧Ext W w') :
  Calls Tryz.prog 58 #[.slice A ls.length c,az f P O,.func (.func kc) #[] cb,.func (.func kp) #[] pb] w (fw ls [] [] w):=by
 have hfn:∀k,Fence.wide.fn k:=fun _=>trivial
 have hdp:Fence.wide.depth.isSome=false:=rfl
 have htk:∀A PA c pc W,Env W->aG W A ls->Calls Tryz.prog 82 #[.slice A ls.length c,.slice PA 0 pc] W (fun e w'=>∃A c B d,e = .returned (.tuple #[.slice A ls.length c,.slice B 0 d,.int .i64 0])∧aG w' A ls∧aG w' B []∧Ext W w') :=
  fun A PA c pc W hE hA=>qm ls [] ⟨by simp,by simp,by simp⟩ hs hall (by simp) (by simp) A PA c pc (Nat.zero_le _) W hE hA Reads.nil
 have HE:=qh hE;have HA:=qh hA;have HC:=qh hC;have HPP:=qh hP;clear hE hA hC hP hs hall;have HTK:=qh htk;clear htk;have HB0:Hid (Blk ((w.alloc (.cells (af f P O) 30)).alloc (.cells #[.slice none 0 0,.slice none 0 0,.slice none 0 0,.slice none 0 0] 39)) w.heap.size 30 (af f P O)):=qh ((Blk.new _ _ _).alloc _);have HR0:Hid (Blk ((w.alloc (.cells (af f P O) 30)).alloc (.cells #[.slice none 0 0,.slice none 0 0,.slice none 0 0,.slice none 0 0] 39)) (w.heap.size+1) rT #[.slice none 0 0,.slice none 0 0,.slice none 0 0,.slice none 0 0]):=qh (Blk.newAt _ _ _ _ (by simp));have HX0:Hid (Ext w ((w.alloc (.cells (af f P O) 30)).alloc (.cells #[.slice none 0 0,.slice none 0 0,.slice none 0 0,.slice none 0 0] 39))):=qh ((Ext.new _ _).alloc _);obtain⟨fk,fst,fca,fda,fki,fin,fot,fcu,ftg,fq,fam,ffe,⟨fpn,fpd⟩,⟨frn,frd⟩,⟨fsn,fsd⟩,fch⟩:=f;try simp only at *
 refine(callsIn_wide (n:=5)).1 ?_;refine callsIn_of_wp_marks Tryz.func58 rfl trivial ?_ rfl;simp only[Tryz.ntmps58,List.size_toArray,List.length_cons,List.length_nil,Nat.reduceAdd,Nat.reduceSub,Array.replicate_succ,Array.replicate_zero,List.push_toArray,List.append_toArray,List.nil_append,List.cons_append];gi_wp2_with fail;generalize (w.alloc (.cells #[.string (bs fk),.int .i64 fst,.bool fca,.int .i64 fda,.int .i64 fki,.string (bs fin),.string (bs fot),.string (bs fcu),.string (bs ftg),.string (bs fq),.string (bs fam),.string (bs ffe),.string (bs fpn),.string (bs fpd),.string (bs frn),.string (bs frd),.string (bs fsn),.string (bs fsd),P,O,.int .i64 fch] 30)).alloc (.cells #[.slice none 0 0,.slice none 0 0,.slice none 0 0,.slice none 0 0] 39)=w0 at *;refine(callsIn_wide.2 (HC.out _ HX0.out)).mono ?_;rintro e w1⟨A',c',rfl,hx1⟩;replace HX0:=HX0.qt hx1;replace HB0:=qh (HB0.out.ext hx1);replace HR0:=qh (HR0.out.ext hx1);clear hx1 HC;gi_wp2_with fail;refine(callsIn_wide.2 (HTK.out A A' c c' w1 (HE.out.ext HX0.out) (HA.out.ext HX0.out))).mono ?_;rintro e w2⟨A2,c2,A3,c3,rfl,hr2,hr3,hx1⟩;replace HX0:=HX0.qt hx1;replace HB0:=qh (HB0.out.ext hx1);replace HR0:=qh (HR0.out.ext hx1);have HRS:=qh hr2;clear hx1 hr2 hr3 HTK;have HU:=qh (Blk.new w2 rT #[.slice A2 ls.length c2,.slice none 0 0,.slice none 0 0,.slice none 0 0]);have HXU:Hid (Ext w2 (w2.alloc (.cells #[.slice A2 ls.length c2,.slice none 0 0,.slice none 0 0,.slice none 0 0] rT))):=qh (Ext.new _ _);gi_wp2_with fail;refine(callsIn_wide.2 (HPP.out _ A3 c3 (HX0.out.trans HXU.out))).mono ?_;rintro e w3⟨rfl,hx1⟩;replace HU:=qh (HU.out.ext hx1);replace HXU:=HXU.qt hx1;clear hx1 HPP;obtain⟨U,hU⟩:∃U,w2.heap.size=U:=⟨_,rfl⟩;rw[hU]at HU;have HUe:=qh hU;have hRU:w.heap.size+1<U:=by have:=HR0.out.lt;omega
 gi_wp2_with fail;refine(callsIn_wide.2 (Bi 0 A3 c3 t w3)).mono ?_;rintro e w4⟨rfl,hw4⟩;have hxx:Ext w3 w4:=by rw[hw4];exact(Ext.new _ _).alloc _
 have BB:Hid (Blk w4 w3.heap.size 22 #[.slice A3 0 c3]):=qh (by rw[hw4];exact(Blk.new _ _ _).alloc _);have BA:Hid (Blk w4 (w3.heap.size+1) 24 #[.string (bs t)]):=qh (by rw[hw4];exact Blk.newAt _ _ _ _ (by simp));have hs4:w4.heap.size=w3.heap.size+2:=by rw[hw4];simp
 replace HU:=qh (HU.out.ext hxx);replace HXU:=HXU.qt hxx;have HB4:=qh ((HB0.out.ext HXU.out));have HR4:=qh ((HR0.out.ext HXU.out));have HS4:=qh (HRS.out.ext HXU.out);have hUlt:=HU.out.lt;obtain⟨B,hB⟩:∃B,w3.heap.size=B:=⟨_,rfl⟩;rw[hB]at BB BA;clear hxx hw4 HB0 HR0 HRS;gi_wp2_with fail;refine fB rfl (by omega) w4.heap.size rfl rfl trivial (fun _ _=>by rfl) ?_;intro fn lp W1 hlp hW1 _
 have h0:∃vg vs,RD w4 U lp (.slice A2 ls.length c2) vg vs [] [] W1:=by
  subst hW1;have hxx:=(Ext.new w4 (.deferred (some []))).alloc (.loop lp);refine⟨.slice none 0 0,.slice none 0 0,(Only.refl _ _).ext hxx,HU.out.ext hxx,?_,?_,?_,?_⟩
  ·exact World.ownsRow_nil _ _ _ _
  ·exact World.ownsRow_nil _ _ _ _
  ·exact oG (newAt _ _ _ rfl)
  ·exact newAt _ _ _ (by simp)
 refine(Du 4 (w4.heap.size+1) B A3 c3 t (fun W=>∃vg vs,RD w4 U lp (.slice A2 ls.length c2) vg vs [] [] W) ?hJ (fun W W' h hx=>?hX) W1 h0).mono ?_
 case hJ =>
  rintro W⟨vg,vs,h⟩;exact⟨h.ex.blk BB.out (dZ BB.out HU.out (by decide)),h.ex.blk BA.out (dZ BA.out HU.out (by decide))⟩
 case hX =>
  obtain⟨vg,vs,h⟩:=h;exact⟨vg,vs,h.on hx⟩
 rintro e W⟨hv,h⟩;obtain⟨vg,vs,h⟩:=h;refine⟨hv,.inl ⟨h.L,?_⟩⟩;have hP:=h.put (lp':={ lp with state := .exhausted }) hUlt;generalize W.putObj (w4.heap.size+1) (.loop { lp with state := .exhausted })=W3 at *;clear h hv hW1 hlp W1 h0;obtain⟨Ag,cg,rfl⟩:=aM hP.og;obtain⟨As,cs',rfl⟩:=aM hP.os;have HP:=qh hP;have HRB:=qh (hP.ex.blk HR4.out (by omega));clear hP;obtain⟨u0,u1,u2,u3⟩:=jr HP.out.u (Ext.refl _);obtain⟨r0,r1,r2,r3⟩:=jr HRB.out (Ext.refl _);have f0:=HRB.out.frozen 0;have f1:=HRB.out.frozen 1;have f2:=HRB.out.frozen 2;have f3:=HRB.out.frozen 3;dsimp only at *;have HXW:Hid (Ext w W3):=qh (HP.out.ex.toExt (HX0.out.trans HXU.out) (by omega));have HRS:Hid (aG W3 A2 ls):=qh (oQ HS4.out HP.out.ex HU.out (fun j v hv=>uE hv ⟨_,_,_,rfl⟩ ⟨_,_,_,rfl⟩ ⟨_,_,_,rfl⟩ ⟨_,_,_,rfl⟩) (jJ _));have hRD:w4.heap.size≠w.heap.size+1:=by omega
 gi_wp2
 have hD:=Bk (a := .slice A2 ls.length c2) (b := .slice Ag ([]:List GainV).length cg) (c := .slice As ([]:List StepV).length cs') (d := .slice none 0 0) (R:=w.heap.size+1) HP.out.D hRD;have hB4:=mr (a := .slice A2 ls.length c2) (b := .slice Ag ([]:List GainV).length cg) (c := .slice As ([]:List StepV).length cs') (d := .slice none 0 0) HRB.out;refine⟨by simp,.inl ⟨_,_,rfl,run_takeDeferred hD,?_⟩⟩;refine⟨.tuple #[.agg #[.slice A2 ls.length c2,.slice Ag ([]:List GainV).length cg,.slice As ([]:List StepV).length cs',.slice none 0 0],.int .i64 0],d8 rfl _ _ (w.heap.size+1) _ _ _ _ _ rfl rfl (hB4.put _ (Ne.symm hRD)),?_⟩;refine⟨A2,c2,Ag,cg,As,cs',rfl,?_,?_,?_,?_⟩
 ·exact uF (mt HRS.out HRB.out ⟨_,_,_,rfl⟩ ⟨_,_,_,rfl⟩ ⟨_,_,_,rfl⟩ ⟨_,_,_,rfl⟩ (jJ _)) hD (by intro cs t z h;cases h) _
 ·exact Reads.own (jS (vK HP.out.og HRB.out (by decide)) hD)
 ·exact Reads.own (jS (vK HP.out.os HRB.out (by decide)) hD)
 ·exact(nR HXW.out (by omega)).putObj (by omega) _
structure CalIn (ls:List LotV) (f:FactV) (ps:List Fr) (os:List OptV):Prop where
 great:bG ls=false
 all:checkAllL ls=0
 fe:aU f ps os=0
 kd:f.kind=14
structure CalAt (w:World) (ls:List LotV) (f:FactV) (P O:Value) (X:Nat) (A:Option Addr) (c:Nat) (W:World):Prop where
 x:w.heap.size<=X
 ext:Ext w W
 b0:Blk W X 22 #[.slice A ls.length c]
 b1:Blk W (X+1) 30 (af f P O)
 rd:aG W A ls
theorem CalAt.on{w:World}{ls:List LotV}{f:FactV}{P O:Value}{A:Option Addr}{W W':World}(h:CalAt w ls f P O X A c W)(hx:Ext W W'):CalAt w ls f P O X A c W':=⟨h.x,h.ext.trans hx,h.b0.ext hx,h.b1.ext hx,h.rd.ext hx⟩
theorem uZ(ls:List LotV)(A:Option Addr)(c:Nat)(f:FactV)(ps:List Fr)(os:List OptV)(pa oa:Option Addr)(pc oq:Nat)(w:World)(hE:Env w)(hA:aG w A ls)(hF:FactAt w f ps os pa oa pc)(hi:CalIn ls f ps os)
  (R:Value->Value->Value->Int->World->Prop) (hR:∀a b c d z X W,w.heap.size<=X->R a b c z W->Blk W X rT #[.slice none 0 0,.slice none 0 0,.slice none 0 0,.slice none 0 0]->R a b c z (mq W X a b c d))
  (hD:∀X W,CalAt w ls f (ae pa ps.length pc) (ae oa os.length oq) X A c W->Calls Tryz.prog 58 #[.slice A ls.length c,az f (ae pa ps.length pc) (ae oa os.length oq),.func (.func 91) #[] #[.pointer (some ⟨X,0,none⟩),.pointer (some ⟨X+1,0,none⟩)],.func (.func 92) #[] #[.pointer (some ⟨X+1,0,none⟩)]] W fun e w'=>m5 R e w'∧Ext W w') :
  Calls Tryz.prog 26 #[.slice A ls.length c,az f (ae pa ps.length pc) (ae oa os.length oq)] w (m5 R):=by
 have hs:=bM hi.great;have hwf:(Lit.int .i64 f.kind).wf=true:=by rw[hi.kd];decide
 have ck:=fun W (hx:Ext w W)=>tv ls A c f ps os pa oa pc oq W (hE.ext hx) (hA.ext hx) (hF.ext hx) hwf hs hi.all hi.fe
 rw[hi.kd]at ck;have CK:=qh ck;have HA:=qh hA;have HD:=qh hD;have HRR:=qh hR;have hs1:(Tryz.prog.info? 30).map (·.size)=some (af f (ae pa ps.length pc) (ae oa os.length oq)).toList.length:=by kernel_rfl
 have B0:=qh (((Blk.new w 22 #[.slice A ls.length c]).alloc (.cells (af f (ae pa ps.length pc) (ae oa os.length oq)) 30)).alloc (.cells #[.slice none 0 0,.slice none 0 0,.slice none 0 0,.slice none 0 0] rT));have B1:=qh ((Blk.newAt (w.alloc (.cells #[.slice A ls.length c] 22)) 30 (af f (ae pa ps.length pc) (ae oa os.length oq)) (w.heap.size+1) (by simp)).alloc (.cells #[.slice none 0 0,.slice none 0 0,.slice none 0 0,.slice none 0 0] rT));have B3:=qh (Blk.newAt ((w.alloc (.cells #[.slice A ls.length c] 22)).alloc (.cells (af f (ae pa ps.length pc) (ae oa os.length oq)) 30)) rT #[.slice none 0 0,.slice none 0 0,.slice none 0 0,.slice none 0 0] (w.heap.size+2) (by simp));have HX:Hid (Ext w (((w.alloc (.cells #[.slice A ls.length c] 22)).alloc (.cells (af f (ae pa ps.length pc) (ae oa os.length oq)) 30)).alloc (.cells #[.slice none 0 0,.slice none 0 0,.slice none 0 0,.slice none 0 0] rT))):=qh (((Ext.new _ _).alloc _).alloc _);clear hE hA hF hi hD hR ck hs hwf;go_enter Tryz.func26,Tryz.ntmps26;go_upto_region 1 with fail;generalize (((w.alloc (.cells #[.slice A ls.length c] 22)).alloc (.cells (af f (ae pa ps.length pc) (ae oa os.length oq)) 30)).alloc (.cells #[.slice none 0 0,.slice none 0 0,.slice none 0 0,.slice none 0 0] rT))=w0 at *;obtain⟨X,hX⟩:∃X,w.heap.size=X:=⟨_,rfl⟩;rw[hX]at B0 B1 B3 ⊢;have q0:=boxCell B0.out;have hrg:=aE B1.out;go_wp2_with (first|refine bX (by kernel_rfl) 30 _ rfl (X+1) 0 rfl _ _ hrg Tryz.underlying30 rfl hs1 ?_|fail);refine(CK.out _ HX.out).mono ?_;rintro e w1⟨rfl,hx1⟩;replace B0:=qh (B0.out.ext hx1);replace B1:=qh (B1.out.ext hx1);replace B3:=qh (B3.out.ext hx1);replace HX:=HX.qt hx1;clear hx1 CK q0 hrg;have HS:Hid (CalAt w ls f (ae pa ps.length pc) (ae oa os.length oq) X A c w1):=qh ⟨by omega,HX.out,B0.out,B1.out,HA.out.ext HX.out⟩;have q0:=boxCell B0.out;have hrg:=aE B1.out;have HDD:=qh (HD.out X w1 HS.out);clear HS HD;go_wp2_with (first|refine bX (by kernel_rfl) 30 _ rfl (X+1) 0 rfl _ _ hrg Tryz.underlying30 rfl hs1 ?_|fail);refine HDD.out.mono ?_;rintro e w5⟨⟨Aa,na,ca,Ab,nb,cb,Ac,nc,cc,z,rfl,hr⟩,hx1⟩;replace B3:=qh (B3.out.ext hx1);have HRE:=qh hr;clear hr hx1 HDD hrg q0;obtain⟨r0,r1,r2,r3⟩:=jr B3.out (Ext.refl _);have f0:=B3.out.frozen 0;have f1:=B3.out.frozen 1;have f2:=B3.out.frozen 2;have f3:=B3.out.frozen 3;go_wp2_with fail;have hB4:=mr (a := .slice Aa na ca) (b := .slice Ab nb cb) (c := .slice Ac nc cc) (d := .slice none 0 0) B3.out;refine bodyPost_ret (d8 rfl _ _ (X+1+1) _ _ _ _ _ rfl rfl hB4) rfl ?_;exact⟨Aa,na,ca,Ab,nb,cb,Ac,nc,cc,z,rfl,HRR.out _ _ _ _ _ (X+2) _ (by omega) HRE.out B3.out⟩
def eD(ls:List LotV)(f:FactV):Bs:=ofI (jp f.price (ofI (totQ ls f.ins)))
theorem tD(ls:List LotV)(ins:Bs):totQ (ofL ls ins) ins=totQ ls ins:=by unfold totQ ofL;rw[List.filter_filter];simp
def aV(ls:List LotV)(f:FactV):List GainV:=cA f.key f.ins f.day (ofL ls f.ins) (dh (eD ls f) (ofL ls f.ins))
def jk(ls:List LotV)(f:FactV):List StepV:=dw f.key (ofL ls f.ins)
theorem AP(ls:List LotV)(A:Option Addr)(c:Nat)(f:FactV)(ps:List Fr)(os:List OptV)(pa oa:Option Addr)(pc oq:Nat)(w:World)(hE:Env w)(hA:aG w A ls)(hF:FactAt w f ps os pa oa pc)(hi:CalIn ls f ps os)
  (h1:f.price.num.length<=1000) (h2:f.price.den.length<=1000) (hq:(ofI (totQ ls f.ins)).length<=1000) (h0:0<(ofL ls f.ins).length) :
  Calls Tryz.prog 26 #[.slice A ls.length c,az f (ae pa ps.length pc) (ae oa os.length oq)] w (fw (aX ls f.ins) (aV ls f) (jk ls f) w):=by
 have hs:=bM hi.great;have hn:=(ap hi.all).1;have hle:(ofL ls f.ins).length<=ls.length:=List.length_filter_le _ _;have hp:=mX (ins:=f.ins) hi.all hs;have h0p:0<(dU ls f.ins).length:=by simpa[dU] using h0
 have hv:(eD ls f).length<=1000+1000+2:=mg (sr (L:=1000) (by decide) h1 h2 hq);have hso:∀x ∈ ofL ls f.ins,SmallL x:=fun x hx=>hs x (bH hx).1
 refine(uZ ls A c f ps os pa oa pc oq w hE hA hF hi (qo (aX ls f.ins) (aV ls f) (jk ls f) w) (fun a b c d z X W hX hr hb=>hr.set hX hb) ?_).mono ?_
 ·intro X W h;have hd:=tu ls (dU ls f.ins) f (ae pa ps.length pc) (ae oa os.length oq) (eD ls f) 91 92 #[.pointer (some ⟨X,0,none⟩),.pointer (some ⟨X+1,0,none⟩)] #[.pointer (some ⟨X+1,0,none⟩)] (fun _ _=>by rfl) (fun _ _=>by rfl) A c W (hE.ext h.ext) h.rd hs hi.all hp h0p (by omega) (jx _) ?_ ?_
  ·rw[mE hi.all hs,yv hi.all hs]at hd;refine hd.mono ?_;rintro e w'⟨A1,c1,B1,d1,C1,k1,rfl,r1,r2,r3,hx⟩;exact⟨⟨A1,_,c1,B1,_,d1,C1,_,k1,0,rfl,rfl,⟨A1,c1,rfl,r1⟩,⟨B1,d1,rfl,r2⟩,⟨C1,k1,rfl,r3⟩,h.ext.trans hx⟩,hx⟩
  ·intro W' hx;have h':=h.on hx;exact BK ls A c f _ _ X (X+1) W' (by omega) h'.b0 h'.b1 h'.rd
  ·intro W' A2 c2 hx hr;have h':=h.on hx;rw[mE hi.all hs]at hr ⊢;have hq2:(ofI (totQ (ofL ls f.ins) f.ins)).length<=2000:=by rw[tD];omega
   have:=BM (ofL ls f.ins) A2 c2 f _ _ (X+1) W' h'.b1 (hE.ext h'.ext) hr hso (by omega) (by omega) (by omega) hq2;rw[tD]at this
   exact this
 ·rintro e w'⟨A1,n1,c1,B1,m1,d1,C1,k1,l1,z,rfl,rfl,⟨A2,c2,e1,r1⟩,⟨B2,d2,e2,r2⟩,⟨C2,k2,e3,r3⟩,hx⟩;rw[e1,e2,e3];exact⟨A2,c2,B2,d2,C2,k2,rfl,r1,r2,r3,hx⟩
theorem AQ(ls:List LotV)(A:Option Addr)(c:Nat)(f:FactV)(ps:List Fr)(os:List OptV)(pa oa:Option Addr)(pc oq:Nat)(w:World)(hE:Env w)(hA:aG w A ls)(hF:FactAt w f ps os pa oa pc)(hi:CalIn ls f ps os)
  (h1:f.price.num.length<=1000) (h2:f.price.den.length<=1000) (h0:ofL ls f.ins=[]) :
  Calls Tryz.prog 26 #[.slice A ls.length c,az f (ae pa ps.length pc) (ae oa os.length oq)] w (fw ls [] [] w):=by
 have hs:=bM hi.great;have hn:=(ap hi.all).1;refine(uZ ls A c f ps os pa oa pc oq w hE hA hF hi (qo ls [] [] w) (fun a b c d z X W hX hr hb=>hr.set hX hb) ?_).mono ?_
 ·intro X W h;have hd:=AO ls f (ae pa ps.length pc) (ae oa os.length oq) (ofI (jp f.price (ofI (totQ [] f.ins)))) 91 92 #[.pointer (some ⟨X,0,none⟩),.pointer (some ⟨X+1,0,none⟩)] #[.pointer (some ⟨X+1,0,none⟩)] (fun _ _=>by rfl) (fun _ _=>by rfl) A c W (hE.ext h.ext) h.rd hs hi.all ?_ ?_
  ·refine hd.mono ?_;rintro e w'⟨A1,c1,B1,d1,C1,k1,rfl,r1,r2,r3,hx⟩;exact⟨⟨A1,_,c1,B1,_,d1,C1,_,k1,0,rfl,rfl,⟨A1,c1,rfl,r1⟩,⟨B1,d1,rfl,r2⟩,⟨C1,k1,rfl,r3⟩,h.ext.trans hx⟩,hx⟩
  ·intro W' hx;have h':=h.on hx;refine(BK ls A c f _ _ X (X+1) W' (by omega) h'.b0 h'.b1 h'.rd).mono ?_;rintro e w'⟨A2,c2,rfl,_,_,hx2⟩;exact⟨A2,c2,by simp[dU,h0],hx2⟩
  ·intro W' A2 c2 hx;have h':=h.on hx;exact BM [] A2 c2 f _ _ (X+1) W' h'.b1 (hE.ext h'.ext) Reads.nil (by simp) (by simp) (by omega) (by omega) (by rw[show totQ ([]:List LotV) f.ins=0 from rfl,cP.2 rfl];simp)
 ·rintro e w'⟨A1,n1,c1,B1,m1,d1,C1,k1,l1,z,rfl,rfl,⟨A2,c2,e1,r1⟩,⟨B2,d2,e2,r2⟩,⟨C2,k2,e3,r3⟩,hx⟩;rw[e1,e2,e3];exact⟨A2,c2,B2,d2,C2,k2,rfl,r1,r2,r3,hx⟩
end
section
open Go.RowKit
section
variable {ls:List LotV} {f:FactV}
theorem lZ(ls:List LotV)(f:FactV):(aV ls f).length=(ofL ls f.ins).length:=m6 (eC _ _)
theorem yw(hk:k<(ofL ls f.ins).length):∃hk':k<(aV ls f).length,((aV ls f)[k]'hk').lot=((ofL ls f.ins)[k]'hk).id∧((aV ls f)[k]'hk').q=((ofL ls f.ins)[k]'hk).q∧((aV ls f)[k]'hk').c=((ofL ls f.ins)[k]'hk).c:=by
 obtain⟨hk',hp,e⟩:=pi (key:=f.key) (ins:=f.ins) (day:=f.day) (eC (eD ls f) (ofL ls f.ins)) hk;have e2:(aV ls f)[k]'hk'=lL f.key f.ins f.day ((ofL ls f.ins)[k]'hk) ((dh (eD ls f) (ofL ls f.ins))[k]'hp):=e;exact⟨hk',by rw[e2];rfl,by rw[e2];rfl,by rw[e2];rfl⟩
theorem BO(hall:checkAllL ls=0)(hs:∀x ∈ ls,SmallL x)(h0:0<(ofL ls f.ins).length):WtOK ((ofL ls f.ins).map (·.q)):=by
 have h:=oo (ins:=f.ins) hall (mX hall hs) (by simpa[dU] using h0);rwa[mE hall hs]at h
theorem Dv(hall:checkAllL ls=0)(hs:∀x ∈ ls,SmallL x)(h0:0<(ofL ls f.ins).length):bQ (·.q) (aV ls f)=totQ ls f.ins∧bQ (·.p) (aV ls f)=jp f.price (ofI (totQ ls f.ins))∧bQ (·.c) (aV ls f)=totC ls f.ins:=by
 obtain⟨a,b,c⟩:=tB (key:=f.key) (ins:=f.ins) (day:=f.day) (eC (eD ls f) (ofL ls f.ins));refine⟨a,c.trans ?_,b⟩;have w:0<(((ofL ls f.ins).map (·.q)).map valI).sum:=(BO hall hs h0).sum;unfold dh;rw[List.map_map,show(valI ∘ ofI)=id from funext fun z=>valI_ofI z,List.map_id,lm w,eD,valI_ofI]
theorem Dw(hg:bG ls=false)(hall:checkAllL ls=0)(h0:0<(ofL ls f.ins).length)(hv:(eD ls f).length<=3000):∀g ∈ aV ls f,g.q.length<=4000∧g.p.length<=4000∧g.c.length<=4000:=by
 have hs:=bM hg;have w:=BO (f:=f) hall hs h0
 have hw:∀x ∈ ((ofL ls f.ins).map (·.q)).map valI,0<=x:=by
  intro x hx;obtain⟨y,hy,rfl⟩:=List.mem_map.1 hx;exact w.nn y hy
 have hS:0<(((ofL ls f.ins).map (·.q)).map valI).sum:=w.sum;intro g hgm;obtain⟨k,hk,rfl⟩:=List.getElem_of_mem hgm;have hk2:k<(ofL ls f.ins).length:=by rw[lZ]at hk;exact hk
 obtain⟨_,hpk,e⟩:=pi (key:=f.key) (ins:=f.ins) (day:=f.day) (eC (eD ls f) (ofL ls f.ins)) hk2;have e2:(aV ls f)[k]'hk=lL f.key f.ins f.day ((ofL ls f.ins)[k]'hk2) ((dh (eD ls f) (ofL ls f.ins))[k]'hpk):=e;obtain⟨l1,l2,_,_,_⟩:=fI ((cI hg).2 _ (bH (List.getElem_mem hk2)).1)
 have hb:((dh (eD ls f) (ofL ls f.ins))[k]'hpk).length<=3001:=by
  have hb:=List.getElem_mem hpk;generalize (dh (eD ls f) (ofL ls f.ins))[k]'hpk=b at *;unfold dh at hb;obtain⟨v,hv2,rfl⟩:=List.mem_map.1 hb;exact eL (l:=eD ls f) (uY hw hS v hv2) hv
 rw[e2];exact⟨by show((ofL ls f.ins)[k]'hk2).q.length<=4000;omega,by show((dh (eD ls f) (ofL ls f.ins))[k]'hpk).length<=4000;omega,by show((ofL ls f.ins)[k]'hk2).c.length<=4000;omega⟩
end
def aI(ls:List LotV)(f:FactV):FactV:=⟨f.key,f.stamp,false,f.day,4,f.ins,[],[],[],ofI (totQ ls f.ins),eD ls f,[],⟨[],[]⟩,⟨[],[]⟩,⟨[],[]⟩,0⟩
theorem AU{ls:List LotV}{f:FactV}(hall:checkAllL ls=0):cN ls (aI ls f) [] [] 1=0∨(cN ls (aI ls f) [] [] 1≠0∧aU (aI ls f) [] []≠0):=by
 have e:valI (aI ls f).qty=totQ ls (aI ls f).ins:=valI_ofI _;unfold cN;rcases lY ls (aI ls f) [] [] 4 with ⟨h1|h1,e1⟩ | ⟨_,_,h1,_⟩ | ⟨_,_,_,e1⟩
 ·exact absurd hall h1
 ·rw[e1,if_pos (by decide)];exact .inr ⟨by decide,h1⟩
 ·exact absurd rfl h1
 ·rw[e1,if_neg (by decide),if_neg (by decide),if_neg (by omega)];exact .inl rfl
theorem oy{ls:List LotV}{f:FactV}(h:(ofL ls f.ins).length=0):aX ls f.ins=ls∧totQ ls f.ins=0∧totC ls f.ins=0:=by
 have e:ofL ls f.ins=[]:=List.length_eq_zero_iff.1 h;refine⟨?_,by unfold totQ;rw[e];rfl,by unfold totC;rw[e];rfl⟩;unfold aX;rw[List.filter_eq_self];intro x hx;have:x ∉ ofL ls f.ins:=by rw[e];exact List.not_mem_nil
 simp only[decide_eq_true_eq];intro hi;exact this (List.mem_filter.2 ⟨hx,by simpa using hi⟩)
theorem Fm{ls:List LotV}{f:FactV}(h:FactSm f)(hq:(ofI (totQ ls f.ins)).length<=9000)(hv:(eD ls f).length<=9000)(W:World):FactAt W (aI ls f) [] [] none none 0 :=
 ⟨⟨h.key,h.ins,by simp[aI],by simp[aI],by simp[aI],hq,hv,by simp[aI],by simp[aI],by simp[aI],by simp[aI],by simp[aI],by simp[aI],by simp[aI]⟩,Reads.nil,by simp,by simp,by simp,Reads.nil,by simp,by simp⟩
def m7(x z:GainV):Bool:=(z.lot == x.lot) && (z.q == x.q) && (z.c == x.c)
theorem Fn{ls:List LotV}{f:FactV}(hG:bG ls=false)(h:cN ls (aI ls f) [] [] 1=0)(k:Nat)(hk:k<(aV ls f).length):(∃h':k<(ofL ls f.ins).length,((aV ls f)[k]'hk).lot=((ofL ls f.ins)[k]'h').id)∧(aP ls (aI ls f) 1 []).any (m7 ((aV ls f)[k]'hk))=true:=by
 have hk2:k<(ofL ls f.ins).length:=by rw[←lZ];exact hk
 obtain⟨_,e1,e2,e3⟩:=yw hk2;have hgo:=j5 hG h;have hs:aC ls (aI ls f).ins 1=ls:=by unfold aC;rw[if_neg (by decide)]
 obtain⟨g,hg,f1,f2,f3⟩:=hgo.inn.gainOf 1 (valI_ofI _) ((ofL ls f.ins)[k]'hk2) (by rw[hs];exact List.getElem_mem hk2);refine⟨⟨hk2,e1⟩,List.any_eq_true.2 ⟨g,hg,?_⟩⟩;unfold m7;rw[e1,e2,e3,f1,f2,f3];simp
end
section
open Go.RowKit Go.Shelf
attribute [local go_sem] size_bs toList_bs
abbrev pj(f:FactV)(q v:Bs):Array Value:=#[.string (bs f.key),.int .i64 f.stamp,.bool false,.int .i64 f.day,.int .i64 4,.string (bs f.ins),.string ⟨#[]⟩,.string ⟨#[]⟩,.string ⟨#[]⟩,.string (bs q),.string (bs v),.string ⟨#[]⟩,.string ⟨#[]⟩,.string ⟨#[]⟩,.string ⟨#[]⟩,.string ⟨#[]⟩,.string ⟨#[]⟩,.string ⟨#[]⟩,.slice none 0 0,.slice none 0 0,.int .i64 0]
theorem Dx(ls:List LotV)(A:Option Addr)(c:Nat)(f:FactV)(ps:List Fr)(os:List OptV)(pa oa:Option Addr)(pc oq:Nat)(w:World)(hE:Env w)(hA:aG w A ls)(hF:FactAt w f ps os pa oa pc)(hi:CalIn ls f ps os)
  (h1:f.price.num.length<=1000) (h2:f.price.den.length<=1000) (hq:(ofI (totQ ls f.ins)).length<=1000) :
  Calls Tryz.prog 26 #[.slice A ls.length c,az f (ae pa ps.length pc) (ae oa os.length oq)] w (fw (aX ls f.ins) (aV ls f) (jk ls f) w):=by
 by_cases h0:0<(ofL ls f.ins).length
 ·exact AP ls A c f ps os pa oa pc oq w hE hA hF hi h1 h2 hq h0
 ·have e:(ofL ls f.ins).length=0:=by omega
  have e1:ofL ls f.ins=[]:=List.length_eq_zero_iff.1 e;have g:aV ls f=[]:=by unfold aV cA;rw[e1];rfl
  have s:jk ls f=[]:=by unfold jk dw;rw[e1];rfl
  rw[(oy e).1,g,s];exact AQ ls A c f ps os pa oa pc oq w hE hA hF hi h1 h2 e1
theorem yx(p:Fr):jp p []=0:=by
 unfold jp;have e:valI ([]:Bs)=0:=by decide
 rw[e];have e2:ay p*((0:Int):Rat)=((0:Int):Rat):=by simp
 rw[e2];exact vA 0
theorem AX{ls:List LotV}{f:FactV}(hall:checkAllL ls=0)(hs:∀x ∈ ls,SmallL x):bQ (·.q) (aV ls f)=totQ ls f.ins∧bQ (·.p) (aV ls f)=jp f.price (ofI (totQ ls f.ins))∧bQ (·.c) (aV ls f)=totC ls f.ins:=by
 by_cases h0:0<(ofL ls f.ins).length
 ·exact Dv hall hs h0
 ·have e:(ofL ls f.ins).length=0:=by omega
  have e1:ofL ls f.ins=[]:=List.length_eq_zero_iff.1 e;have g:aV ls f=[]:=by unfold aV cA;rw[e1];rfl
  obtain⟨_,e2,e3⟩:=oy e;rw[g,e2,e3,cP.2 rfl,yx];exact⟨rfl,rfl,rfl⟩
theorem It(z x:GainV)(X:Nat)(W:World)(hb:Blk W X 60 (nk x)):Calls Tryz.prog 32 (#[DT z]++#[.pointer (some ⟨X,0,none⟩)]) W fun e w'=>e = .returned (.bool (m7 x z))∧Ext W w':=by
 have HB:=qh (Blk.new W 60 (nk z));have HX:Hid (Ext W (W.alloc (.cells (nk z) 60))):=qh (Ext.new _ _);obtain⟨g0,g1,g2,g3,g4,g5,g6,g7,g8,g9⟩:=lA HB.out (Ext.refl _);obtain⟨k0,k1,k2,k3,k4,k5,k6,k7,k8,k9⟩:=lA hb HX.out;have hlt:=hb.lt;clear hb;obtain⟨gk,gl,gi,ga,gc',gq,gp,gco,gd,gr⟩:=z;obtain⟨xk,xl,xi,xa,xc',xq,xp,xco,xd,xr⟩:=x;simp only[m7]at *;clear g0 g2 g3 g4 g6 g8 g9 k0 k2 k3 k4 k6 k8 k9
 cases h1:(gl == xl)
 focus simp only[Bool.false_and]
 rotate_left
 focus
  cases h2:(gq == xq)
  ·simp only[Bool.false_and,Bool.true_and];go_enter Tryz.func32,Tryz.ntmps32;go_wp2_with fail;go_ret;exact⟨rfl,HX.out⟩
  simp only[Bool.true_and];generalize h3:(gco == xco)=b3
 all_goals
  go_enter Tryz.func32,Tryz.ntmps32;go_wp2_with fail;go_ret;exact⟨rfl,HX.out⟩
end
end Go.Proofs.YtaegjkllenlfpaaGreatDoor
