/- The seat's texts, part UB. -/
import Derived.Test.YthgpheopnhajaaaGreatDoorU20
import Derived.Test.YthgpheopnhajaaaGreatDoorU33
import Derived.BigQuiet
set_option maxRecDepth 100000
set_option maxHeartbeats 8000000
namespace Go.Proofs.YthgpheopnhajaaaGreatDoor
section
open Go.RowKit Go.Shelf
theorem bestK_max (os:List OptV):∀ k,(∀ j,j<k→wq os j≤wq os (bestK os k))∧(∀ j,j<bestK os k→wq os j<wq os (bestK os k))
 |0=>⟨fun j h=>absurd h (by omega),fun j h=>absurd h (by simp [bestK])⟩
 |k+1=>by
  obtain ⟨i1,i2⟩:=bestK_max os k
  by_cases h0:k=0
  ·subst h0
   have e:bestK os (0+1)=0:=rfl
   rw [e]
   refine ⟨fun j h=>?_,fun j h=>absurd h (by omega)⟩
   have:j=0:=by omega
   subst this
   exact Rat.le_refl
  by_cases h1:wq os (bestK os k)<wq os k
  ·have e:bestK os (k+1)=k:=by rw [bestK,if_neg h0,if_pos h1]
   rw [e]
   refine ⟨fun j h=>?_,fun j h=>?_⟩
   ·by_cases hj:j=k
    ·subst hj;exact Rat.le_refl
    ·have:=i1 j (by omega);grind
   ·have:=i1 j h;grind
  ·have e:bestK os (k+1)=bestK os k:=by rw [bestK,if_neg h0,if_neg h1]
   rw [e]
   refine ⟨fun j h=>?_,i2⟩
   by_cases hj:j=k
   ·subst hj;exact Rat.not_lt.1 h1
   ·exact i1 j (by omega)
theorem bestK_in {os:List OptV} (h:os≠[]):bestK os os.length<os.length:=by
 cases hh:os.length with
 |zero=>exact absurd (List.eq_nil_of_length_eq_zero hh) h
 |succ n=>have:=bestK_lt os n;omega
end
section
open Go.RowKit Go.Shelf
attribute [local go_sem] size_bs toList_bs
theorem digN_le (l:Bs):digN l≤l.length:=by
 unfold digN strip
 split
 ·rw [List.length_tail];omega
 ·exact Nat.le_refl _
theorem numE_ofQ {q:Rat} (hq:0≤q) (hb:QB 27 q):numE (ofQ q)=0:=by
 have t:=numF (ofQ q)
 have l1:=hb.num_len
 have l2:=hb.den_len
 have d1:=digN_le (ofQ q).num
 have d2:=digN_le (ofQ q).den
 refine t.k ?_ (by omega) (by omega) ?_
 ·unfold checkF;rw [frQ_ofQ,if_pos ⟨rfl,rfl⟩]
 ·rw [frQ_ofQ,cmpQ_neg];exact Rat.not_lt.2 hq
theorem best_more {o:OptV} {m:Fr} (h:optE o=0) (hg:greatO o=false) (hm:longF m=false) (h0:0≤frQ m) :
  worthV { o with p:=ofQ (frQ o.p+frQ m) }=(ofQ (worthQ o+frQ m),0)∧OptSm 40 { o with p:=ofQ (frQ o.p+frQ m) }:=by
 obtain ⟨g,e1,e2,e3,eb⟩:=opt_ok h
 obtain ⟨_,_,_,p0,_⟩:=num_ok e2
 obtain ⟨s0,s1,s2,s3,s4,s5,s6⟩:=greatO_small hg
 have hp:longF o.p=false:=by
  unfold greatO at hg
  simp only [Bool.or_eq_false_iff] at hg
  exact hg.2.1.2
 obtain ⟨a1,a2⟩:=longF_no hp
 obtain ⟨a3,a4⟩:=longF_no hm
 have qb:QB 27 (frQ o.p+frQ m):=(frQ_qb a1 a2 (by decide)).add (frQ_qb a3 a4 (by decide))
 have hs:0≤frQ o.p+frQ m:=by grind
 have en:=numE_ofQ hs qb
 have l1:=qb.num_len
 have l2:=qb.den_len
 constructor
 ·have ee:optE { o with p:=ofQ (frQ o.p+frQ m) }=0:=(optT { o with p:=ofQ (frQ o.p+frQ m) }).k g e1 en e3 eb
  unfold worthV
  rw [if_pos ee]
  unfold worthQ
  rw [frQ_ofQ]
  have:frQ o.r*frQ o.v+(frQ o.p+frQ m)=frQ o.r*frQ o.v+frQ o.p+frQ m:=by grind
  rw [this]
 ·exact ⟨by show o.other.length≤40;omega,by show o.r.num.length≤40;omega,by show o.r.den.length≤40;omega,by show (ofQ (frQ o.p+frQ m)).num.length≤40;omega,by show (ofQ (frQ o.p+frQ m)).den.length≤40;omega,by show o.v.num.length≤40;omega,by show o.v.den.length≤40;omega⟩
theorem bestV_err (os:List OptV):(bestV os).2≠0→(bestV os).1=0:=by
 unfold bestV
 split
 ·intro _;rfl
 ·split
  ·intro _;rfl
  ·split
   ·intro _;rfl
   ·intro h;exact absurd rfl h
theorem bestV_good {os:List OptV} (h:(bestV os).2=0):os≠[]∧(∀ x ∈ os,optE x=0)∧(bestV os).1=((bestK os os.length:Nat):Int):=by
 unfold bestV at *
 split at h
 ·exact absurd h (by decide)
 ·rename_i h1
  split at h
  ·exact absurd h (by decide)
  ·rename_i h2
   split at h
   ·exact absurd h (by decide)
   ·rename_i h3
    refine ⟨h1,fun x hx=>?_,?_⟩
    ·by_cases k:optE x=0
     ·exact k
     ·exact absurd ⟨x,hx,k⟩ h3
    ·rw [if_neg h1,if_neg h2,if_neg h3]
theorem walkBest (haw:AwakeOK) (os:List OptV) (A:Option Addr) (c:Nat) (mn md:Bs) (w:World) (hA:RdO w A os) (hc:os.length≤c) (hn:os.length≤1000000) (hE:Env w) :
  Calls Tryz.prog 11 #[.slice A os.length c,fv ⟨mn,md⟩] w fun e w'=>e = .returned (.bool true)∧Ext w w':=by
 have HE:=Lib.hid hE
 have HAW:=Lib.hid haw
 have HX:Hid (Ext w (w.alloc (.cells #[.string (bs mn),.string (bs md)] 26))):=Lib.hid (Ext.new _ _)
 have HB:=Lib.hid (Blk.new w 26 #[.string (bs mn),.string (bs md)])
 by_cases h8:8<os.length
 ·have g:decide ((8:Int)<(os.length:Int))=true:=by rw [decide_eq_true_iff];omega
  clear hA hE haw
  go_enter Tryz.func11,Tryz.ntmps11
  go_wp2_with fail
  refine (HAW.out _ (HE.out.ext HX.out)).mono ?_
  rintro e v2 ⟨rfl,hx1⟩
  replace HX:=Lib.hid (HX.out.trans hx1)
  clear hx1
  go_wp2_with fail
  go_ret
  exact ⟨rfl,HX.out⟩
 have g:decide ((8:Int)<(os.length:Int))=false:=by rw [decide_eq_false_iff_not];omega
 have GA:=Lib.hid (greatAny os A c _ (hA.ext HX.out) hn)
 have GM:=Lib.hid (fun W=>rfGreatO ⟨[],⟨[],[]⟩,⟨mn,md⟩,⟨[],[]⟩⟩ W)
 obtain ⟨ga,hga⟩:∃ b,b=os.any greatO:=⟨_,rfl⟩
 obtain ⟨gm,hgm⟩:∃ b,b=greatO ⟨[],⟨[],[]⟩,⟨mn,md⟩,⟨[],[]⟩⟩:=⟨_,rfl⟩
 rw [← hga] at GA
 rw [← hgm] at GM
 have HGA:=Lib.hid hga
 have HGM:=Lib.hid hgm
 have HA:=Lib.hid hA
 clear hA hE haw hga hgm
 go_enter Tryz.func11,Tryz.ntmps11
 go_wp2_with fail
 refine (GA.out).mono ?_
 rintro e v4 ⟨rfl,hx1⟩
 replace HB:=Lib.hid (HB.out.ext hx1)
 replace HX:=Lib.hid (HX.out.trans hx1)
 clear hx1
 clear GA
 cases ga
 rotate_left
 ·skip
  go_wp2_with fail
  refine (HAW.out _ (HE.out.ext HX.out)).mono ?_
  rintro e v6 ⟨rfl,hx1⟩
  replace HX:=Lib.hid (HX.out.trans hx1)
  clear hx1
  go_wp2_with fail
  go_ret
  exact ⟨rfl,HX.out⟩
 obtain ⟨m0,m1,_,_⟩:=frBlk HB.out (Ext.refl _)
 go_wp2_with fail
 refine (GM.out _).mono ?_
 rintro e v9 ⟨rfl,hx1⟩
 replace HB:=Lib.hid (HB.out.ext hx1)
 replace HX:=Lib.hid (HX.out.trans hx1)
 clear hx1
 clear GM m0 m1
 cases gm
 rotate_left
 ·skip
  go_wp2_with fail
  refine (HAW.out _ (HE.out.ext HX.out)).mono ?_
  rintro e v11 ⟨rfl,hx1⟩
  replace HX:=Lib.hid (HX.out.trans hx1)
  clear hx1
  go_wp2_with fail
  go_ret
  exact ⟨rfl,HX.out⟩
 have hlm:longF ⟨mn,md⟩=false:=by
  have:=HGM.out.symm
  unfold greatO at this
  simp only [Bool.or_eq_false_iff] at this
  exact this.2.1.2
 obtain ⟨lm1,lm2⟩:=longF_no hlm
 dsimp only at lm1 lm2
 have CK:=Lib.hid (fracCheckP ⟨mn,md⟩ (by dsimp only;omega) (by dsimp only;omega))
 have cm:=fracCmp ⟨mn,md⟩ ⟨[],[]⟩ (by dsimp only;omega) (by dsimp only;omega) (by simp) (by simp)
 rw [frQ_nilN] at cm
 have CM:=Lib.hid cm
 have HLM:=Lib.hid hlm
 clear cm hlm HGM
 obtain ⟨ck,hck⟩:∃ z,z=checkF ⟨mn,md⟩:=⟨_,rfl⟩
 obtain ⟨sg,hsg⟩:∃ z,z=cmpQ (frQ ⟨mn,md⟩) 0:=⟨_,rfl⟩
 rw [← hck] at CK
 rw [← hsg] at CM
 have HSG:=Lib.hid hsg
 clear hck hsg
 obtain ⟨m0,m1,_,_⟩:=frBlk HB.out (Ext.refl _)
 go_wp2_with fail
 refine (CK.out _ (HE.out.ext HX.out)).mono ?_
 rintro e v14 ⟨rfl,hx1⟩
 replace HB:=Lib.hid (HB.out.ext hx1)
 replace HX:=Lib.hid (HX.out.trans hx1)
 clear hx1
 clear CK m0 m1
 by_cases y1:ck=0
 rotate_left
 ·have g1:(ck != 0)=true:=by rw [bne_iff_ne];exact y1
  go_wp2_with fail
  refine (HAW.out _ (HE.out.ext HX.out)).mono ?_
  rintro e v16 ⟨rfl,hx1⟩
  replace HX:=Lib.hid (HX.out.trans hx1)
  clear hx1
  go_wp2_with fail
  go_ret
  exact ⟨rfl,HX.out⟩
 subst y1
 obtain ⟨m0,m1,_,_⟩:=frBlk HB.out (Ext.refl _)
 go_wp2_with fail
 refine (CM.out _ (HE.out.ext HX.out)).mono ?_
 rintro e v19 ⟨rfl,hx1⟩
 replace HB:=Lib.hid (HB.out.ext hx1)
 replace HX:=Lib.hid (HX.out.trans hx1)
 clear hx1
 clear CM m0 m1
 by_cases y2:sg<0
 ·have g1:decide (sg<0)=true:=decide_eq_true y2
  go_wp2_with fail
  refine (HAW.out _ (HE.out.ext HX.out)).mono ?_
  rintro e v21 ⟨rfl,hx1⟩
  replace HX:=Lib.hid (HX.out.trans hx1)
  clear hx1
  go_wp2_with fail
  go_ret
  exact ⟨rfl,HX.out⟩
 have g2:decide (sg<0)=false:=decide_eq_false y2
 have hm0:0≤frQ ⟨mn,md⟩:=by
  have:=HSG.out
  subst this
  rw [cmpQ_neg] at y2
  exact Rat.not_lt.1 y2
 have hgr:∀ x ∈ os,greatO x=false:=fun x hx=>by
  have:=List.any_eq_false.1 HGA.out.symm x hx
  simpa using this
 have hsm:∀ x ∈ os,OptSm 24 x:=fun x hx=>greatO_small (hgr x hx)
 have hsm2:∀ x ∈ os,OptSm 1000 x:=fun x hx=>by
  obtain ⟨s0,s1,s2,s3,s4,s5,s6⟩:=hsm x hx
  exact ⟨by omega,by omega,by omega,by omega,by omega,by omega,by omega⟩
 have B1:=Lib.hid (fun W hx=>mgBest os A c W (HA.out.ext hx) hsm2 hc (by omega) (HE.out.ext hx))
 have BE:=Lib.hid (bestV_err os)
 have BG:=Lib.hid (fun h=>@bestV_good os h)
 have HM0:=Lib.hid hm0
 have HGR:=Lib.hid hgr
 have HSM:=Lib.hid hsm
 clear hm0 hgr hsm hsm2 HGA HSG
 generalize bestV os=bv at *
 obtain ⟨z1,z2⟩:=bv
 dsimp only at B1 BE BG
 go_wp2_with fail
 go_wp2_with fail
 refine (B1.out _ HX.out).mono ?_
 rintro e v23 ⟨rfl,hx1⟩
 replace HB:=Lib.hid (HB.out.ext hx1)
 replace HX:=Lib.hid (HX.out.trans hx1)
 clear hx1
 clear B1
 by_cases y3:z2=0
 rotate_left
 ·have g3:(z2 != 0)=true:=by rw [bne_iff_ne];exact y3
  have e1:=BE.out y3
  subst e1
  go_wp2_with fail
  refine (HAW.out _ (HE.out.ext HX.out)).mono ?_
  rintro e v25 ⟨rfl,hx1⟩
  replace HX:=Lib.hid (HX.out.trans hx1)
  clear hx1
  go_wp2_with fail
  go_ret
  exact ⟨rfl,HX.out⟩
 subst y3
 obtain ⟨hne,hok,e1⟩:=BG.out rfl
 subst e1
 have hin:=bestK_in hne
 clear BE BG
 obtain ⟨mx1,mx2⟩:=bestK_max os os.length
 have MX1:=Lib.hid mx1
 have MX2:=Lib.hid mx2
 have HOK:=Lib.hid hok
 clear mx1 mx2 hne hok
 generalize hbk:bestK os os.length=bk at *
 clear hbk
 obtain ⟨b,o,rfl,hb,c0,c1,c2,c3,c4,c5,c6⟩:=(HA.out.ext HX.out).at_ hin
 have gg1:decide ((bk:Int)<0)=false:=by rw [decide_eq_false_iff_not];omega
 have gg2:decide ((os.length:Int)≤(bk:Int))=false:=by rw [decide_eq_false_iff_not];omega
 have W1:=mgWorth (L:=24) (by omega) (by omega) (os[bk]'hin) (HSM.out _ (List.getElem_mem hin))
 have wv1:worthV (os[bk]'hin)=(ofQ (wq os bk),0):=by
  unfold worthV
  rw [if_pos (HOK.out _ (List.getElem_mem hin)),wq_at hin]
 rw [wv1] at W1
 dsimp only at W1
 have HW1:=Lib.hid W1
 clear W1 wv1
 have qbm:=wq_qb (os:=os) (fun x hx=>by
  obtain ⟨s0,s1,s2,s3,s4,s5,s6⟩:=HSM.out x hx
  exact ⟨by omega,by omega,by omega,by omega,by omega,by omega,by omega⟩) hin
 have HQB:=Lib.hid qbm
 have HIN:=Lib.hid hin
 clear qbm
 obtain ⟨⟨an,ad⟩,ham⟩:∃ f,f=ofQ (wq os bk):=⟨_,rfl⟩
 rw [← ham] at HW1
 have hfa:frQ ⟨an,ad⟩=wq os bk:=by rw [ham,frQ_ofQ]
 have hla:an.length≤3002∧ad.length≤3002:=by
  have l1:=HQB.out.num_len
  have l2:=HQB.out.den_len
  rw [← ham] at l1 l2
  exact ⟨l1,l2⟩
 have HFA:=Lib.hid hfa
 have HLA:=Lib.hid hla
 clear ham hfa hla HQB
 generalize os[bk]'hin=x at *
 have hki0:(bk:Int)<(os.length:Int):=by omega
 have hk00:(0:Int)≤(bk:Int):=by omega
 go_wp2_with fail
 refine (HW1.out _ (HE.out.ext HX.out)).mono ?_
 rintro e V1 ⟨rfl,hx1⟩
 replace HB:=Lib.hid (HB.out.ext hx1)
 replace HX:=Lib.hid (HX.out.trans hx1)
 clear hx1
 have H7:=Lib.hid (Blk.new V1 26 #[.string (bs an),.string (bs ad)])
 replace HX:=Lib.hid (HX.out.alloc (.cells #[.string (bs an),.string (bs ad)] 26))
 replace HB:=Lib.hid (HB.out.alloc (.cells #[.string (bs an),.string (bs ad)] 26))
 clear HW1 c0 c1 c2 c3 c4 c5 c6 hb
 go_wp2_with fail
 generalize V1.alloc (.cells #[.string (bs an),.string (bs ad)] 26)=WL at *
 generalize V1.heap.size=G7 at *
 generalize hG3:w.heap.size=G3 at *
 have hL3:=HB.out.lt
 have hL7:=H7.out.lt
 go_loopw [72,9,10,11,12,13,14,15] (fun i _ _ _ _ _ _ _ wr=>∃ k:Nat,k≤os.length∧i = .int .i64 k∧Ext WL wr) (fun i _ _ _ _ _ _ _ _=>os.length-(intOf i).toNat)
 case atStart=>exact ⟨0,by omega,rfl,Ext.refl _⟩
 case round =>
  obtain ⟨k,hk,rfl,hx⟩:=hrel
  replace HX:=Lib.hid (HX.out.trans hx)
  replace HB:=Lib.hid (HB.out.ext hx)
  replace H7:=Lib.hid (H7.out.ext hx)
  have HL:=Lib.hid hx
  clear hx
  by_cases hlt:k<os.length
  ·obtain ⟨b',o',eb,hb,c0,c1,c2,c3,c4,c5,c6⟩:=(HA.out.ext HX.out).at_ hlt
   simp only [Option.some.injEq,Addr.mk.injEq,and_true] at eb
   obtain ⟨rfl,rfl⟩:=eb
   have hmem:=List.getElem_mem hlt
   have W1:=mgWorth (L:=24) (by omega) (by omega) (os[k]'hlt) (HSM.out _ hmem)
   have wv1:worthV (os[k]'hlt)=(ofQ (wq os k),0):=by
    unfold worthV
    rw [if_pos (HOK.out _ hmem),wq_at hlt]
   rw [wv1] at W1
   dsimp only at W1
   have qbm:=wq_qb (os:=os) (fun x hx=>by
    obtain ⟨s0,s1,s2,s3,s4,s5,s6⟩:=HSM.out x hx
    exact ⟨by omega,by omega,by omega,by omega,by omega,by omega,by omega⟩) hlt
   obtain ⟨bm1,bm2⟩:=best_more (m:=⟨mn,md⟩) (HOK.out _ hmem) (HGR.out _ hmem) HLM.out HM0.out
   have W2:=mgWorth (L:=40) (by omega) (by omega) _ bm2
   rw [bm1] at W2
   dsimp only at W2
   have AD1:=fracAdd (os[k]'hlt).p ⟨mn,md⟩ (by have:=(HSM.out _ hmem).2.2.2.1;omega) (by have:=(HSM.out _ hmem).2.2.2.2.1;omega) (by dsimp only;omega) (by dsimp only;omega)
   have l1:=qbm.num_len
   have l2:=qbm.den_len
   have CP:=fracCmp (ofQ (wq os k)) ⟨an,ad⟩ (by omega) (by omega) (by dsimp only;have:=HLA.out.1;omega) (by dsimp only;have:=HLA.out.2;omega)
   have AD2:=fracAdd (ofQ (wq os k)) ⟨mn,md⟩ (by omega) (by omega) (by dsimp only;omega) (by dsimp only;omega)
   rw [frQ_ofQ] at CP AD2
   rw [HFA.out] at CP
   rw [← wq_at hlt] at W2
   have n1:¬ 0<cmpQ (wq os k) (wq os bk):=by rw [cmpQ_pos];exact Rat.not_lt.2 (MX1.out k hlt)
   have n2:cmpQ (wq os k) (wq os bk)=0→¬ k<bk:=fun h h2=>by
    have:=MX2.out k h2
    rw [cmpQ_zero] at h
    rw [h] at this
    exact Rat.lt_irrefl this
   have gn:decide (0<cmpQ (wq os k) (wq os bk))=false:=decide_eq_false n1
   have CPh:=Lib.hid CP
   have W1h:=Lib.hid W1
   have W2h:=Lib.hid W2
   have A1h:=Lib.hid AD1
   have A2h:=Lib.hid AD2
   clear CP W1 W2 AD1 AD2 qbm l1 l2 bm1 bm2 n1 wv1 hmem
   generalize cmpQ (wq os k) (wq os bk)=nn at *
   generalize ofQ (wq os k+frQ ⟨mn,md⟩)=fb at *
   generalize ofQ (wq os k)=fa at *
   generalize ofQ (frQ (os[k]'hlt).p+frQ ⟨mn,md⟩)=fp at *
   generalize os[k]'hlt=y at *
   obtain ⟨yo,⟨yrn,yrd⟩,⟨ypn,ypd⟩,⟨yvn,yvd⟩⟩:=y
   obtain ⟨fan,fad⟩:=fa
   obtain ⟨fbn,fbd⟩:=fb
   obtain ⟨fpn,fpd⟩:=fp
   dsimp only at c0 c1 c2 c3 c4 c5 c6 W1h W2h A1h A2h
   have hki:(k:Int)<(os.length:Int):=by omega
   have hk0:(0:Int)≤(k:Int):=by omega
   clear HAW HFA HLA HLM HM0 HGR HSM HOK MX1 MX2
   have hlr:=HL.out.size
   have HG:=Lib.hid (Blk.new wr 50 (oc ⟨yo,⟨yrn,yrd⟩,⟨ypn,ypd⟩,⟨yvn,yvd⟩⟩))
   replace HX:=Lib.hid (HX.out.alloc (.cells (oc ⟨yo,⟨yrn,yrd⟩,⟨ypn,ypd⟩,⟨yvn,yvd⟩⟩) 50))
   replace HL:=Lib.hid (HL.out.alloc (.cells (oc ⟨yo,⟨yrn,yrd⟩,⟨ypn,ypd⟩,⟨yvn,yvd⟩⟩) 50))
   replace HB:=Lib.hid (HB.out.alloc (.cells (oc ⟨yo,⟨yrn,yrd⟩,⟨ypn,ypd⟩,⟨yvn,yvd⟩⟩) 50))
   replace H7:=Lib.hid (H7.out.alloc (.cells (oc ⟨yo,⟨yrn,yrd⟩,⟨ypn,ypd⟩,⟨yvn,yvd⟩⟩) 50))
   go_wp2_with fail
   refine (W1h.out _ (HE.out.ext HX.out)).mono ?_
   rintro e V2 ⟨rfl,hx1⟩
   replace HB:=Lib.hid (HB.out.ext hx1)
   replace H7:=Lib.hid (H7.out.ext hx1)
   replace HG:=Lib.hid (HG.out.ext hx1)
   replace HX:=Lib.hid (HX.out.trans hx1)
   replace HL:=Lib.hid (HL.out.trans hx1)
   clear hx1
   have h20:=HG.out.lt
   have H11:=Lib.hid (Blk.new V2 26 #[.string (bs fan),.string (bs fad)])
   replace HX:=Lib.hid (HX.out.alloc (.cells #[.string (bs fan),.string (bs fad)] 26))
   replace HB:=Lib.hid (HB.out.alloc (.cells #[.string (bs fan),.string (bs fad)] 26))
   replace H7:=Lib.hid (H7.out.alloc (.cells #[.string (bs fan),.string (bs fad)] 26))
   replace HG:=Lib.hid (HG.out.alloc (.cells #[.string (bs fan),.string (bs fad)] 26))
   replace HL:=Lib.hid (HL.out.alloc (.cells #[.string (bs fan),.string (bs fad)] 26))
   clear W1h c0 c1 c2 c3 c4 c5 c6
   go_upto_region 15 with fail
   generalize V2.alloc (.cells #[.string (bs fan),.string (bs fad)] 26)=W at *
   obtain ⟨r0,r1,_,_⟩:=frBlk H11.out (Ext.refl _)
   obtain ⟨r2,r3,_,_⟩:=frBlk H7.out (Ext.refl _)
   go_wp2_with fail
   refine (CPh.out _ (HE.out.ext HX.out)).mono ?_
   rintro e V3 ⟨rfl,hx1⟩
   replace HB:=Lib.hid (HB.out.ext hx1)
   replace H7:=Lib.hid (H7.out.ext hx1)
   replace HG:=Lib.hid (HG.out.ext hx1)
   replace H11:=Lib.hid (H11.out.ext hx1)
   replace HX:=Lib.hid (HX.out.trans hx1)
   replace HL:=Lib.hid (HL.out.trans hx1)
   clear hx1 r0 r1 r2 r3 CPh
   go_upto_region 16 with fail
   generalize G9:V2.heap.size=G2 at *
   generalize G8:wr.heap.size=G0 at *
   by_cases hz:nn=0
   ·have gk:decide ((k:Int)<(bk:Int))=false:=by
     have:=n2 hz
     rw [decide_eq_false_iff_not];omega
    have gk1:decide (k<bk)=false:=decide_eq_false (n2 hz)
    subst hz
    clear n2
    go_upto_region 18 with fail
    obtain ⟨q0,q1,q2,q3,q4,q5,q6⟩:=optBlk HG.out (Ext.refl _)
    obtain ⟨m0,m1,_,_⟩:=frBlk HB.out (Ext.refl _)
    go_wp2_with fail
    refine (A1h.out _ (HE.out.ext HX.out)).mono ?_
    rintro e V4 ⟨rfl,hx1⟩
    replace HB:=Lib.hid (HB.out.ext hx1)
    replace H7:=Lib.hid (H7.out.ext hx1)
    replace HG:=Lib.hid (HG.out.ext hx1)
    replace H11:=Lib.hid (H11.out.ext hx1)
    replace HX:=Lib.hid (HX.out.trans hx1)
    replace HL:=Lib.hid (HL.out.trans hx1)
    clear hx1 q0 q1 q2 q3 q4 q5 q6 m0 m1 A1h
    have z3:=HG.out.frozen 3
    have z4:=HG.out.frozen 4
    obtain ⟨q0,q1,q2,q3,q4,q5,q6⟩:=optBlk HG.out (Ext.refl _)
    go_upto_region 19 with fail
    clear q0 q1 q2 q3 q4 q5 q6 z3 z4
    have HG2:Hid (Blk ((V4.setCell ⟨G0,3,none⟩ (.string (bs fpn))).setCell ⟨G0,4,none⟩ (.string (bs fpd))) G0 50 (oc ⟨yo,⟨yrn,yrd⟩,⟨fpn,fpd⟩,⟨yvn,yvd⟩⟩)):=Lib.hid ((HG.out.set_ 3 (.string (bs fpn))).set_ 4 (.string (bs fpd)))
    clear HG
    replace HB:=Lib.hid ((HB.out.far (p:=⟨G0,3,none⟩) (by show G3≠G0;omega) (.string (bs fpn))).far (p:=⟨G0,4,none⟩) (by show G3≠G0;omega) (.string (bs fpd)))
    replace H7:=Lib.hid ((H7.out.far (p:=⟨G0,3,none⟩) (by show G7≠G0;omega) (.string (bs fpn))).far (p:=⟨G0,4,none⟩) (by show G7≠G0;omega) (.string (bs fpd)))
    replace H11:=Lib.hid ((H11.out.far (p:=⟨G0,3,none⟩) (by show G2≠G0;omega) (.string (bs fpn))).far (p:=⟨G0,4,none⟩) (by show G2≠G0;omega) (.string (bs fpd)))
    replace HX:=Lib.hid ((HX.out.setCell (p:=⟨G0,3,none⟩) (by show w.heap.size≤G0;omega) (.string (bs fpn))).setCell (p:=⟨G0,4,none⟩) (by show w.heap.size≤G0;omega) (.string (bs fpd)))
    replace HL:=Lib.hid ((HL.out.setCell (p:=⟨G0,3,none⟩) (by show WL.heap.size≤G0;omega) (.string (bs fpn))).setCell (p:=⟨G0,4,none⟩) (by show WL.heap.size≤G0;omega) (.string (bs fpd)))
    generalize (V4.setCell ⟨G0,3,none⟩ (.string (bs fpn))).setCell ⟨G0,4,none⟩ (.string (bs fpd))=V5 at *
    obtain ⟨q0,q1,q2,q3,q4,q5,q6⟩:=optBlk HG2.out (Ext.refl _)
    go_wp2_with fail
    refine (W2h.out _ (HE.out.ext HX.out)).mono ?_
    rintro e V6 ⟨rfl,hx1⟩
    replace HB:=Lib.hid (HB.out.ext hx1)
    replace H11:=Lib.hid (H11.out.ext hx1)
    replace HX:=Lib.hid (HX.out.trans hx1)
    replace HL:=Lib.hid (HL.out.trans hx1)
    clear hx1 q0 q1 q2 q3 q4 q5 q6 W2h HG2 H7
    have H14:=Lib.hid (Blk.new V6 26 #[.string (bs fbn),.string (bs fbd)])
    replace HX:=Lib.hid (HX.out.alloc (.cells #[.string (bs fbn),.string (bs fbd)] 26))
    replace HB:=Lib.hid (HB.out.alloc (.cells #[.string (bs fbn),.string (bs fbd)] 26))
    replace H11:=Lib.hid (H11.out.alloc (.cells #[.string (bs fbn),.string (bs fbd)] 26))
    replace HL:=Lib.hid (HL.out.alloc (.cells #[.string (bs fbn),.string (bs fbd)] 26))
    go_upto_region 20 with fail
    generalize V6.alloc (.cells #[.string (bs fbn),.string (bs fbd)] 26)=W8 at *
    generalize V6.heap.size=G6 at *
    obtain ⟨p0,p1,_,_⟩:=frBlk H14.out (Ext.refl _)
    obtain ⟨p2,p3,_,_⟩:=frBlk H11.out (Ext.refl _)
    obtain ⟨p4,p5,_,_⟩:=frBlk HB.out (Ext.refl _)
    have HD:Hid (Ext W8 W8.drew):=Lib.hid (Ext.refl W8).drew
    go_region_held3 (fun w'=>w'.cell? ⟨G6,0,none⟩=some (.string (bs fbn))∧w'.cell? ⟨G6,1,none⟩=some (.string (bs fbd))∧w'.cell? ⟨G2,0,none⟩=some (.string (bs fan))∧w'.cell? ⟨G2,1,none⟩=some (.string (bs fad))∧w'.cell? ⟨G3,0,none⟩=some (.string (bs mn))∧w'.cell? ⟨G3,1,none⟩=some (.string (bs md)))
     (go_keep)
     (first
      |(go_at_call 37;((with_reducible refine (A2h.out _ (HE.out.ext (HX.out.trans HD.out))).mono ?_);rintro e w5 ⟨rfl,hx⟩);(replace HD:=Lib.hid (HD.out.trans hx));(obtain ⟨p0,p1,_,_⟩:=frBlk H14.out HD.out);(obtain ⟨p2,p3,_,_⟩:=frBlk H11.out HD.out);(obtain ⟨p4,p5,_,_⟩:=frBlk HB.out HD.out);clear hx)
      |fail)
    all_goals
     go_wp2_with fail
     exact ⟨⟨k+1,by omega,by go_num,HL.out.trans HD.out⟩,by simp [intOf];omega⟩
   ·have gz:decide (nn=0)=false:=decide_eq_false hz
    clear n2
    go_upto_region 18 with fail
    obtain ⟨q0,q1,q2,q3,q4,q5,q6⟩:=optBlk HG.out (Ext.refl _)
    obtain ⟨m0,m1,_,_⟩:=frBlk HB.out (Ext.refl _)
    go_wp2_with fail
    refine (A1h.out _ (HE.out.ext HX.out)).mono ?_
    rintro e V4 ⟨rfl,hx1⟩
    replace HB:=Lib.hid (HB.out.ext hx1)
    replace H7:=Lib.hid (H7.out.ext hx1)
    replace HG:=Lib.hid (HG.out.ext hx1)
    replace H11:=Lib.hid (H11.out.ext hx1)
    replace HX:=Lib.hid (HX.out.trans hx1)
    replace HL:=Lib.hid (HL.out.trans hx1)
    clear hx1 q0 q1 q2 q3 q4 q5 q6 m0 m1 A1h
    have z3:=HG.out.frozen 3
    have z4:=HG.out.frozen 4
    obtain ⟨q0,q1,q2,q3,q4,q5,q6⟩:=optBlk HG.out (Ext.refl _)
    go_upto_region 19 with fail
    clear q0 q1 q2 q3 q4 q5 q6 z3 z4
    have HG2:Hid (Blk ((V4.setCell ⟨G0,3,none⟩ (.string (bs fpn))).setCell ⟨G0,4,none⟩ (.string (bs fpd))) G0 50 (oc ⟨yo,⟨yrn,yrd⟩,⟨fpn,fpd⟩,⟨yvn,yvd⟩⟩)):=Lib.hid ((HG.out.set_ 3 (.string (bs fpn))).set_ 4 (.string (bs fpd)))
    clear HG
    replace HB:=Lib.hid ((HB.out.far (p:=⟨G0,3,none⟩) (by show G3≠G0;omega) (.string (bs fpn))).far (p:=⟨G0,4,none⟩) (by show G3≠G0;omega) (.string (bs fpd)))
    replace H7:=Lib.hid ((H7.out.far (p:=⟨G0,3,none⟩) (by show G7≠G0;omega) (.string (bs fpn))).far (p:=⟨G0,4,none⟩) (by show G7≠G0;omega) (.string (bs fpd)))
    replace H11:=Lib.hid ((H11.out.far (p:=⟨G0,3,none⟩) (by show G2≠G0;omega) (.string (bs fpn))).far (p:=⟨G0,4,none⟩) (by show G2≠G0;omega) (.string (bs fpd)))
    replace HX:=Lib.hid ((HX.out.setCell (p:=⟨G0,3,none⟩) (by show w.heap.size≤G0;omega) (.string (bs fpn))).setCell (p:=⟨G0,4,none⟩) (by show w.heap.size≤G0;omega) (.string (bs fpd)))
    replace HL:=Lib.hid ((HL.out.setCell (p:=⟨G0,3,none⟩) (by show WL.heap.size≤G0;omega) (.string (bs fpn))).setCell (p:=⟨G0,4,none⟩) (by show WL.heap.size≤G0;omega) (.string (bs fpd)))
    generalize (V4.setCell ⟨G0,3,none⟩ (.string (bs fpn))).setCell ⟨G0,4,none⟩ (.string (bs fpd))=V5 at *
    obtain ⟨q0,q1,q2,q3,q4,q5,q6⟩:=optBlk HG2.out (Ext.refl _)
    go_wp2_with fail
    refine (W2h.out _ (HE.out.ext HX.out)).mono ?_
    rintro e V6 ⟨rfl,hx1⟩
    replace HB:=Lib.hid (HB.out.ext hx1)
    replace H11:=Lib.hid (H11.out.ext hx1)
    replace HX:=Lib.hid (HX.out.trans hx1)
    replace HL:=Lib.hid (HL.out.trans hx1)
    clear hx1 q0 q1 q2 q3 q4 q5 q6 W2h HG2 H7
    have H14:=Lib.hid (Blk.new V6 26 #[.string (bs fbn),.string (bs fbd)])
    replace HX:=Lib.hid (HX.out.alloc (.cells #[.string (bs fbn),.string (bs fbd)] 26))
    replace HB:=Lib.hid (HB.out.alloc (.cells #[.string (bs fbn),.string (bs fbd)] 26))
    replace H11:=Lib.hid (H11.out.alloc (.cells #[.string (bs fbn),.string (bs fbd)] 26))
    replace HL:=Lib.hid (HL.out.alloc (.cells #[.string (bs fbn),.string (bs fbd)] 26))
    go_upto_region 20 with fail
    generalize V6.alloc (.cells #[.string (bs fbn),.string (bs fbd)] 26)=W8 at *
    generalize V6.heap.size=G6 at *
    obtain ⟨p0,p1,_,_⟩:=frBlk H14.out (Ext.refl _)
    obtain ⟨p2,p3,_,_⟩:=frBlk H11.out (Ext.refl _)
    obtain ⟨p4,p5,_,_⟩:=frBlk HB.out (Ext.refl _)
    have HD:Hid (Ext W8 W8.drew):=Lib.hid (Ext.refl W8).drew
    go_region_held3 (fun w'=>w'.cell? ⟨G6,0,none⟩=some (.string (bs fbn))∧w'.cell? ⟨G6,1,none⟩=some (.string (bs fbd))∧w'.cell? ⟨G2,0,none⟩=some (.string (bs fan))∧w'.cell? ⟨G2,1,none⟩=some (.string (bs fad))∧w'.cell? ⟨G3,0,none⟩=some (.string (bs mn))∧w'.cell? ⟨G3,1,none⟩=some (.string (bs md)))
     (go_keep)
     (first
      |(go_at_call 37;((with_reducible refine (A2h.out _ (HE.out.ext (HX.out.trans HD.out))).mono ?_);rintro e w5 ⟨rfl,hx⟩);(replace HD:=Lib.hid (HD.out.trans hx));(obtain ⟨p0,p1,_,_⟩:=frBlk H14.out HD.out);(obtain ⟨p2,p3,_,_⟩:=frBlk H11.out HD.out);(obtain ⟨p4,p5,_,_⟩:=frBlk HB.out HD.out);clear hx)
      |fail)
    all_goals
     go_wp2_with fail
     exact ⟨⟨k+1,by omega,by go_num,HL.out.trans HD.out⟩,by simp [intOf];omega⟩
  ·have hki:¬ (k:Int)<(os.length:Int):=by omega
   go_wp2_with fail
   refine (HAW.out _ (HE.out.ext HX.out)).mono ?_
   rintro e v60 ⟨rfl,hx1⟩
   replace HX:=Lib.hid (HX.out.trans hx1)
   clear hx1
   go_wp2_with fail
   go_ret
   exact ⟨rfl,HX.out⟩
end
section
open Go.RowKit Go.Shelf
attribute [local go_sem] size_bs toList_bs
theorem lawBest (os:List OptV) (A:Option Addr) (c:Nat) (f:Fr) (w:World) (hA:RdO w A os) (hc:os.length≤c) (hn:os.length≤4611686018427387904) (hE:Env w) :
  Calls Tryz.prog 11 #[.slice A os.length c,fv f] w fun e w'=>e = .returned (.bool true)∧Ext w w':=by
 obtain ⟨mn,md⟩:=f
 by_cases hs:os.length≤1000000
 ·exact walkBest awakeOK os A c mn md w hA hc hs hE
 have HE:=Lib.hid hE
 have HAW:=Lib.hid awakeOK
 have HX:Hid (Ext w (w.alloc (.cells #[.string (bs mn),.string (bs md)] 26))):=Lib.hid (Ext.new _ _)
 have g:decide ((8:Int)<(os.length:Int))=true:=by rw [decide_eq_true_iff];omega
 clear hA hE
 go_enter Tryz.func11,Tryz.ntmps11
 go_wp2_with fail
 refine (HAW.out _ (HE.out.ext HX.out)).mono ?_
 rintro e v2 ⟨rfl,hx1⟩
 replace HX:=Lib.hid (HX.out.trans hx1)
 clear hx1
 go_wp2_with fail
 go_ret
 exact ⟨rfl,HX.out⟩
end
end Go.Proofs.YthgpheopnhajaaaGreatDoor
