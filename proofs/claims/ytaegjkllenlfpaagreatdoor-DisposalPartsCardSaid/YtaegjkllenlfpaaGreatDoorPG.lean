/- The seat's texts, part PG. -/
import Derived.Test.YtaegjkllenlfpaaGreatDoorP7
import Derived.Test.YtaegjkllenlfpaaGreatDoorP8
import Derived.Test.YtaegjkllenlfpaaGreatDoorP9
import Derived.Test.YtaegjkllenlfpaaGreatDoorP14
set_option maxRecDepth 100000
set_option maxHeartbeats 8000000
namespace Go.Proofs.YtaegjkllenlfpaaGreatDoor
section
open Go.RowKit Go.Shelf
attribute [local go_sem] size_bs toList_bs
theorem DM(kf:Nat)(cb:Array Value)(ek:∀args w,(callFunc kf args).run Tryz.prog w = .ok (.enter kf args) w)(p:GainV→Bool)(ls:List GainV)(A:Option Addr)(c:Nat)(w:World)(hA:fG w A ls)(hn:ls.length≤1000000)
  (hF:∀x ∈ ls,∀W,Ext w W→Calls Tryz.prog kf (#[nk x]++cb) W fun e w'=>e = .returned (.bool (p x))∧Ext W w') :
  Calls Tryz.prog 102 #[.slice A ls.length c,.func (.func kf) #[] cb] w fun e w'=>e = .returned (.int .i64 (cw p ls))∧Ext w w':=by
 have HA:=qh hA;have HF:=qh hF;clear hA hF;go_enter Tryz.func102,Tryz.ntmps102;go_wp2_with fail;go_loopw [8,5] (fun i _ wr=>∃k:Nat,k≤ls.length∧i = .int .i64 k∧(∀x ∈ ls.take k,p x=false)∧Ext w wr) (fun i _ _=>ls.length-(intOf i).toNat)
 case atStart=>exact⟨0,by omega,rfl,by simp,Ext.refl _⟩
 case round =>
  obtain⟨k,hk,rfl,hz,hx⟩:=hrel;have HZ:=qh hz;have HX:=qh hx;clear hz hx;by_cases hlt:k<ls.length
  ·obtain⟨b,o,rfl,hb,c0,c1,c2,c3,c4,c5,c6,c7,c8,c9⟩:=(HA.out.ext HX.out).at_ hlt;have HC:=qh (HF.out (ls[k]'hlt) (List.getElem_mem _));have HN:Hid (p (ls[k]'hlt)=false→∀x ∈ ls.take (k+1),p x=false):=qh (fun h=>kU hlt HZ.out h);have HI:Hid (p (ls[k]'hlt)=true→cw p ls=k):=qh (fun h=>mp hlt HZ.out h);generalize (ls[k]'hlt)=x at *;go_wp2_with fail;refine(HC.out _ HX.out).mono ?_;rintro e w1⟨rfl,hx1⟩;replace HX:=HX.qt hx1;clear hx1
   cases hp:p x
   ·have HN1:=qh (HN.out hp);clear hp;go_wp2_with fail;go_roundw
    case rel=>exact⟨k+1,by omega,by go_num,HN1.out,HX.out⟩
    case measure=>simp[intOf];omega
   ·have HI1:=qh (HI.out hp);clear hp;go_wp2_with fail;go_ret;exact⟨by rw[HI1.out];rfl,HX.out⟩
  ·have HI:Hid (cw p ls = -1):=qh (kT (by have:=HZ.out;rwa[List.take_of_length_le (by omega)]at this));go_wp2_with fail;go_ret;exact⟨by rw[HI.out];rfl,HX.out⟩
theorem lM(kf:Nat)(cb:Array Value)(ek:∀args w,(callFunc kf args).run Tryz.prog w = .ok (.enter kf args) w)(p:GainV→Bool)(ls:List GainV)(A:Option Addr)(c:Nat)(w:World)(hA:fG w A ls)(hn:ls.length≤1000000)
  (hF:∀x ∈ ls,∀W,Ext w W→Calls Tryz.prog kf (#[nk x]++cb) W fun e w'=>e = .returned (.bool (p x))∧Ext W w') :
  Calls Tryz.prog 31 #[.slice A ls.length c,.func (.func kf) #[] cb] w fun e w'=>e = .returned (.bool (ls.any p))∧Ext w w':=by
 have HI:=qh (DM kf cb ek p ls A c w hA hn hF);have HZ:Hid (decide (0≤cw p ls)=ls.any p):=qh (nS p ls);generalize ls.any p=b at *;generalize cw p ls=z at *;clear hA hF;go_enter Tryz.func31,Tryz.ntmps31;go_wp2_with fail;refine HI.out.mono ?_;rintro e w1⟨rfl,hx1⟩;have HX:=qh hx1;clear hx1;go_wp2_with fail;go_ret;exact⟨by rw[←HZ.out];rfl,HX.out⟩
def sK(w:World)(A:Option Addr)(ds:List Int):Prop:=Reads w 1 A ds.length (ds.map (fun d=>Value.int .i64 d))
theorem sK.ext{w w':World}{A:Option Addr}{ds:List Int}(h:sK w A ds)(he:Ext w w'):sK w' A ds:=Reads.ext h he
theorem sK.at_{w:World}{A:Option Addr}{ds:List Int}(h:sK w A ds){k:Nat}(hk:k<ds.length):∃b o,A=some ⟨b,o,none⟩∧b<w.heap.size∧w.cell? ⟨b,o+k,none⟩=some (.int .i64 (ds[k]'hk)):=by
 obtain⟨b,o,rfl,hb⟩:=Reads.at_ h (by omega);refine⟨b,o,rfl,hb,Reads.cell h ?_⟩;rw[List.getElem?_map,List.getElem?_eq_getElem hk];rfl
theorem DN(kf:Nat)(cb:Array Value)(ek:∀args w,(callFunc kf args).run Tryz.prog w = .ok (.enter kf args) w)(p:Int→Bool)(ls:List Int)(A:Option Addr)(c:Nat)(w:World)(hA:sK w A ls)(hn:ls.length≤1000000)
  (hF:∀x ∈ ls,∀W,Ext w W→Calls Tryz.prog kf (#[.int .i64 x]++cb) W fun e w'=>e = .returned (.bool (p x))∧Ext W w') :
  Calls Tryz.prog 272 #[.slice A ls.length c,.func (.func kf) #[] cb] w fun e w'=>e = .returned (.int .i64 (cw p ls))∧Ext w w':=by
 have HA:=qh hA;have HF:=qh hF;clear hA hF;go_enter Tryz.func272,Tryz.ntmps272;go_wp2_with fail;go_loopw [8,5] (fun i _ wr=>∃k:Nat,k≤ls.length∧i = .int .i64 k∧(∀x ∈ ls.take k,p x=false)∧Ext w wr) (fun i _ _=>ls.length-(intOf i).toNat)
 case atStart=>exact⟨0,by omega,rfl,by simp,Ext.refl _⟩
 case round =>
  obtain⟨k,hk,rfl,hz,hx⟩:=hrel;have HZ:=qh hz;have HX:=qh hx;clear hz hx;by_cases hlt:k<ls.length
  ·obtain⟨b,o,rfl,hb,c0⟩:=(HA.out.ext HX.out).at_ hlt;have HC:=qh (HF.out (ls[k]'hlt) (List.getElem_mem _));have HN:Hid (p (ls[k]'hlt)=false→∀x ∈ ls.take (k+1),p x=false):=qh (fun h=>kU hlt HZ.out h);have HI:Hid (p (ls[k]'hlt)=true→cw p ls=k):=qh (fun h=>mp hlt HZ.out h);generalize (ls[k]'hlt)=x at *;go_wp2_with fail;refine(HC.out _ HX.out).mono ?_;rintro e w1⟨rfl,hx1⟩;replace HX:=HX.qt hx1;clear hx1
   cases hp:p x
   ·have HN1:=qh (HN.out hp);clear hp;go_wp2_with fail;go_roundw
    case rel=>exact⟨k+1,by omega,by go_num,HN1.out,HX.out⟩
    case measure=>simp[intOf];omega
   ·have HI1:=qh (HI.out hp);clear hp;go_wp2_with fail;go_ret;exact⟨by rw[HI1.out];rfl,HX.out⟩
  ·have HI:Hid (cw p ls = -1):=qh (kT (by have:=HZ.out;rwa[List.take_of_length_le (by omega)]at this));go_wp2_with fail;go_ret;exact⟨by rw[HI.out];rfl,HX.out⟩
theorem AE(kf:Nat)(cb:Array Value)(ek:∀args w,(callFunc kf args).run Tryz.prog w = .ok (.enter kf args) w)(p:Int→Bool)(ls:List Int)(A:Option Addr)(c:Nat)(w:World)(hA:sK w A ls)(hn:ls.length≤1000000)
  (hF:∀x ∈ ls,∀W,Ext w W→Calls Tryz.prog kf (#[.int .i64 x]++cb) W fun e w'=>e = .returned (.bool (p x))∧Ext W w') :
  Calls Tryz.prog 188 #[.slice A ls.length c,.func (.func kf) #[] cb] w fun e w'=>e = .returned (.bool (ls.any p))∧Ext w w':=by
 have HI:=qh (DN kf cb ek p ls A c w hA hn hF);have HZ:Hid (decide (0≤cw p ls)=ls.any p):=qh (nS p ls);generalize ls.any p=b at *;generalize cw p ls=z at *;clear hA hF;go_enter Tryz.func188,Tryz.ntmps188;go_wp2_with fail;refine HI.out.mono ?_;rintro e w1⟨rfl,hx1⟩;have HX:=qh hx1;clear hx1;go_wp2_with fail;go_ret;exact⟨by rw[←HZ.out];rfl,HX.out⟩
end
section
open Go.RowKit Go.Shelf
attribute [local go_sem] size_bs toList_bs
theorem KN(l:Bs)(hl:l.length≤100000):cu 106 #[.string (bs l)] (.bool (cR l)):=by
 intro w hE;have HE:=qh hE;have hcl:=nB l;have HC:=qh (fun W h=>oZ l W (by omega) h);have HN:=qh (fun W=>gL (bj l).1 W (by omega));unfold cR;rcases Classical.em (∃v,Lib.atoiAll (bj l).2 = .ok v) with ⟨v,hk⟩|hk
 ·have HA:=qh (fun W=>qG (bj l).2 v hk (by omega) W);have HP:=qh (mH hk);rw[HP.out];generalize (bj l).1=nm at *;generalize (bj l).2=nu at *;generalize aB nm=ok at *;clear hk hcl hE HP
  cases ok
  ·rw[Bool.false_and];go_enter Tryz.func106,Tryz.ntmps106;go_wp2_with fail;refine(HC.out _ HE.out).mono ?_;rintro e w1⟨⟨b,rfl⟩,hx1⟩;have HX:=qh hx1;clear hx1;go_wp2_with fail;refine(HA.out _).mono ?_;rintro e w2⟨rfl,hx1⟩;replace HX:=HX.qt hx1;clear hx1;go_wp2_with fail;refine(HN.out _).mono ?_;rintro e w3⟨rfl,hx1⟩;replace HX:=HX.qt hx1;clear hx1;go_wp2_with fail;go_ret;exact⟨rfl,HX.out⟩
  rw[Bool.true_and];by_cases h1:1≤v
  ·by_cases h2:v≤9999
   ·have HI:=qh (fun W h=>itoa_any v W (by omega) (by omega) h);generalize Lib.itoa v=it at *;have g1:decide (1≤v)=true:=by simpa using h1
    have g2:decide (v≤9999)=true:=by simpa using h2
    rw[g1,g2,Bool.true_and,Bool.true_and];by_cases h3:it=nu
    ·have g3:(it == nu)=true:=by simpa using h3
     rw[g3];clear h3;go_enter Tryz.func106,Tryz.ntmps106;go_wp2_with fail;refine(HC.out _ HE.out).mono ?_;rintro e w1⟨⟨b,rfl⟩,hx1⟩;have HX:=qh hx1;clear hx1;go_wp2_with fail;refine(HA.out _).mono ?_;rintro e w2⟨rfl,hx1⟩;replace HX:=HX.qt hx1;clear hx1;go_wp2_with fail;refine(HN.out _).mono ?_;rintro e w3⟨rfl,hx1⟩;replace HX:=HX.qt hx1;clear hx1;go_wp2_with fail;refine(HI.out _ (HE.out.ext HX.out)).mono ?_;rintro e w4⟨rfl,hx1⟩;replace HX:=HX.qt hx1;clear hx1;go_wp2_with fail;go_ret;exact⟨rfl,HX.out⟩
    ·have g3:(it == nu)=false:=by simpa using h3
     rw[g3];clear h3;go_enter Tryz.func106,Tryz.ntmps106;go_wp2_with fail;refine(HC.out _ HE.out).mono ?_;rintro e w1⟨⟨b,rfl⟩,hx1⟩;have HX:=qh hx1;clear hx1;go_wp2_with fail;refine(HA.out _).mono ?_;rintro e w2⟨rfl,hx1⟩;replace HX:=HX.qt hx1;clear hx1;go_wp2_with fail;refine(HN.out _).mono ?_;rintro e w3⟨rfl,hx1⟩;replace HX:=HX.qt hx1;clear hx1;go_wp2_with fail;refine(HI.out _ (HE.out.ext HX.out)).mono ?_;rintro e w4⟨rfl,hx1⟩;replace HX:=HX.qt hx1;clear hx1;go_wp2_with fail;go_ret;exact⟨rfl,HX.out⟩
   ·have g1:decide (1≤v)=true:=by simpa using h1
    have g2:decide (v≤9999)=false:=by simpa using h2
    rw[g1,g2,Bool.true_and,Bool.false_and];generalize Lib.itoa v=it at *;go_enter Tryz.func106,Tryz.ntmps106;go_wp2_with fail;refine(HC.out _ HE.out).mono ?_;rintro e w1⟨⟨b,rfl⟩,hx1⟩;have HX:=qh hx1;clear hx1;go_wp2_with fail;refine(HA.out _).mono ?_;rintro e w2⟨rfl,hx1⟩;replace HX:=HX.qt hx1;clear hx1;go_wp2_with fail;refine(HN.out _).mono ?_;rintro e w3⟨rfl,hx1⟩;replace HX:=HX.qt hx1;clear hx1;go_wp2_with fail;go_ret;exact⟨rfl,HX.out⟩
  ·have g1:decide (1≤v)=false:=by simpa using h1
   rw[g1,Bool.false_and,Bool.false_and];generalize Lib.itoa v=it at *;go_enter Tryz.func106,Tryz.ntmps106;go_wp2_with fail;refine(HC.out _ HE.out).mono ?_;rintro e w1⟨⟨b,rfl⟩,hx1⟩;have HX:=qh hx1;clear hx1;go_wp2_with fail;refine(HA.out _).mono ?_;rintro e w2⟨rfl,hx1⟩;replace HX:=HX.qt hx1;clear hx1;go_wp2_with fail;refine(HN.out _).mono ?_;rintro e w3⟨rfl,hx1⟩;replace HX:=HX.qt hx1;clear hx1;go_wp2_with fail;go_ret;exact⟨rfl,HX.out⟩
 ·have hk':∀v,Lib.atoiAll (bj l).2 ≠ .ok v:=fun v h=>hk ⟨v,h⟩
  have HA:=qh (fun W h=>qH (bj l).2 hk' (by omega) W h);rw[ny hk',Bool.and_false];generalize (bj l).1=nm at *;generalize (bj l).2=nu at *;clear hk hk' hcl hE;generalize aB nm=ok at *;go_enter Tryz.func106,Tryz.ntmps106;go_wp2_with fail;refine(HC.out _ HE.out).mono ?_;rintro e w1⟨⟨b,rfl⟩,hx1⟩;have HX:=qh hx1;clear hx1;go_wp2_with fail;refine(HA.out _ (HE.out.ext HX.out)).mono ?_;rintro e w2⟨⟨n,p,rfl⟩,hx1⟩;replace HX:=HX.qt hx1;clear hx1;go_wp2_with fail;refine(HN.out _).mono ?_;rintro e w3⟨rfl,hx1⟩;replace HX:=HX.qt hx1;clear hx1
  cases ok
  ·skip;go_wp2_with fail;go_ret;exact⟨rfl,HX.out⟩
  ·skip;go_wp2_with fail;go_ret;exact⟨rfl,HX.out⟩
theorem IB(d:Int)(W:World):Calls Tryz.prog 189 (#[.int .i64 d]++#[]) W fun e w'=>e = .returned (.bool (!aD d))∧Ext W w':=by
 obtain⟨b,hb⟩:∃b,b=!aD d:=⟨_,rfl⟩;by_cases h1:d < -25567
 ·have HBB:Hid (b=true):=qh (by rw[hb];unfold aD;simp;omega);rw[←hb,HBB.out];clear hb;go_enter Tryz.func189,Tryz.ntmps189;go_wp2_with fail;go_ret;exact⟨rfl,Ext.refl _⟩
 ·by_cases h2:84005<d
  ·have HBB:Hid (b=true):=qh (by rw[hb];unfold aD;simp;omega);rw[←hb,HBB.out];clear hb;go_enter Tryz.func189,Tryz.ntmps189;go_wp2_with fail;go_ret;exact⟨rfl,Ext.refl _⟩
  ·have HBB:Hid (b=false):=qh (by rw[hb];unfold aD;simp;omega);rw[←hb,HBB.out];clear hb;go_enter Tryz.func189,Tryz.ntmps189;go_wp2_with fail;go_ret;exact⟨rfl,Ext.refl _⟩
theorem wX(a b:Int)(A:Option Addr)(c:Nat)(W:World)(hA:sK W A [a,b]):Calls Tryz.prog 107 #[.slice A 2 c] W fun e w'=>e = .returned (.bool (aD a && aD b))∧Ext W w':=by
 have hc:=AE 189 #[] (fun _ _=>by rfl) (fun d=>!aD d) [a,b] A c W hA (by simp) (fun x _ V _=>IB x V);have HZ:Hid ((!([a,b].any (fun d=>!aD d)))=(aD a && aD b)):=qh (by simp);have hC2:Calls Tryz.prog 188 #[.slice A 2 c,.func (.func 189) #[] #[]] W fun e w'=>e = .returned (.bool ([a,b].any (fun d=>!aD d)))∧Ext W w':=hc
 have HC:=qh hC2;clear hc hC2 hA;generalize [a,b].any (fun d=>!aD d)=z at *;generalize (aD a && aD b)=y at *;go_enter Tryz.func107,Tryz.ntmps107;go_wp2_with fail;refine HC.out.mono ?_;rintro e w1⟨rfl,hx1⟩;have HX:=qh hx1;clear hx1;go_wp2_with fail;go_ret;exact⟨by rw[←HZ.out];rfl,HX.out⟩
theorem qz(a:Bs)(ha:a.length≤100000):cu 108 #[.string (bs a)] (.bool (decide (valI a<0))):=by
 intro w hE;have HC:=qh (ii a ha w hE);have HZ:Hid (decide (cmpI (valI a) 0<0)=decide (valI a<0)):=qh (by unfold cmpI;split <;> (try split) <;> simp <;> omega);rw[←HZ.out];clear hE HZ;generalize cmpI (valI a) 0=z at *;go_enter Tryz.func108,Tryz.ntmps108;go_wp2_with fail;refine HC.out.mono ?_;rintro e w1⟨rfl,hx1⟩;have HX:=qh hx1;clear hx1;go_wp2_with fail;go_ret;exact⟨rfl,HX.out⟩
def kC(g:GainV):Bs:=if valI g.c-valI g.p<0 then [] else af (valI g.c-valI g.p)
structure SmallG (g:GainV):Prop where
 cause:g.cause.length≤1000
 lot:g.lot.length≤1000
 ins:g.ins.length≤1000
 q:g.q.length≤1000
 p:g.p.length≤1000
 c:g.c.length≤1000
 d:g.d.length≤1000
 r:g.r.length≤1000
theorem IC(g:GainV)(hs:SmallG g):cu 109 #[nk g] (.string (bs (kC g))):=by
 intro w hE;have HE:=qh hE;have C1:=qh (j8 g.c g.p (by have:=hs.c;omega) (by have:=hs.p;omega));have hl:=mo (x:=g.c) (y:=g.p) (L:=1000) hs.c hs.p;have C2:=qh (qz (af (valI g.c-valI g.p)) (by omega));rw[ah]at C2;have HZ:Hid (kC g=if valI g.c-valI g.p<0 then [] else af (valI g.c-valI g.p)):=qh rfl;have HB:=qh (Blk.new w 60 (dr g));have HX:Hid (Ext w (w.alloc (.cells (dr g) 60))):=qh (Ext.new _ _);obtain⟨g0,g1,g2,g3,g4,g5,g6,g7,g8,g9⟩:=be HB.out (Ext.refl _);clear hE hs hl;generalize kC g=z at *;generalize valI g.c-valI g.p=d at *;obtain⟨gk,gl,gi,ga,gc',gq,gp,gco,gd,gr⟩:=g;simp only at *;go_enter Tryz.func109,Tryz.ntmps109;go_wp2_with fail;refine(C1.out _ (HE.out.ext HX.out)).mono ?_;rintro e w1⟨rfl,hx1⟩;replace HX:=HX.qt hx1;clear hx1 g0 g1 g2 g3 g4 g5 g6 g7 g8 g9;go_wp2_with fail;refine(C2.out _ (HE.out.ext HX.out)).mono ?_;rintro e w2⟨rfl,hx1⟩;replace HX:=HX.qt hx1;clear hx1;by_cases hd:d<0
 ·have hz:=HZ.out;rw[if_pos hd]at hz;subst hz;have hdt:decide (d<0)=true:=by simpa using hd
  rw[hdt];clear HZ hd hdt;go_wp2_with fail;go_ret;exact⟨rfl,HX.out⟩
 ·have hz:=HZ.out;rw[if_neg hd]at hz;subst hz;have hdt:decide (d<0)=false:=by simpa using hd
  rw[hdt];clear HZ hd hdt;go_wp2_with fail;go_ret;exact⟨rfl,HX.out⟩
end
end Go.Proofs.YtaegjkllenlfpaaGreatDoor
