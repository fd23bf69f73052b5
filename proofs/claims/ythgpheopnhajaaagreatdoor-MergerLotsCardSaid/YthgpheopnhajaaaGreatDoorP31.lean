/- The seat's texts, part P31. -/
import Derived.Test.YthgpheopnhajaaaGreatDoorP30
set_option maxRecDepth 100000
set_option maxHeartbeats 8000000
namespace Go.Proofs.YthgpheopnhajaaaGreatDoor
section
open Go.RowKit
open Go.Maps (Keyed)
attribute [local go_sem] size_bs toList_bs
def jg(w:World)(kd:Int)(cs:List Value)(b:Bool):Prop:=match eV kd with
 |none=>b=false
 |some sp=>b=true∧jL w sp (.agg cs.toArray)
theorem jg.ext{w w':World}{kd:Int}{cs:List Value}{b:Bool}(h:jg w kd cs b)(hx:Ext w w'):jg w' kd cs b:=by
 unfold jg at h ⊢;split
 ·rename_i e;rw[e]at h;exact h
 ·rename_i sp e;rw[e]at h;exact⟨h.1,h.2.ext hx⟩
theorem tw{D:DataW Value}{k:Lit}(hm:Maps.IsMap D)(h:Maps.has D k=false)(z:DataW Value):D.atKey k z=z:=by
 obtain⟨es,rfl⟩:=hm;rw[Maps.has_eq,List.any_eq_false]at h;unfold DataW.atKey;dsimp only;rw[List.find?_eq_none.2 (fun p hp=>by simpa using h p hp)]
theorem tx{w:World}{b n:Nat}{D:DataW Value}(h:bW w b n D)(hK:KindsAt w D)(kd:Int)(hwf:(Lit.int .i64 kd).wf=true) :
  ∃cs is,cs.length=17∧cs.toArray.all (·.oneCell')=true∧jg w kd cs is ∧
    ∀W n',bW W b n' D→(Instr.lookup 146 (.map (some b)) (.int .i64 kd) true).run Tryz.prog W = .ok (.tuple #[.agg cs.toArray,.bool is]) W:=by
 have hkey:keyOf Tryz.prog 3 (.int .i64 kd)=some (.int .i64 kd):=Go.Maps.keyOf_int_mk Tryz.underlying3 hwf
 have run:∀(v0:Value) (is:Bool),Maps.has D (.int .i64 kd)=is→(D.atKey (.int .i64 kd) (.held (kv [] 0 bQ (.map none) false)) = .held v0)→∀W n',bW W b n' D→(Instr.lookup 146 (.map (some b)) (.int .i64 kd) true).run Tryz.prog W = .ok (.tuple #[v0,.bool is]) W:=by
  intro v0 is h1 h2 W n' hM;obtain⟨v,ps,h3,h4⟩:=hM.look_ok (t:=146) (e:=144) gI Tryz.underlying146 (Tryz.zeroValue144 W) (zd := .held (kv [] 0 bQ (.map none) false)) (zp:=[]) rfl hkey;rw[h1]at h3;rw[h2]at h4;unfold RK at h4;injection h4 with h4
  injection h4 with h4 _
  injection h4 with h4
  subst h4;exact h3
 cases hk:eV kd with
 |none =>
  have hn:Maps.has D (.int .i64 kd)=false:=by
   cases hh:Maps.has D (.int .i64 kd)
   ·rfl
   ·obtain⟨k,h1,h2⟩:=hK.known kd hh;obtain⟨p,hp,e⟩:=List.mem_map.1 h1;exact absurd (by rw[h2,←e]) (tu hk p hp)
  refine⟨aL [] 0 bQ (.map none) false,false,rfl,kc _ _ _ _ _ rfl,?_,run _ _ hn (tw h.isMap hn _)⟩;unfold jg;rw[hk]
 |some sp =>
  obtain⟨n',rfl,hp⟩:=nQ hk;obtain⟨h1,v,h2,h3⟩:=hK.at_ _ hp;have hS:=h3;obtain⟨num,rfl,h4⟩:=h3;have hok:=tp _ hp;unfold lV at hok;rw[Bool.and_eq_true,beq_iff_eq]at hok;refine⟨aL sp.word sp.cl sp.bits num sp.code,true,gu _ _ _ _ _ hok.1,kc _ _ _ _ _ ?_,?_,run _ _ h1 (h2 _)⟩
  ·dsimp only at h4;split at h4
   ·rw[h4];rfl
   ·obtain⟨b,rfl,_⟩:=h4;rfl
  ·unfold jg;rw[hk];exact⟨rfl,hS⟩
theorem jL.over{w:World}{sp:KSp}{v:Value}(h:jL w sp v){P:Nat}{xs:List Value}(hP:Blk w P 144 xs.toArray)(ys:List Value):jL (w.setCells P 0 ys) sp v:=by
 have ho:Only P w (w.setCells P 0 ys):=Only.sets ys 0 w w (Only.refl P w);obtain⟨num,h1,h2⟩:=h;refine⟨num,h1,?_⟩
 cases hn:sp.nums with
 |none=>rw[hn]at h2;exact h2
 |some es =>
  rw[hn]at h2;obtain⟨b,h3,n,D,h4,h5,h6,h7⟩:=h2;refine⟨b,h3,n,D,h4.only ho (fun e=>xH hP h4 e.symm),h5,h6,fun e he=>?_⟩;obtain⟨g0,v,g1,l1,l2,l3,l4,l5⟩:=h7 e he
  have ne:∀ {g:Nat} {u:Value},Blk w g 4 #[u]→g≠P:=fun {g u} hg e=>by
   have a1:w.heap[g]? = some (Obj.cells #[u] 4 (0,0)):=hg;have a2:w.heap[P]? = some (Obj.cells xs.toArray 144 (0,0)):=hP;rw[e,a2]at a1;injection a1 with a1
   injection a1 with _ a1
   cases a1
  exact⟨g0,v,g1,l1,l2,l3,(ho.block _ l4.lt (by simpa using ne l4)).trans l4,(ho.block _ l5.lt (by simpa using ne l5)).trans l5⟩
theorem jg.over{w:World}{kd:Int}{cs:List Value}{b:Bool}(h:jg w kd cs b){P:Nat}{xs:List Value}(hP:Blk w P 144 xs.toArray)(ys:List Value):jg (w.setCells P 0 ys) kd cs b:=by
 unfold jg at h ⊢;split
 ·rename_i e;rw[e]at h;exact h
 ·rename_i sp e;rw[e]at h;exact⟨h.1,h.2.over hP ys⟩
def Iw(W:World)(kd:Int)(p3 p4:Value)(wx:World):Prop:=∃P cs b,p3 = .pointer (some ⟨P,0,none⟩)∧p4 = .bool b∧cs.length=17∧jg wx kd cs b∧Blk wx P 144 cs.toArray∧Ext W wx
structure FactP (f:FactV) (ps:List Fr) (os:List OptV) (e:Int):Prop where
 n:ax f.key=false→e=23
 s:ax f.key=true→f.stamp<0→e=2
 c1:ax f.key=true→¬ f.stamp<0→f.canc=true→bj f.day f.kind f.choice f.ins f.other f.cur f.tgt f.qty f.amt f.fee f.price.num f.price.den f.ratio.num f.ratio.den f.share.num f.share.den ps.length os.length=true→e=0
 c2:ax f.key=true→¬ f.stamp<0→f.canc=true→bj f.day f.kind f.choice f.ins f.other f.cur f.tgt f.qty f.amt f.fee f.price.num f.price.den f.ratio.num f.ratio.den f.share.num f.share.den ps.length os.length=false→e=1
 d:ax f.key=true→¬ f.stamp<0→f.canc=false→f.day < -25567∨84005<f.day→e=13
 k0:ax f.key=true→¬ f.stamp<0→f.canc=false→¬ (f.day < -25567∨84005<f.day)→eV f.kind=none→e=7
 k1:ax f.key=true→¬ f.stamp<0→f.canc=false→¬ (f.day < -25567∨84005<f.day)→∀sp,eV f.kind=some sp→e=ej (fY f ps os sp) 13
theorem G7(f:FactV)(ps:List Fr)(os:List OptV):FactP f ps os (cP f ps os):=by
 refine⟨fun a=>?_,fun a b=>?_,fun a b c d=>?_,fun a b c d=>?_,fun a b c d=>?_,fun a b c d e=>?_,fun a b c d sp e=>?_⟩
 ·unfold cP;rw[if_pos a]
 ·unfold cP;rw[if_neg (by rw[a];decide),if_pos b]
 ·unfold cP;rw[if_neg (by rw[a];decide),if_neg b,if_pos c,if_pos d]
 ·unfold cP;rw[if_neg (by rw[a];decide),if_neg b,if_pos c,if_neg (by rw[d];decide)]
 ·unfold cP;rw[if_neg (by rw[a];decide),if_neg b,if_neg (by rw[c];decide),if_pos d]
 ·unfold cP;rw[if_neg (by rw[a];decide),if_neg b,if_neg (by rw[c];decide),if_neg d,e]
 ·unfold cP;rw[if_neg (by rw[a];decide),if_neg b,if_neg (by rw[c];decide),if_neg d,e]
structure LoopAt (W:World) (f:FactV) (ps:List Fr) (os:List OptV) (pa oa:Option Addr) (pc oc:Nat) (sp:KSp) (cs:List Value):Prop where
 bit:∀k,k<13→cs.toArray[2+k]? = some (.bool (sp.bits.getD k false))
 has:∀k,k<13→sp.bits.getD k false=true→∀W',Ext W W'→ya f (ac pa ps.length pc) (ac oa os.length oc) cs.toArray k (fY f ps os sp k) W'
 no:∀k,k<13→sp.bits.getD k false=false→(br f ps.length os.length k=true→fY f ps os sp k=0)∧(br f ps.length os.length k=false→fY f ps os sp k=1)
theorem EA{W:World}{f:FactV}{ps:List Fr}{os:List OptV}{pa oa:Option Addr}{pc:Nat}(oc:Nat){sp:KSp}{cs:List Value}(hA:FactAt W f ps os pa oa pc)(hE:Env W)(hok:lV sp=true)(hS:jL W sp (.agg cs.toArray)):LoopAt W f ps os pa oa pc oc sp cs:=by
 refine⟨fun k hk=>?_,fun k hk hb W' hx=>?_,fun k hk hb=>⟨fun h=>?_,fun h=>?_⟩⟩
 ·obtain⟨num,hkv,_⟩:=hS;injection hkv with hkv
  have hok':=hok;unfold lV at hok';rw[Bool.and_eq_true,beq_iff_eq]at hok';rw[hkv,ph _ _ _ _ _ _ (by omega),List.getD_eq_getElem?_getD,List.getElem?_eq_getElem (by omega)];rfl
 ·have:=yb (oc:=oc) (hA.ext hx) (hE.ext hx) hok (hS.ext hx) rfl hk hb;have e:fY f ps os sp k=mx f ps os sp k:=by unfold fY;rw[if_pos hb]
  rw[e];exact this
 ·unfold fY;rw[if_neg (by rw[hb];decide),if_pos h]
 ·unfold fY;rw[if_neg (by rw[hb];decide),if_neg (by rw[h];decide)]
theorem jh(f:FactV)(ps:List Fr)(os:List OptV)(pa oa:Option Addr)(pc oc:Nat)(w:World)(hA:FactAt w f ps os pa oa pc)(hwf:(Lit.int .i64 f.kind).wf=true)(hE:Env w) :
  Calls Tryz.prog 34 #[aB f (ac pa ps.length pc) (ac oa os.length oc)] w fun e w'=>e = .returned (.int .i64 (cP f ps os))∧Ext w w':=by
 have HE:=qh hE;have HA:=qh hA;have HWF:=qh hwf;have hp:=G7 f ps os;have P1:=qh hp.n;have P2:=qh hp.s;have P3:=qh hp.c1;have P4:=qh hp.c2;have P5:=qh hp.d;have P6:=qh hp.k0;have P7:=qh hp.k1;have hkl:=hA.sm.key;have HN:=qh (i7 f.key (w.alloc (.cells (af f (ac pa ps.length pc) (ac oa os.length oc)) 30)) (by omega));have HSm:=qh (fun hc W=>Ez f pa oa ps.length pc os.length oc hc W);generalize cP f ps os=res at *;generalize bj f.day f.kind f.choice f.ins f.other f.cur f.tgt f.qty f.amt f.fee f.price.num f.price.den f.ratio.num f.ratio.den f.share.num f.share.den ps.length os.length=sz at *;generalize ax f.key=nm at *;obtain⟨P,hP⟩:∃P,P=ac pa ps.length pc:=⟨_,rfl⟩;obtain⟨O,hO⟩:∃O,O=ac oa os.length oc:=⟨_,rfl⟩;rw[←hP,←hO]at HN HSm ⊢;have HPO:=qh (And.intro hP hO);have KI:=qh (fun W=>xW W);have HB:=qh (Blk.new w 30 (af f P O));have HX:Hid (Ext w (w.alloc (.cells (af f P O) 30))):=qh (Ext.new _ _);clear hA hE hp hkl hwf hP hO;go_enter Tryz.func34,Tryz.ntmps34;obtain⟨x0,x1,x2,x3,x4,x5,x6,x7,x8,x9,x10,x11,x12,x13,x14,x15,x16,x17,x18,x19,x20⟩:=ae HB.out (Ext.refl _);go_wp2_with fail;refine(HN.out).mono ?_;rintro e W⟨rfl,hx1⟩;replace HB:=qh (HB.out.ext hx1);replace HX:=HX.qt hx1;clear hx1;clear x0 x1 x2 x3 x4 x5 x6 x7 x8 x9 x10 x11 x12 x13 x14 x15 x16 x17 x18 x19 x20;clear HN
 cases nm
 ·have e0:=P1.out (by trivial);subst e0;clear P1 P2 P3 P4 P5 P6 P7;go_wp2_with fail;go_ret;exact⟨rfl,HX.out⟩
 replace P2:=qh (P2.out (by trivial));replace P3:=qh (P3.out (by trivial));replace P4:=qh (P4.out (by trivial));replace P5:=qh (P5.out (by trivial));replace P6:=qh (P6.out (by trivial));replace P7:=qh (P7.out (by trivial));clear P1;obtain⟨x0,x1,x2,x3,x4,x5,x6,x7,x8,x9,x10,x11,x12,x13,x14,x15,x16,x17,x18,x19,x20⟩:=ae HB.out (Ext.refl _);by_cases hs:f.stamp<0
 ·have g:decide (f.stamp<0)=true:=decide_eq_true hs;have e0:=P2.out hs;subst e0;clear P2 P3 P4 P5 P6 P7 hs;go_wp2_with fail;go_ret;exact⟨rfl,HX.out⟩
 have g:decide (f.stamp<0)=false:=decide_eq_false hs;have hs':0≤f.stamp:=by omega
 replace P3:=qh (P3.out (by simpa using hs'));replace P4:=qh (P4.out (by simpa using hs'));replace P5:=qh (P5.out (by simpa using hs'));replace P6:=qh (P6.out (by simpa using hs'));replace P7:=qh (P7.out (by simpa using hs'));clear P2 hs hs';have hs1:(Tryz.prog.info? 30).map (·.size)=some (af f P O).toList.length:=by kernel_rfl
 have hrg:=aA HB.out;by_cases hc:f.canc=true
 ·replace HSm:=qh (HSm.out hc);replace P3:=qh (P3.out hc);replace P4:=qh (P4.out hc);rw[hc]at x2;clear P5 P6 P7 hc;go_wp2_with (first|refine wpList_load_mid rfl 30 _ rfl w.heap.size 0 rfl _ _ hrg Tryz.underlying30 rfl hs1 ?_|fail);refine(HSm.out _).mono ?_;rintro e v1⟨rfl,hx1⟩;replace HX:=HX.qt hx1;clear hx1
  cases sz
  ·have e0:=P4.out (by trivial);subst e0;clear P3 P4;go_wp2_with fail;go_ret;exact⟨rfl,HX.out⟩
  ·have e0:=P3.out (by trivial);subst e0;clear P3 P4;go_wp2_with fail;go_ret;exact⟨rfl,HX.out⟩
 have hc':f.canc=false:=by simpa using hc
 rw[hc']at x2;replace P5:=qh (P5.out hc');replace P6:=qh (P6.out hc');replace P7:=qh (P7.out hc');clear P3 P4 HSm hc hc' hrg;by_cases h1:f.day < -25567
 ·have g1:decide (f.day < -25567)=true:=decide_eq_true h1;have e0:=P5.out (.inl h1);subst e0;clear P5 P6 P7 h1;go_wp2_with fail;go_ret;exact⟨rfl,HX.out⟩
 by_cases h2:84005<f.day
 ·have g1:decide (f.day < -25567)=false:=decide_eq_false h1;have g2:decide (84005<f.day)=true:=decide_eq_true h2;have e0:=P5.out (.inr h2);subst e0;clear P5 P6 P7 h1 h2;go_wp2_with fail;go_ret;exact⟨rfl,HX.out⟩
 have g1:decide (f.day < -25567)=false:=decide_eq_false h1;have g2:decide (84005<f.day)=false:=decide_eq_false h2;have hday:Hid (¬ (f.day < -25567∨84005<f.day)):=qh (by omega);replace P6:=qh (P6.out hday.out);replace P7:=qh (P7.out hday.out);clear P5 h1 h2 hday;go_upto_region 11 with fail;go_cut [3,4] (fun p3 p4 wx=>Iw W f.kind p3 p4 wx)
 case first =>
  clear HE HA x0 x1 x2 x3 x5 x6 x7 x8 x9 x10 x11 x12 x13 x14 x15 x16 x17 x18 x19 x20 P6 P7 g g1 g2;have y4:W.drew.cell? ⟨w.heap.size,4,none⟩=some (.int .i64 f.kind):=x4;refine wp_region_held_drew (S:=fun w'=>w'.cell? ⟨w.heap.size,4,none⟩=some (.int .i64 f.kind)) (by kernel_rfl) x4 (fun hHeld=>?_);refine tk 1 (.pointer (some ⟨w.heap.size,4,none⟩)) rfl (by kernel_rfl) (fun _ _ _ h=>h) (Or.inl ⟨by rfl,?_⟩) (by assumption) ?_
  ·intro w hSw;(try dsimp only at hSw)
   go_simp
  (try simp only[p4])
  refine tk 2 (.int .i64 f.kind) rfl (by kernel_rfl) (fun _ _ _ h=>h) (Or.inl ⟨by rfl,?_⟩) (by assumption) ?_
  ·intro w hSw;(try dsimp only at hSw)
   go_simp
  (try simp only[p4])
  refine wpAnyH_ready (rs:=[0,7]) (by kernel_rfl) (by simp) ?_;refine AllReadyH.cons rfl (fun K hK=>?_) (AllReadyH.cons rfl (fun K hK=>?_) (AllReadyH.nil))
  ·go_simp;refine(KI.out _).mono ?_;rintro e w1⟨b,n,D,rfl,hM,hK2,hx⟩;obtain⟨cs,is,hcl,hoc,hR,hL⟩:=tx hM hK2 f.kind HWF.out;have HR1:=qh hR;have L1:=hL _ _ hM;have L2:=hL _ _ (hM.ext (Ext.new w1 (.cells #[.string ⟨#[]⟩,.int .i64 0,.bool false,.bool false,.bool false,.bool false,.bool false,.bool false,.bool false,.bool false,.bool false,.bool false,.bool false,.bool false,.bool false,.map none,.bool false] 144)));have y5:=(ae HB.out ((Ext.refl W).drew.trans hx)).2.2.2.2.1;have BN:=qh (Blk.new w1 144 (aL [] 0 bQ (.map none) false).toArray);have HZ:Hid (Ext W (w1.alloc (.cells (aL [] 0 bQ (.map none) false).toArray 144))):=qh (((Ext.refl W).drew.trans hx).alloc _);have HR:=qh (HR1.out.ext (Ext.new w1 (.cells (aL [] 0 bQ (.map none) false).toArray 144)));have hs2:(Tryz.prog.info? 144).map (·.size)=some cs.toArray.size:=by rw[List.size_toArray,hcl];kernel_rfl
   have y6:=(ae HB.out HZ.out).2.2.2.2.1;have hle:Hid (W.heap.size≤w1.heap.size):=qh hx.size;clear hM hK2 hx hL hR HR1;refine hK.out _ _ y5 (fun hHeld=>?_);clear hK K;(try simp only[p4])
   refine wpAnyH_ready (rs:=[3,7]) (by kernel_rfl) (by simp) ?_;refine AllReadyH.cons rfl (fun K hK=>?_) (AllReadyH.cons rfl (fun K hK=>?_) (AllReadyH.nil))
   ·go_simp;refine hK.out _ _ y5 (fun hHeld=>?_);clear hK K;(try simp only[p4])
    refine tk 4 (.tuple #[.agg cs.toArray,.bool is]) rfl (by kernel_rfl) (fun _ _ _ h=>h) (Or.inl ⟨by rfl,?_⟩) (by assumption) ?_
    ·intro w hSw;(try dsimp only at hSw)
     go_simp
    (try simp only[p4])
    refine tk 5 (.agg cs.toArray) rfl (by kernel_rfl) (fun _ _ _ h=>h) (Or.inl ⟨by rfl,?_⟩) (by assumption) ?_
    ·intro w hSw;(try dsimp only at hSw)
     go_simp
    (try simp only[p4])
    refine tk 6 (.bool is) rfl (by kernel_rfl) (fun _ _ _ h=>h) (Or.inl ⟨by rfl,?_⟩) (by assumption) ?_
    ·intro w hSw;(try dsimp only at hSw)
     go_simp
    (try simp only[p4])
    refine wpAnyH_ready (rs:=[7]) (by kernel_rfl) (by simp) ?_;refine AllReadyH.cons rfl (fun K hK=>?_) (AllReadyH.nil);go_simp;refine hK.out _ _ y6 (fun hHeld=>?_);clear hK K;(try simp only[p4])
    refine wpAnyH_ready (rs:=[8]) (by kernel_rfl) (by simp) ?_;refine AllReadyH.cons rfl (fun K hK=>?_) (AllReadyH.nil);have hth:=ff BN.out (n:=cs.toArray.size) (by rw[List.size_toArray,hcl];rfl);rw[if_pos (by rfl)];refine wp_store_mid 144 _ _ rfl w1.heap.size 0 cs.toArray rfl rfl hth hs2 hoc ?_;have O:=qh (fU BN.out (ys:=cs) (by rw[hcl];rfl));have HS:=qh (cV cs 0 _ () HZ.out hle.out);have HR2:=qh (HR.out.over BN.out cs);refine hK.out _ _ ((ae HB.out HS.out).2.2.2.2.1) (fun hHeld=>?_);clear hK K;(try simp only)
    refine tk 9 (.bool is) rfl (by kernel_rfl) (fun _ _ _ h=>h) (Or.inl ⟨by rfl,?_⟩) (by assumption) ?_
    ·intro w hSw;(try dsimp only at hSw)
     go_simp
    (try simp only[p4])
    refine wpAnyH_done (by kernel_rfl) ?_ _;go_wp2_with fail;go_meet
    exact⟨_,cs,is,rfl,rfl,hcl,HR2.out,O.out,HS.out⟩
   ·go_simp;refine hK.out _ _ y6 (fun hHeld=>?_);clear hK K;(try simp only[p4])
    refine wpAnyH_ready (rs:=[3]) (by kernel_rfl) (by simp) ?_;refine AllReadyH.cons rfl (fun K hK=>?_) (AllReadyH.nil);go_simp;refine hK.out _ _ y6 (fun hHeld=>?_);clear hK K;(try simp only[p4])
    refine tk 4 (.tuple #[.agg cs.toArray,.bool is]) rfl (by kernel_rfl) (fun _ _ _ h=>h) (Or.inl ⟨by rfl,?_⟩) (by assumption) ?_
    ·intro w hSw;(try dsimp only at hSw)
     go_simp
    (try simp only[p4])
    refine tk 5 (.agg cs.toArray) rfl (by kernel_rfl) (fun _ _ _ h=>h) (Or.inl ⟨by rfl,?_⟩) (by assumption) ?_
    ·intro w hSw;(try dsimp only at hSw)
     go_simp
    (try simp only[p4])
    refine tk 6 (.bool is) rfl (by kernel_rfl) (fun _ _ _ h=>h) (Or.inl ⟨by rfl,?_⟩) (by assumption) ?_
    ·intro w hSw;(try dsimp only at hSw)
     go_simp
    (try simp only[p4])
    refine wpAnyH_ready (rs:=[8]) (by kernel_rfl) (by simp) ?_;refine AllReadyH.cons rfl (fun K hK=>?_) (AllReadyH.nil);have hth:=ff BN.out (n:=cs.toArray.size) (by rw[List.size_toArray,hcl];rfl);rw[if_pos (by rfl)];refine wp_store_mid 144 _ _ rfl w1.heap.size 0 cs.toArray rfl rfl hth hs2 hoc ?_;have O:=qh (fU BN.out (ys:=cs) (by rw[hcl];rfl));have HS:=qh (cV cs 0 _ () HZ.out hle.out);have HR2:=qh (HR.out.over BN.out cs);refine hK.out _ _ ((ae HB.out HS.out).2.2.2.2.1) (fun hHeld=>?_);clear hK K;(try simp only)
    refine tk 9 (.bool is) rfl (by kernel_rfl) (fun _ _ _ h=>h) (Or.inl ⟨by rfl,?_⟩) (by assumption) ?_
    ·intro w hSw;(try dsimp only at hSw)
     go_simp
    (try simp only[p4])
    refine wpAnyH_done (by kernel_rfl) ?_ _;go_wp2_with fail;go_meet
    exact⟨_,cs,is,rfl,rfl,hcl,HR2.out,O.out,HS.out⟩
  ·go_simp;have HZ0:Hid (Ext W (W.drew.alloc (.cells (aL [] 0 bQ (.map none) false).toArray 144))):=qh ((Ext.refl W).drew.alloc _);have y5:=(ae HB.out HZ0.out).2.2.2.2.1;refine hK.out _ _ y5 (fun hHeld=>?_);clear hK K;(try simp only[p4])
   refine wpAnyH_ready (rs:=[0]) (by kernel_rfl) (by simp) ?_;refine AllReadyH.cons rfl (fun K hK=>?_) (AllReadyH.nil);go_simp;refine(KI.out _).mono ?_;rintro e w1⟨b,n,D,rfl,hM,hK2,hx⟩;obtain⟨cs,is,hcl,hoc,hR,hL⟩:=tx hM hK2 f.kind HWF.out;have L1:=hL _ _ hM;have HZ:Hid (Ext W w1):=HZ0.qt hx;have BN:Hid (Blk w1 W.heap.size 144 (aL [] 0 bQ (.map none) false).toArray):=qh ((Blk.new W.drew _ _).ext hx);have HR:=qh hR;have hs2:(Tryz.prog.info? 144).map (·.size)=some cs.toArray.size:=by rw[List.size_toArray,hcl];kernel_rfl
   have y6:=(ae HB.out HZ.out).2.2.2.2.1;clear hM hK2 hx hL hR;refine hK.out _ _ y6 (fun hHeld=>?_);clear hK K;(try simp only[p4])
   refine wpAnyH_ready (rs:=[3]) (by kernel_rfl) (by simp) ?_;refine AllReadyH.cons rfl (fun K hK=>?_) (AllReadyH.nil);go_simp;refine hK.out _ _ y6 (fun hHeld=>?_);clear hK K;(try simp only[p4])
   refine tk 4 (.tuple #[.agg cs.toArray,.bool is]) rfl (by kernel_rfl) (fun _ _ _ h=>h) (Or.inl ⟨by rfl,?_⟩) (by assumption) ?_
   ·intro w hSw;(try dsimp only at hSw)
    go_simp
   (try simp only[p4])
   refine tk 5 (.agg cs.toArray) rfl (by kernel_rfl) (fun _ _ _ h=>h) (Or.inl ⟨by rfl,?_⟩) (by assumption) ?_
   ·intro w hSw;(try dsimp only at hSw)
    go_simp
   (try simp only[p4])
   refine tk 6 (.bool is) rfl (by kernel_rfl) (fun _ _ _ h=>h) (Or.inl ⟨by rfl,?_⟩) (by assumption) ?_
   ·intro w hSw;(try dsimp only at hSw)
    go_simp
   (try simp only[p4])
   refine wpAnyH_ready (rs:=[8]) (by kernel_rfl) (by simp) ?_;refine AllReadyH.cons rfl (fun K hK=>?_) (AllReadyH.nil);have hth:=ff BN.out (n:=cs.toArray.size) (by rw[List.size_toArray,hcl];rfl);rw[if_pos (by rfl)];refine wp_store_mid 144 _ _ rfl W.heap.size 0 cs.toArray rfl rfl hth hs2 hoc ?_;have O:=qh (fU BN.out (ys:=cs) (by rw[hcl];rfl));have HS:=qh (cV cs 0 _ () HZ.out (Nat.le_refl _));have HR2:=qh (HR.out.over BN.out cs);refine hK.out _ _ ((ae HB.out HS.out).2.2.2.2.1) (fun hHeld=>?_);clear hK K;(try simp only)
   refine tk 9 (.bool is) rfl (by kernel_rfl) (fun _ _ _ h=>h) (Or.inl ⟨by rfl,?_⟩) (by assumption) ?_
   ·intro w hSw;(try dsimp only at hSw)
    go_simp
   (try simp only[p4])
   refine wpAnyH_done (by kernel_rfl) ?_ _;go_wp2_with fail;go_meet
   exact⟨_,cs,is,rfl,rfl,hcl,HR2.out,O.out,HS.out⟩
 case rest =>
  obtain⟨Q,cs,is,rfl,rfl,hcl,hR,hk,hx⟩:=hcut;clear x0 x1 x2 x3 x4 x5 x6 x7 x8 x9 x10 x11 x12 x13 x14 x15 x16 x17 x18 x19 x20;replace HX:=HX.qt hx;replace HB:=qh (HB.out.ext hx);have HK:=qh hk;have HR:=qh hR;clear hk hx hR KI g g1 g2;unfold jg at HR
  cases hks:eV f.kind with
  |none =>
   rw[hks]at HR;have h3:is=false:=HR.out;subst h3;have e0:=P6.out hks;subst e0;clear P6 P7 hks HR;go_wp2_with fail;go_ret;exact⟨rfl,HX.out⟩
  |some sp =>
   rw[hks]at HR;obtain⟨h3,h4⟩:is=true∧jL wc sp (.agg cs.toArray):=HR.out;subst h3;have e0:=P7.out sp hks;obtain⟨n',_,hmem⟩:=nQ hks;have HL:=qh (EA oc (HA.out.ext HX.out) (HE.out.ext HX.out) (tp _ hmem) h4);clear P6 P7 hks HR h4 hmem;have HR0:=qh e0;clear e0;generalize hfe:fY f ps os sp=fe at *;have HHit:Hid (∀k,k<13→(∀j,j<k→fe j=0)→fe k≠0→res=fe k):=qh (fun k hk h1 h2=>HR0.out.trans (iO h1 h2 hk));have HOK:Hid ((∀j,j<13→fe j=0)→res=0):=qh (fun h=>HR0.out.trans (fI h));clear HR0;have HBit:Hid (∀k,k<13→cs.toArray[2+k]? = some (.bool (sp.bits.getD k false))):=qh HL.out.bit
   have HHas:Hid (∀k,k<13→sp.bits.getD k false=true→∀W',Ext wc W'→Calls Tryz.prog 90 #[aB f P O,.agg cs.toArray,.int .i64 (k:Nat)] W' fun e w'=>e = .returned (.int .i64 (fe k))∧Ext W' w'):=qh (fun k hk hb W' hx=>by
    have h:=HL.out.has k hk hb W' hx;rw[←HPO.out.1,←HPO.out.2,hfe]at h;exact h)
   have HNo:Hid (∀k,k<13→sp.bits.getD k false=false→(br f ps.length os.length k=true→fe k=0)∧(br f ps.length os.length k=false→fe k=1)):=qh (fun k hk hb=>by
    have h:=HL.out.no k hk hb;rw[hfe]at h;exact h)
   have HEmp:Hid (∀k,k<13→∀W',Calls Tryz.prog 91 #[aB f P O,.int .i64 (k:Nat)] W' fun e w'=>e = .returned (.bool (br f ps.length os.length k))∧Ext W' w'):=qh (fun k hk W'=>by
    have h:=uo f pa oa ps.length pc os.length oc W' hk;rw[←HPO.out.1,←HPO.out.2]at h;exact h)
   clear HL hfe HPO HA HE HWF hs1;generalize sp.bits=bits at *;have hs1:(Tryz.prog.info? 30).map (·.size)=some (af f P O).toList.length:=by kernel_rfl
   have hs3:(Tryz.prog.info? 144).map (·.size)=some cs.length:=by rw[hcl];kernel_rfl
   clear hcl;go_wp2_with fail;go_loopw [41,5,6] (fun i _ _ wr=>∃k:Nat,k≤13∧i = .int .i64 k∧(∀j,j<k→fe j=0)∧Ext wc wr) (fun i _ _ _=>13-(intOf i).toNat)
   case atStart=>exact⟨0,by omega,rfl,fun j hj=>absurd hj (by omega),Ext.refl _⟩
   case round =>
    obtain⟨k,hk,rfl,hz,hx⟩:=hrel;replace HX:=HX.qt hx;replace HB:=qh (HB.out.ext hx);replace HK:=qh (HK.out.ext hx);have HLo:=qh hx;have HZ:=qh hz;clear hx hz;by_cases hlt:k<13
    ·have hki:(k:Int)<13:=by omega
     have hk0:(0:Int)≤(k:Int):=by omega
     have q:=HK.out.cell (2+k);rw[HBit.out k hlt]at q;have hrg:=aA HB.out;have hrk:=jX HK.out;have hit:=qh (HHit.out k hlt HZ.out)
     have nxt:Hid (fe k=0→∀j,j<k+1→fe j=0):=qh (fun h j hj=>by
      by_cases e:j=k
      ·subst e;exact h
      ·exact HZ.out j (by omega))
     cases hb:bits.getD k false
     ·rw[hb]at q;have HC:=qh (HEmp.out k hlt wr);have hno:=qh (HNo.out k hlt hb);clear HHit HOK HBit HHas HNo HEmp hb;generalize br f ps.length os.length k=em at *;generalize fe k=r at *;go_wp2_with (first|refine wpList_load_mid rfl 30 _ rfl w.heap.size 0 rfl _ _ hrg Tryz.underlying30 rfl hs1 ?_|fail);refine HC.out.mono ?_;rintro e v1⟨rfl,hx1⟩;replace HX:=HX.qt hx1;replace HLo:=HLo.qt hx1;clear hx1 hrg hrk q
      cases em
      ·have e0:=hno.out.2 (by trivial);have e1:=hit.out (by rw[e0];decide);rw[e0]at e1;subst e1;clear hno hit nxt;go_wp2_with fail;go_ret;exact⟨rfl,HX.out⟩
      ·have e0:=hno.out.1 (by trivial);have hz1:=qh (nxt.out e0);clear hno hit nxt e0;go_wp2_with fail;exact⟨⟨k+1,by omega,by go_num,hz1.out,HLo.out⟩,by simp[intOf];omega⟩
     ·rw[hb]at q;have HC:=qh (HHas.out k hlt hb wr HLo.out);clear HHit HOK HBit HHas HNo HEmp hb;generalize fe k=r at *;go_wp2_with (first|refine wpList_load_mid rfl 30 _ rfl w.heap.size 0 rfl _ _ hrg Tryz.underlying30 rfl hs1 ?_|refine wpList_load_mid rfl 144 _ rfl Q 0 rfl _ _ hrk Tryz.underlying144 rfl hs3 ?_|fail);refine HC.out.mono ?_;rintro e v1⟨rfl,hx1⟩;replace HX:=HX.qt hx1;replace HLo:=HLo.qt hx1;clear hx1 hrg hrk q;by_cases hr:r=0
      ·have hz1:=qh (nxt.out hr);subst hr;clear hit nxt;go_wp2_with fail;exact⟨⟨k+1,by omega,by go_num,hz1.out,HLo.out⟩,by simp[intOf];omega⟩
      ·have g5:(r != 0)=true:=by rw[bne_iff_ne];exact hr
       have e1:=hit.out hr;subst e1;clear hit nxt;go_wp2_with fail;go_ret;exact⟨rfl,HX.out⟩
    ·obtain rfl:k=13:=by omega
     have e0:=HOK.out HZ.out;subst e0;clear HHit HOK HBit HHas HNo HEmp HZ hlt;go_wp2_with fail;go_ret;exact⟨rfl,HX.out⟩
end
section
open Go.RowKit
structure GainR where
 id:Bs
 acq:Int
 q:Bs
 p:Bs
 l:Bs
structure StepR where
 a:Bs
 b:Bs
 c:Bs
 d:Bs
 e:Bs
def dv(key ins:Bs)(day:Int)(g:GainR):List Value:=[.string (bs key),.string (bs g.id),.string (bs ins),.int .i64 g.acq,.int .i64 day,.string (bs g.q),.string (bs g.p),.string (bs g.l),.string ⟨#[]⟩,.string ⟨#[]⟩]
def dI(key:Bs)(s:StepR):List Value:=[.string (bs key),.string (bs s.a),.string (bs s.b),.string (bs s.c),.string (bs s.d),.string (bs s.e)]
theorem H8(key ins:Bs)(day:Int)(g:GainR):∀u ∈ dv key ins day g,u.oneCell'=true:=by
 intro u hu;simp only[dv,List.mem_cons,List.not_mem_nil,or_false]at hu;rcases hu with rfl|rfl|rfl|rfl|rfl|rfl|rfl|rfl|rfl|rfl <;> rfl
theorem jz(key:Bs)(s:StepR):∀u ∈ dI key s,u.oneCell'=true:=by
 intro u hu;simp only[dI,List.mem_cons,List.not_mem_nil,or_false]at hu;rcases hu with rfl|rfl|rfl|rfl|rfl|rfl <;> rfl
structure ApSt where
 gs:List GainR
 ss:List StepR
 fs:List LotV
 ex:Int
def dw(x:LotV)(b:Bs):Bs:=ofI (valI x.c-valI b)
def fZ(key:Bs)(n:Nat):Bs:=key++47 :: Lib.itoa (n:Int)
def EB(key:Bs):Bs:=key++[47,49]
def bE(N:Bs)(x:LotV)(p l:Bs):List GainR:=if p=[]∧l=[] then [] else [⟨x.id,x.acq,if N=[] then x.q else [],p,l⟩]
def fL(key:Bs)(s:ApSt)(n:Bs):Bs:=if n=[] then EB key else fZ key (s.fs.length+1)
def js(key other:Bs)(s:ApSt)(x:LotV)(n b:Bs):List LotV:=if n=[] then [] else [⟨fL key s n,other,x.acq,x.opn,n,b,n⟩]
def lW(key other:Bs)(s:ApSt)(x:LotV)(n b l:Bs):ApSt :=
 ⟨s.gs,(s.ss++[⟨x.id,fL key s n,x.q,n,b⟩])++(if l=[] then [] else [⟨x.id,[],[],[],l⟩]),s.fs++js key other s x n b,if n=[] then s.ex+valI b else s.ex⟩
def fz(N key other:Bs)(s:ApSt)(x:LotV)(n p b:Bs):ApSt :=
 let s1:ApSt:=⟨s.gs++bE N x p (dw x b),s.ss,s.fs,s.ex⟩
 if N=[] then⟨s1.gs,s1.ss++[⟨x.id,[],x.q,[],x.c⟩],s1.fs,s1.ex⟩ else lW key other s1 x n b (dw x b)
def bM(N key other:Bs)(ls:List LotV)(ns ps ks:List Bs):Nat→ApSt
 |0=>⟨[],[],[],0⟩
 |k+1=>match ls[k]?,ns[k]?,ps[k]?,ks[k]? with
  |some x,some n,some p,some b=>fz N key other (bM N key other ls ns ps ks k) x n p b
  |_,_,_,_=>bM N key other ls ns ps ks k
section
variable {N key other:Bs} {ls:List LotV} {ns ps ks:List Bs}
theorem ji{k:Nat}(h0:k<ls.length)(h1:k<ns.length)(h2:k<ps.length)(h3:k<ks.length) :
  bM N key other ls ns ps ks (k+1)=fz N key other (bM N key other ls ns ps ks k) (ls[k]'h0) (ns[k]'h1) (ps[k]'h2) (ks[k]'h3):=by
 rw[bM,List.getElem?_eq_getElem h0,List.getElem?_eq_getElem h1,List.getElem?_eq_getElem h2,List.getElem?_eq_getElem h3]
structure ApLen (s:ApSt) (k:Nat) (L:Nat):Prop where
 lg:s.gs.length≤k
 ls:s.ss.length≤2*k
 lf:s.fs.length≤k
 le:s.ex.natAbs<10 ^ (L+k)
theorem wm(N:Bs)(x:LotV)(p l:Bs):(bE N x p l).length≤1:=by unfold bE;split <;> simp
theorem wn{s:ApSt}{k L:Nat}(h:ApLen s k L){x:LotV}{n p b:Bs}(hb:b.length≤L):ApLen (fz N key other s x n p b) (k+1) L:=by
 obtain⟨h1,h2,h3,h4⟩:=h;have hg:=wm N x p (dw x b);have hp:s.ex.natAbs<10 ^ (L+(k+1)):=Nat.lt_of_lt_of_le h4 (Nat.pow_le_pow_right (by decide) (by omega))
 have hq:(s.ex+valI b).natAbs<10 ^ (L+(k+1)):=by
  have hv:(valI b).natAbs<10 ^ (L+k):=aF (by omega);exact Nat.lt_of_le_of_lt (Int.natAbs_add_le _ _) (gV h4 hv)
 unfold fz;split
 ·exact⟨by simp only[List.length_append];omega,by simp only[List.length_append,List.length_cons,List.length_nil];omega,by dsimp only;omega,hp⟩
 ·refine⟨by simp only[lW,List.length_append];omega,?_,?_,?_⟩
  ·simp only[lW,List.length_append,List.length_cons,List.length_nil];split <;> simp <;> omega
  ·simp only[lW,List.length_append,js];split <;> simp <;> omega
  ·simp only[lW];split
   ·exact hq
   ·exact hp
theorem gw{L:Nat}(hb:∀b ∈ ks,b.length≤L):∀k,ApLen (bM N key other ls ns ps ks k) k L
 |0=>⟨by simp[bM],by simp[bM],by simp[bM],by show(0:Int).natAbs<_;exact Nat.pow_pos (by decide)⟩
 |k+1=>by
  have h:=gw hb k;rw[bM];split
  ·rename_i x n p b e1 e2 e3 e4
   exact wn h (hb _ (List.mem_of_getElem? e4))
  ·obtain⟨h1,h2,h3,h4⟩:=h;exact⟨by omega,by omega,by omega,Nat.lt_of_lt_of_le h4 (Nat.pow_le_pow_right (by decide) (by omega))⟩
end
def dL(W0:World)(U V Z:Nat)(lp:Loop)(vl:Value)(key ins:Bs)(day:Int)(s:ApSt)(W:World):Prop :=
 ∃vg vs vf,ARB W0 U V Z lp vl vg vs vf (ofI s.ex) s.gs.length s.ss.length s.fs.length (s.gs.flatMap (dv key ins day)) (s.ss.flatMap (dI key)) (lots s.fs) W
theorem dL.on{W0 W W':World}{U V Z:Nat}{lp:Loop}{vl:Value}{key ins:Bs}{day:Int}{s:ApSt}(h:dL W0 U V Z lp vl key ins day s W)(hx:Ext W W'):dL W0 U V Z lp vl key ins day s W':=by
 obtain⟨vg,vs,vf,h⟩:=h;exact⟨vg,vs,vf,h.on hx⟩
end
section
open Go.RowKit
theorem fc{x:LotV}(h:ft x=false):x.q.length≤13∧x.c.length≤13∧x.u.length≤13∧x.id.length≤40∧x.ins.length≤40:=by
 unfold ft jr at h;simp only[Bool.or_eq_false_iff,decide_eq_false_iff_not]at h;omega
theorem d7{ls:List LotV}(h:bZ ls=false):ls.length≤1002∧∀x ∈ ls,ft x=false:=by
 unfold bZ kb at h;simp only[Bool.or_eq_false_iff,decide_eq_false_iff_not,List.any_eq_false,Bool.not_eq_true]at h;exact⟨by omega,h.2⟩
theorem jt{ls:List LotV}(h:bZ ls=false):∀x ∈ ls,bv x:=fun x hx=>by
 have:=fc ((d7 h).2 x hx);refine⟨?_,?_,?_,?_,?_⟩ <;> omega
theorem f7{ls:List LotV}{ins:Bs}{x:LotV}(h:x ∈ ap ls ins):x ∈ ls∧x.ins=ins:=by
 have:=List.mem_filter.1 h;exact⟨this.1,by simpa using this.2⟩
theorem tz{ls:List LotV}{ins:Bs}(h:aw ls=0)(hl:0<(ap ls ins).length):0<aJ ls ins:=by
 refine uQ _ ?_ (by rw[List.length_map];exact hl);intro v hv;obtain⟨x,hx,rfl⟩:=List.mem_map.1 hv;exact(fb ((di h).2 x (f7 hx).1)).2.2.1
theorem nR{ls:List LotV}{ins:Bs}(h:aw ls=0):0≤au ls ins:=by
 refine jU _ ?_;intro v hv;obtain⟨x,hx,rfl⟩:=List.mem_map.1 hv;exact(fb ((di h).2 x (f7 hx).1)).2.2.2.1
theorem yc{ls:List LotV}{ins:Bs}(h:aw ls=0):aJ ls ins=0↔(ap ls ins).length=0:=by
 constructor
 ·intro h0;rcases Nat.eq_zero_or_pos (ap ls ins).length with k|k
  ·exact k
  ·have:=tz h k;omega
 ·intro h0;have:=List.length_eq_zero_iff.1 h0;unfold aJ;rw[this];rfl
theorem nS{ls:List LotV}{ins:Bs}(h:aw ls=0):0≤aJ ls ins:=by
 rcases Nat.eq_zero_or_pos (ap ls ins).length with k|k
 ·have:=(yc (ins:=ins) h).2 k;omega
 ·have:=tz h k;omega
end
section
open Go.RowKit
theorem rh:∀(l:List LotV) (seen:List Bs),dP seen l=0→(l.map (·.id)).Nodup∧∀a ∈ l.map (·.id),a ∉ seen
 |[],_,_=>⟨by simp,by simp⟩
 |x :: r,seen,h=>by
  unfold dP at h;split at h
  ·rename_i hc;exact absurd h hc
  ·split at h
   ·cases h
   ·rename_i hm
    obtain⟨h1,h2⟩:=rh r _ h;refine⟨?_,?_⟩
    ·rw[List.map_cons,List.nodup_cons];exact⟨fun hx=>h2 _ hx (by simp),h1⟩
    ·intro a ha;rw[List.map_cons]at ha;rcases List.mem_cons.1 ha with e|h'
     ·rw[e];exact hm
     ·exact fun hs=>h2 a h' (by simp[hs])
theorem mV{ls:List LotV}(h:aw ls=0):(ls.map (·.id)).Nodup:=by
 unfold aw at h;split at h
 ·cases h
 ·exact(rh _ _ h).1
end
section
open Go.RowKit
theorem my:∀(l:List LotV) (seen:List Bs),(∀x ∈ l,bU x=0)→(l.map (·.id)).Nodup→(∀a ∈ l.map (·.id),a ∉ seen)→dP seen l=0
 |[],_,_,_,_=>rfl
 |x :: r,seen,h1,h2,h3=>by
  have e1:=h1 x (by simp);have e2:=h3 x.id (by simp);rw[List.map_cons,List.nodup_cons]at h2;unfold dP;rw[if_neg (by omega),if_neg e2];refine my r _ (fun y hy=>h1 y (List.mem_cons_of_mem _ hy)) h2.2 (fun a ha=>?_);rw[List.mem_append,List.mem_singleton];rintro(h|h)
  ·exact h3 a (by rw[List.map_cons];exact List.mem_cons_of_mem _ ha) h
  ·subst h;exact h2.1 ha
theorem uU(a b:List LotV)(ins:Bs):ap (a++b) ins=ap a ins++ap b ins:=by unfold ap;rw[List.filter_append]
theorem tA(a b:List LotV)(ins:Bs):aJ (a++b) ins=aJ a ins+aJ b ins:=by unfold aJ;rw[uU,List.map_append,List.sum_append]
theorem tB(a b:List LotV)(ins:Bs):au (a++b) ins=au a ins+au b ins:=by unfold au;rw[uU,List.map_append,List.sum_append]
theorem CG(x:LotV)(ins:Bs):aJ [x] ins=(if x.ins=ins then valI x.q else 0)∧au [x] ins=(if x.ins=ins then valI x.c else 0):=by
 unfold aJ au ap;by_cases h:x.ins=ins
 ·simp[h]
 ·simp[h]
end
section
open Go.RowKit
def eW(ls:List LotV)(ins:Bs):Nat→Nat
 |0=>0
 |n+1=>match ls[n]? with
  |some y=>if(Op.bytesLess y.ins ins || y.ins == ins)=true then n+1 else eW ls ins n
  |none=>eW ls ins n
theorem ny(ls:List LotV)(ins:Bs):∀n,eW ls ins n≤n
 |0=>Nat.le_refl _
 |n+1=>by
  have:=ny ls ins n;unfold eW;split
  ·split <;> omega
  ·omega
theorem AF{ls:List LotV}{ins:Bs}{k:Nat}(hk:k<ls.length)(h:(Op.bytesLess (ls[k]'hk).ins ins || (ls[k]'hk).ins == ins)=true):eW ls ins (k+1)=k+1:=by
 conv=>lhs;unfold eW
 rw[List.getElem?_eq_getElem hk];exact if_pos h
theorem yd{ls:List LotV}{ins:Bs}{k:Nat}(hk:k<ls.length)(h:(Op.bytesLess (ls[k]'hk).ins ins || (ls[k]'hk).ins == ins)=false):eW ls ins (k+1)=eW ls ins k:=by
 conv=>lhs;unfold eW
 rw[List.getElem?_eq_getElem hk];exact if_neg (by rw[h];decide)
theorem ye{ls:List LotV}{k:Nat}(x:LotV)(ins:Bs):aJ (bO ls k x) ins=aJ ls ins+(if x.ins=ins then valI x.q else 0)∧au (bO ls k x) ins=au ls ins+(if x.ins=ins then valI x.c else 0):=by
 obtain⟨h1,h2⟩:=CG x ins;have e1:aJ ls ins=aJ (ls.take k++ls.drop k) ins:=by rw[List.take_append_drop]
 have e2:au ls ins=au (ls.take k++ls.drop k) ins:=by rw[List.take_append_drop]
 rw[tA]at e1;rw[tB]at e2;unfold bO;simp only[tA,tB];rw[h1,h2];omega
theorem rj{ls:List LotV}{k:Nat}{x y:LotV}(h:y ∈ bO ls k x):y ∈ ls∨y=x:=by
 unfold bO at h;rw[List.mem_append,List.mem_append,List.mem_singleton]at h;rcases h with (h|h)|h
 ·exact .inl (List.mem_of_mem_take h)
 ·exact .inr h
 ·exact .inl (List.mem_of_mem_drop h)
theorem wu(ls:List LotV)(k:Nat)(x:LotV):(bO ls k x).Perm (x :: ls):=by
 have h:bO ls k x=ls.take k++x :: ls.drop k:=by simp[bO]
 rw[h];have:=List.perm_middle (a:=x) (l₁:=ls.take k) (l₂:=ls.drop k);rwa[List.take_append_drop]at this
theorem up{ls:List LotV}{k:Nat}{x:LotV}(hk:k≤ls.length)(hv:aw ls=0)(hx:bU x=0)(hf:(cr ls x.id).isSome=false)(hl:ls.length<1000):aw (bO ls k x)=0:=by
 obtain⟨h1,h2⟩:=di hv;have h3:=mV hv;unfold aw;rw[kQ hk,if_neg (by omega)];refine my _ _ (fun y hy=>?_) ?_ (fun _ _=>List.not_mem_nil)
 ·rcases rj hy with h|rfl
  ·exact h2 y h
  ·exact hx
 ·refine(((wu ls k x).map (·.id)).nodup_iff).2 ?_;rw[List.map_cons,List.nodup_cons];refine⟨fun hm=>?_,h3⟩;rw[(lO ls x.id).2 hm]at hf
  cases hf
end
end Go.Proofs.YthgpheopnhajaaaGreatDoor
