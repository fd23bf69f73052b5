/- The seat's texts, part Y32. -/
import Derived.Test.YtaegjkllenlfpaaGreatDoorY31
set_option maxRecDepth 100000
set_option maxHeartbeats 8000000
namespace Go.Proofs.YtaegjkllenlfpaaGreatDoor
open Tryz
variable {w' W:World}{cs xs:List Value}{pc:Nat}
section
open Go.RowKit
open Go.Maps (Keyed)
attribute [local go_sem] size_bs toList_bs
def jq(w:World)(kd:Int)(cs:List Value)(b:Bool):Prop:=match dK kd with
 |none=>b=false
 |some sp=>b=true∧jR w sp (.agg cs.toArray)
theorem jq.ext{w:World}{kd:Int}{b:Bool}(h:jq w kd cs b)(hx:Ext w w'):jq w' kd cs b:=by
 unfold jq at h ⊢;split
 ·rename_i e;rw[e]at h;exact h
 ·rename_i sp e;rw[e]at h;exact⟨h.1,h.2.ext hx⟩
theorem uP{D:DataW Value}{k:Lit}(hm:Maps.IsMap D)(h:Maps.has D k=false)(z:DataW Value):D.atKey k z=z:=by
 obtain⟨es,rfl⟩:=hm;rw[Maps.has_eq,PT]at h;unfold DataW.atKey;dsimp only;rw[R9.2 (fun p hp=>by simpa using h p hp)]
theorem uQ{w:World}{b n:Nat}{D:DataW Value}(h:bG w b n D)(hK:KindsAt w D)(kd:Int)(hwf:(Lit.int .i64 kd).wf=true) :
  ∃cs is,cs.length=17∧cs.toArray.all (·.oneCell')=true∧jq w kd cs is ∧
    ∀W n',bG W b n' D->(Instr.lookup 105 (.map (some b)) (.int .i64 kd) true).run prog W = .ok (.tuple #[.agg cs.toArray,.bool is]) W:=by
 have hkey:keyOf prog 3 (.int .i64 kd)=some (.int .i64 kd):=Go.Maps.keyOf_int_mk Pw hwf
 have run:∀(v0:Value) (is:Bool),Maps.has D (.int .i64 kd)=is->(D.atKey (.int .i64 kd) (.held (kv [] 0 bh (.map none) false)) = .held v0)->∀W n',bG W b n' D->(Instr.lookup 105 (.map (some b)) (.int .i64 kd) true).run prog W = .ok (.tuple #[v0,.bool is]) W:=by
  intro v0 is h1 h2 W n' hM;obtain⟨v,ps,h3,h4⟩:=hM.look_ok (t:=105) (e:=103) gF underlying105 (zeroValue103 W) (zd := .held (kv [] 0 bh (.map none) false)) (zp:=[]) rfl hkey;rw[h1]at h3;rw[h2]at h4;unfold RK at h4;injection h4 with h4
  injection h4 with h4 _
  injection h4 with h4
  subst h4;exact h3
 cases hk:dK kd with
 |none =>
  have hn:Maps.has D (.int .i64 kd)=false:=by
   cases hh:Maps.has D (.int .i64 kd)
   ·rfl
   ·obtain⟨k,h1,h2⟩:=hK.known kd hh;obtain⟨p,hp,e⟩:=MH.1 h1;exact absurd (by rw[h2,←e]) (uo hk p hp)
  refine⟨aH [] 0 bh (.map none) false,false,rfl,kk _ _ _ _ _ rfl,?_,run _ _ hn (uP h.isMap hn _)⟩;unfold jq;rw[hk]
 |some sp =>
  obtain⟨n',rfl,hp⟩:=pf hk;obtain⟨h1,v,h2,h3⟩:=hK.at_ _ hp;have hS:=h3;obtain⟨num,rfl,h4⟩:=h3;have hok:=un _ hp;unfold mb at hok;rw[MJ,Np]at hok;refine⟨aH sp.word sp.cl sp.bits num sp.code,true,gj _ _ _ _ _ hok.1,kk _ _ _ _ _ ?_,?_,run _ _ h1 (h2 _)⟩
  ·dsimp only at h4;split at h4
   ·rw[h4];rfl
   ·obtain⟨b,rfl,_⟩:=h4;rfl
  ·unfold jq;rw[hk];exact⟨rfl,hS⟩
theorem jR.over{w:World}{sp:KSp}{v:Value}(h:jR w sp v){P:Nat}(hP:Blk w P 103 xs.toArray)(ys:List Value):jR (w.setCells P 0 ys) sp v:=by
 have ho:Only P w (w.setCells P 0 ys):=Only.sets ys 0 w w (Mh P w);obtain⟨num,h1,h2⟩:=h;refine⟨num,h1,?_⟩
 cases hn:sp.nums with
 |none=>rw[hn]at h2;exact h2
 |some es =>
  rw[hn]at h2;obtain⟨b,h3,n,D,h4,h5,h6,h7⟩:=h2;refine⟨b,h3,n,D,h4.only ho (fun e=>zl hP h4 e.symm),h5,h6,fun e he=>?_⟩;obtain⟨g0,v,g1,l1,l2,l3,l4,l5⟩:=h7 e he
  have ne:∀ {g:Nat} {u:Value},Blk w g 4 #[u]->g≠P:=fun {g u} hg e=>by
   have a1:w.heap[g]? = some (Obj.cells #[u] 4 (0,0)):=hg;have a2:w.heap[P]? = some (Obj.cells xs.toArray 103 (0,0)):=hP;rw[e,a2]at a1;injection a1 with a1
   injection a1 with _ a1
   cases a1
  exact⟨g0,v,g1,l1,l2,l3,(ho.block _ l4.lt (by simpa using ne l4)).trans l4,(ho.block _ l5.lt (by simpa using ne l5)).trans l5⟩
theorem jq.over{w:World}{kd:Int}{b:Bool}(h:jq w kd cs b){P:Nat}(hP:Blk w P 103 xs.toArray)(ys:List Value):jq (w.setCells P 0 ys) kd cs b:=by
 unfold jq at h ⊢;split
 ·rename_i e;rw[e]at h;exact h
 ·rename_i sp e;rw[e]at h;exact⟨h.1,h.2.over hP ys⟩
def LW(W:World)(kd:Int)(p3 p4:Value)(wx:World):Prop:=∃P cs b,p3 = .pointer (some ⟨P,0,none⟩)∧p4 = .bool b∧cs.length=17∧jq wx kd cs b∧Blk wx P 103 cs.toArray∧Ext W wx
structure FactP (f:FactV) (ps:List Fr) (os:List OptV) (e:Int):Prop where
 n:isName f.key=false->e=23
 s:isName f.key=true->f.stamp<0->e=2
 c1:isName f.key=true->¬ f.stamp<0->f.canc=true->fG f.day f.kind f.choice f.ins f.other f.cur f.tgt f.qty f.amt f.fee f.price.num f.price.den f.ratio.num f.ratio.den f.share.num f.share.den ps.length os.length=true->e=0
 c2:isName f.key=true->¬ f.stamp<0->f.canc=true->fG f.day f.kind f.choice f.ins f.other f.cur f.tgt f.qty f.amt f.fee f.price.num f.price.den f.ratio.num f.ratio.den f.share.num f.share.den ps.length os.length=false->e=1
 d:isName f.key=true->¬ f.stamp<0->f.canc=false->f.day < -25567∨84005<f.day->e=13
 k0:isName f.key=true->¬ f.stamp<0->f.canc=false->¬ (f.day < -25567∨84005<f.day)->dK f.kind=none->e=7
 k1:isName f.key=true->¬ f.stamp<0->f.canc=false->¬ (f.day < -25567∨84005<f.day)->∀sp,dK f.kind=some sp->e=dg (eO f ps os sp) 13
theorem KU(f:FactV)(ps:List Fr)(os:List OptV):FactP f ps os (cr f ps os):=by
 refine⟨fun a=>?_,fun a b=>?_,fun a b c d=>?_,fun a b c d=>?_,fun a b c d=>?_,fun a b c d e=>?_,fun a b c d sp e=>?_⟩
 ·unfold cr;rw[Mq a]
 ·unfold cr;rw[Mj (by rw[a];decide),Mq b]
 ·unfold cr;rw[Mj (by rw[a];decide),Mj b,Mq c,Mq d]
 ·unfold cr;rw[Mj (by rw[a];decide),Mj b,Mq c,Mj (by rw[d];decide)]
 ·unfold cr;rw[Mj (by rw[a];decide),Mj b,Mj (by rw[c];decide),Mq d]
 ·unfold cr;rw[Mj (by rw[a];decide),Mj b,Mj (by rw[c];decide),Mj d,e]
 ·unfold cr;rw[Mj (by rw[a];decide),Mj b,Mj (by rw[c];decide),Mj d,e]
structure LoopAt (W:World) (f:FactV) (ps:List Fr) (os:List OptV) (pa oa:Option Addr) (pc oc:Nat) (sp:KSp) (cs:List Value):Prop where
 bit:∀k,k<13->cs.toArray[2+k]? = some (.bool (sp.bits.getD k false))
 has:∀k,k<13->sp.bits.getD k false=true->∀W',Ext W W'->zE f (ae pa ps.length pc) (ae oa os.length oc) cs.toArray k (eO f ps os sp k) W'
 no:∀k,k<13->sp.bits.getD k false=false->(dN f ps.length os.length k=true->eO f ps os sp k=0)∧(dN f ps.length os.length k=false->eO f ps os sp k=1)
theorem IA{f:FactV}{ps:List Fr}{os:List OptV}{pa oa:Option Addr}(oc:Nat){sp:KSp}(hA:FactAt W f ps os pa oa pc)(hE:Env W)(hok:mb sp=true)(hS:jR W sp (.agg cs.toArray)):LoopAt W f ps os pa oa pc oc sp cs:=by
 refine⟨fun k hk=>?_,fun k hk hb W' hx=>?_,fun k hk hb=>⟨fun h=>?_,fun h=>?_⟩⟩
 ·obtain⟨num,hkv,_⟩:=hS;injection hkv with hkv
  have hok':=hok;unfold mb at hok';rw[MJ,Np]at hok';rw[hkv,qu _ _ _ _ _ _ (by omega),NJ,Mr (by omega)];rfl
 ·have:=zF (oc:=oc) (hA.ext hx) (hE.ext hx) hok (hS.ext hx) rfl hk hb;have e:eO f ps os sp k=gz f ps os sp k:=by unfold eO;rw[Mq hb]
  rw[e];exact this
 ·unfold eO;rw[Mj (by rw[hb];decide),Mq h]
 ·unfold eO;rw[Mj (by rw[hb];decide),Mj (by rw[h];decide)]
theorem xd(f:FactV)(ps:List Fr)(os:List OptV)(pa oa:Option Addr)(pc oc:Nat)(w:World)(hA:FactAt w f ps os pa oa pc)(hwf:(Lit.int .i64 f.kind).wf=true)(hE:Env w) :
  Calls prog 15 #[aC f (ae pa ps.length pc) (ae oa os.length oc)] w fun e w'=>e = .returned (.int .i64 (cr f ps os))∧Ext w w':=by
 have HE:=qh hE;have HA:=qh hA;have HWF:=qh hwf;have hp:=KU f ps os;have P1:=qh hp.n;have P2:=qh hp.s;have P3:=qh hp.c1;have P4:=qh hp.c2;have P5:=qh hp.d;have P6:=qh hp.k0;have P7:=qh hp.k1;have hkl:=hA.sm.key;have HN:=qh (gc f.key (w.alloc (.cells (ag f (ae pa ps.length pc) (ae oa os.length oc)) 30)) (by omega));have HSm:=qh (fun hc W=>Iz f pa oa ps.length pc os.length oc hc W);generalize cr f ps os=res at *;generalize fG f.day f.kind f.choice f.ins f.other f.cur f.tgt f.qty f.amt f.fee f.price.num f.price.den f.ratio.num f.ratio.den f.share.num f.share.den ps.length os.length=sz at *;generalize isName f.key=nm at *;obtain⟨P,hP⟩:∃P,P=ae pa ps.length pc:=⟨_,rfl⟩;obtain⟨O,hO⟩:∃O,O=ae oa os.length oc:=⟨_,rfl⟩;rw[←hP,←hO]at HN HSm ⊢;have HPO:=qh (MC hP hO);have KI:=qh (fun W=>zA W);have HB:=qh (ID w 30 (ag f P O));have HX:Hid (Ext w (w.alloc (.cells (ag f P O) 30))):=qh (Id _ _);clear hA hE hp hkl hwf hP hO;go_enter func15,ntmps15;obtain⟨x0,x1,x2,x3,x4,x5,x6,x7,x8,x9,x10,x11,x12,x13,x14,x15,x16,x17,x18,x19,x20⟩:=aj HB.out (iD _);go_wp2_with fail;refine(HN.out).mono ?_;rintro e W⟨rfl,hx1⟩;replace HB:=qh (HB.out.ext hx1);replace HX:=HX.qt hx1;clear hx1;clear x0 x1 x2 x3 x4 x5 x6 x7 x8 x9 x10 x11 x12 x13 x14 x15 x16 x17 x18 x19 x20;clear HN
 cases nm
 ·have e0:=P1.out (by trivial);subst e0;clear P1 P2 P3 P4 P5 P6 P7;go_wp2_with fail;go_ret;exact⟨rfl,HX.out⟩
 replace P2:=qh (P2.out (by trivial));replace P3:=qh (P3.out (by trivial));replace P4:=qh (P4.out (by trivial));replace P5:=qh (P5.out (by trivial));replace P6:=qh (P6.out (by trivial));replace P7:=qh (P7.out (by trivial));clear P1;obtain⟨x0,x1,x2,x3,x4,x5,x6,x7,x8,x9,x10,x11,x12,x13,x14,x15,x16,x17,x18,x19,x20⟩:=aj HB.out (iD _);by_cases hs:f.stamp<0
 ·have g:decide (f.stamp<0)=true:=Pz hs;have e0:=P2.out hs;subst e0;clear P2 P3 P4 P5 P6 P7 hs;go_wp2_with fail;go_ret;exact⟨rfl,HX.out⟩
 have g:decide (f.stamp<0)=false:=Nv hs;have hs':0<=f.stamp:=by omega
 replace P3:=qh (P3.out (by simpa using hs'));replace P4:=qh (P4.out (by simpa using hs'));replace P5:=qh (P5.out (by simpa using hs'));replace P6:=qh (P6.out (by simpa using hs'));replace P7:=qh (P7.out (by simpa using hs'));clear P2 hs hs';have hs1:(prog.info? 30).map (·.size)=some (ag f P O).toList.length:=by kernel_rfl
 have hrg:=aL HB.out;by_cases hc:f.canc=true
 ·replace HSm:=qh (HSm.out hc);replace P3:=qh (P3.out hc);replace P4:=qh (P4.out hc);rw[hc]at x2;clear P5 P6 P7 hc;go_wp2_with (first|refine Oh rfl 30 _ rfl w.heap.size 0 rfl _ _ hrg M3 rfl hs1 ?_|fail);refine(HSm.out _).mono ?_;rintro e v1⟨rfl,hx1⟩;replace HX:=HX.qt hx1;clear hx1
  cases sz
  focus have e0:=P4.out (by trivial)
  rotate_left
  focus have e0:=P3.out (by trivial)
  all_goals
   subst e0;clear P3 P4;go_wp2_with fail;go_ret;exact⟨rfl,HX.out⟩
 have hc':f.canc=false:=by simpa using hc
 rw[hc']at x2;replace P5:=qh (P5.out hc');replace P6:=qh (P6.out hc');replace P7:=qh (P7.out hc');clear P3 P4 HSm hc hc' hrg;by_cases h1:f.day < -25567
 ·have g1:decide (f.day < -25567)=true:=Pz h1;have e0:=P5.out (.inl h1);subst e0;clear P5 P6 P7 h1;go_wp2_with fail;go_ret;exact⟨rfl,HX.out⟩
 by_cases h2:84005<f.day
 ·have g1:decide (f.day < -25567)=false:=Nv h1;have g2:decide (84005<f.day)=true:=Pz h2;have e0:=P5.out (.inr h2);subst e0;clear P5 P6 P7 h1 h2;go_wp2_with fail;go_ret;exact⟨rfl,HX.out⟩
 have g1:decide (f.day < -25567)=false:=Nv h1;have g2:decide (84005<f.day)=false:=Nv h2;have hday:Hid (¬ (f.day < -25567∨84005<f.day)):=qh (by omega);replace P6:=qh (P6.out hday.out);replace P7:=qh (P7.out hday.out);clear P5 h1 h2 hday;go_upto_region 11 with fail;go_cut [3,4] (fun p3 p4 wx=>LW W f.kind p3 p4 wx)
 case first =>
  clear HE HA x0 x1 x2 x3 x5 x6 x7 x8 x9 x10 x11 x12 x13 x14 x15 x16 x17 x18 x19 x20 P6 P7 g g1 g2;have y4:W.drew.cell? ⟨w.heap.size,4,none⟩=some (.int .i64 f.kind):=x4;refine QU (S:=fun w'=>w'.cell? ⟨w.heap.size,4,none⟩=some (.int .i64 f.kind)) (by kernel_rfl) x4 (fun hHeld=>?_);refine tk 1 (.pointer (some ⟨w.heap.size,4,none⟩)) rfl (by kernel_rfl) (fun _ _ _ h=>h) (NB ⟨by rfl,?_⟩) (by assumption) ?_
  ·intro w hSw;(try dsimp only at hSw)
   go_simp
  (try simp only[p4])
  refine tk 2 (.int .i64 f.kind) rfl (by kernel_rfl) (fun _ _ _ h=>h) (NB ⟨by rfl,?_⟩) (by assumption) ?_
  ·intro w hSw;(try dsimp only at hSw)
   go_simp
  (try simp only[p4])
  refine Nn (rs:=[0,7]) (by kernel_rfl) (by simp) ?_;refine M9 rfl (fun K hK=>?_) (M9 rfl (fun K hK=>?_) (Ni))
  ·go_simp;refine(KI.out _).mono ?_;rintro e w1⟨b,n,D,rfl,hM,hK2,hx⟩;obtain⟨cs,is,hcl,hoc,hR,hL⟩:=uQ hM hK2 f.kind HWF.out;have HR1:=qh hR;have L1:=hL _ _ hM;have L2:=hL _ _ (hM.ext (Id w1 (.cells #[.string ⟨#[]⟩,.int .i64 0,.bool false,.bool false,.bool false,.bool false,.bool false,.bool false,.bool false,.bool false,.bool false,.bool false,.bool false,.bool false,.bool false,.map none,.bool false] 103)));have y5:=(aj HB.out ((iD W).drew.trans hx)).2.2.2.2.1;have BN:=qh (ID w1 103 (aH [] 0 bh (.map none) false).toArray);have HZ:Hid (Ext W (w1.alloc (.cells (aH [] 0 bh (.map none) false).toArray 103))):=qh (((iD W).drew.trans hx).alloc _);have HR:=qh (HR1.out.ext (Id w1 (.cells (aH [] 0 bh (.map none) false).toArray 103)));have hs2:(prog.info? 103).map (·.size)=some cs.toArray.size:=by rw[Nh,hcl];kernel_rfl
   have y6:=(aj HB.out HZ.out).2.2.2.2.1;have hle:Hid (W.heap.size<=w1.heap.size):=qh hx.size;clear hM hK2 hx hL hR HR1;refine hK.out _ _ y5 (fun hHeld=>?_);clear hK K;(try simp only[p4])
   refine Nn (rs:=[3,7]) (by kernel_rfl) (by simp) ?_;refine M9 rfl (fun K hK=>?_) (M9 rfl (fun K hK=>?_) (Ni))
   focus
    go_simp;refine hK.out _ _ y5 (fun hHeld=>?_);clear hK K;(try simp only[p4])
    refine tk 4 (.tuple #[.agg cs.toArray,.bool is]) rfl (by kernel_rfl) (fun _ _ _ h=>h) (NB ⟨by rfl,?_⟩) (by assumption) ?_
    ·intro w hSw;(try dsimp only at hSw)
     go_simp
    (try simp only[p4])
    refine tk 5 (.agg cs.toArray) rfl (by kernel_rfl) (fun _ _ _ h=>h) (NB ⟨by rfl,?_⟩) (by assumption) ?_
    ·intro w hSw;(try dsimp only at hSw)
     go_simp
    (try simp only[p4])
    refine tk 6 (.bool is) rfl (by kernel_rfl) (fun _ _ _ h=>h) (NB ⟨by rfl,?_⟩) (by assumption) ?_
    ·intro w hSw;(try dsimp only at hSw)
     go_simp
    (try simp only[p4])
    refine Nn (rs:=[7]) (by kernel_rfl) (by simp) ?_;refine M9 rfl (fun K hK=>?_) (Ni);go_simp;refine hK.out _ _ y6 (fun hHeld=>?_);clear hK K
   rotate_left
   focus
    go_simp;refine hK.out _ _ y6 (fun hHeld=>?_);clear hK K;(try simp only[p4])
    refine Nn (rs:=[3]) (by kernel_rfl) (by simp) ?_;refine M9 rfl (fun K hK=>?_) (Ni);go_simp;refine hK.out _ _ y6 (fun hHeld=>?_);clear hK K;(try simp only[p4])
    refine tk 4 (.tuple #[.agg cs.toArray,.bool is]) rfl (by kernel_rfl) (fun _ _ _ h=>h) (NB ⟨by rfl,?_⟩) (by assumption) ?_
    ·intro w hSw;(try dsimp only at hSw)
     go_simp
    (try simp only[p4])
    refine tk 5 (.agg cs.toArray) rfl (by kernel_rfl) (fun _ _ _ h=>h) (NB ⟨by rfl,?_⟩) (by assumption) ?_
    ·intro w hSw;(try dsimp only at hSw)
     go_simp
    (try simp only[p4])
    refine tk 6 (.bool is) rfl (by kernel_rfl) (fun _ _ _ h=>h) (NB ⟨by rfl,?_⟩) (by assumption) ?_
    ·intro w hSw;(try dsimp only at hSw)
     go_simp
   all_goals
    (try simp only[p4])
    refine Nn (rs:=[8]) (by kernel_rfl) (by simp) ?_;refine M9 rfl (fun K hK=>?_) (Ni);have hth:=eW BN.out (n:=cs.toArray.size) (by rw[Nh,hcl];rfl);rw[Mq (by rfl)];refine wp_store_mid 103 _ _ rfl w1.heap.size 0 cs.toArray rfl rfl hth hs2 hoc ?_;have O:=qh (fK BN.out (ys:=cs) (by rw[hcl];rfl));have HS:=qh (ext_sets cs 0 _ () HZ.out hle.out);have HR2:=qh (HR.out.over BN.out cs);refine hK.out _ _ ((aj HB.out HS.out).2.2.2.2.1) (fun hHeld=>?_);clear hK K;(try simp only)
    refine tk 9 (.bool is) rfl (by kernel_rfl) (fun _ _ _ h=>h) (NB ⟨by rfl,?_⟩) (by assumption) ?_
    ·intro w hSw;(try dsimp only at hSw)
     go_simp
    (try simp only[p4])
    refine Rs (by kernel_rfl) ?_ _;go_wp2_with fail;go_meet
    exact⟨_,cs,is,rfl,rfl,hcl,HR2.out,O.out,HS.out⟩
  ·go_simp;have HZ0:Hid (Ext W (W.drew.alloc (.cells (aH [] 0 bh (.map none) false).toArray 103))):=qh ((iD W).drew.alloc _);have y5:=(aj HB.out HZ0.out).2.2.2.2.1;refine hK.out _ _ y5 (fun hHeld=>?_);clear hK K;(try simp only[p4])
   refine Nn (rs:=[0]) (by kernel_rfl) (by simp) ?_;refine M9 rfl (fun K hK=>?_) (Ni);go_simp;refine(KI.out _).mono ?_;rintro e w1⟨b,n,D,rfl,hM,hK2,hx⟩;obtain⟨cs,is,hcl,hoc,hR,hL⟩:=uQ hM hK2 f.kind HWF.out;have L1:=hL _ _ hM;have HZ:Hid (Ext W w1):=HZ0.qt hx;have BN:Hid (Blk w1 W.heap.size 103 (aH [] 0 bh (.map none) false).toArray):=qh ((ID W.drew _ _).ext hx);have HR:=qh hR;have hs2:(prog.info? 103).map (·.size)=some cs.toArray.size:=by rw[Nh,hcl];kernel_rfl
   have y6:=(aj HB.out HZ.out).2.2.2.2.1;clear hM hK2 hx hL hR;refine hK.out _ _ y6 (fun hHeld=>?_);clear hK K;(try simp only[p4])
   refine Nn (rs:=[3]) (by kernel_rfl) (by simp) ?_;refine M9 rfl (fun K hK=>?_) (Ni);go_simp;refine hK.out _ _ y6 (fun hHeld=>?_);clear hK K;(try simp only[p4])
   refine tk 4 (.tuple #[.agg cs.toArray,.bool is]) rfl (by kernel_rfl) (fun _ _ _ h=>h) (NB ⟨by rfl,?_⟩) (by assumption) ?_
   ·intro w hSw;(try dsimp only at hSw)
    go_simp
   (try simp only[p4])
   refine tk 5 (.agg cs.toArray) rfl (by kernel_rfl) (fun _ _ _ h=>h) (NB ⟨by rfl,?_⟩) (by assumption) ?_
   ·intro w hSw;(try dsimp only at hSw)
    go_simp
   (try simp only[p4])
   refine tk 6 (.bool is) rfl (by kernel_rfl) (fun _ _ _ h=>h) (NB ⟨by rfl,?_⟩) (by assumption) ?_
   ·intro w hSw;(try dsimp only at hSw)
    go_simp
   (try simp only[p4])
   refine Nn (rs:=[8]) (by kernel_rfl) (by simp) ?_;refine M9 rfl (fun K hK=>?_) (Ni);have hth:=eW BN.out (n:=cs.toArray.size) (by rw[Nh,hcl];rfl);rw[Mq (by rfl)];refine wp_store_mid 103 _ _ rfl W.heap.size 0 cs.toArray rfl rfl hth hs2 hoc ?_;have O:=qh (fK BN.out (ys:=cs) (by rw[hcl];rfl));have HS:=qh (ext_sets cs 0 _ () HZ.out (Mn _));have HR2:=qh (HR.out.over BN.out cs);refine hK.out _ _ ((aj HB.out HS.out).2.2.2.2.1) (fun hHeld=>?_);clear hK K;(try simp only)
   refine tk 9 (.bool is) rfl (by kernel_rfl) (fun _ _ _ h=>h) (NB ⟨by rfl,?_⟩) (by assumption) ?_
   ·intro w hSw;(try dsimp only at hSw)
    go_simp
   (try simp only[p4])
   refine Rs (by kernel_rfl) ?_ _;go_wp2_with fail;go_meet
   exact⟨_,cs,is,rfl,rfl,hcl,HR2.out,O.out,HS.out⟩
 case rest =>
  obtain⟨Q,cs,is,rfl,rfl,hcl,hR,hk,hx⟩:=hcut;clear x0 x1 x2 x3 x4 x5 x6 x7 x8 x9 x10 x11 x12 x13 x14 x15 x16 x17 x18 x19 x20;replace HX:=HX.qt hx;replace HB:=qh (HB.out.ext hx);have HK:=qh hk;have HR:=qh hR;clear hk hx hR KI g g1 g2;unfold jq at HR
  cases hks:dK f.kind with
  |none =>
   rw[hks]at HR;have h3:is=false:=HR.out;subst h3;have e0:=P6.out hks;subst e0;clear P6 P7 hks HR;go_wp2_with fail;go_ret;exact⟨rfl,HX.out⟩
  |some sp =>
   rw[hks]at HR;obtain⟨h3,h4⟩:is=true∧jR wc sp (.agg cs.toArray):=HR.out;subst h3;have e0:=P7.out sp hks;obtain⟨n',_,hmem⟩:=pf hks;have HL:=qh (IA oc (HA.out.ext HX.out) (HE.out.ext HX.out) (un _ hmem) h4);clear P6 P7 hks HR h4 hmem;have HR0:=qh e0;clear e0;generalize hfe:eO f ps os sp=fe at *;have HHit:Hid (∀k,k<13->(∀j,j<k->fe j=0)->fe k≠0->res=fe k):=qh (fun k hk h1 h2=>HR0.out.trans (iW h1 h2 hk));have HOK:Hid ((∀j,j<13->fe j=0)->res=0):=qh (fun h=>HR0.out.trans (fC h));clear HR0;have HBit:Hid (∀k,k<13->cs.toArray[2+k]? = some (.bool (sp.bits.getD k false))):=qh HL.out.bit
   have HHas:Hid (∀k,k<13->sp.bits.getD k false=true->∀W',Ext wc W'->Calls prog 64 #[aC f P O,.agg cs.toArray,.int .i64 (k:Nat)] W' fun e w'=>e = .returned (.int .i64 (fe k))∧Ext W' w'):=qh (fun k hk hb W' hx=>by
    have h:=HL.out.has k hk hb W' hx;rw[←HPO.out.1,←HPO.out.2,hfe]at h;exact h)
   have HNo:Hid (∀k,k<13->sp.bits.getD k false=false->(dN f ps.length os.length k=true->fe k=0)∧(dN f ps.length os.length k=false->fe k=1)):=qh (fun k hk hb=>by
    have h:=HL.out.no k hk hb;rw[hfe]at h;exact h)
   have HEmp:Hid (∀k,k<13->∀W',Calls prog 65 #[aC f P O,.int .i64 (k:Nat)] W' fun e w'=>e = .returned (.bool (dN f ps.length os.length k))∧Ext W' w'):=qh (fun k hk W'=>by
    have h:=vS f pa oa ps.length pc os.length oc W' hk;rw[←HPO.out.1,←HPO.out.2]at h;exact h)
   clear HL hfe HPO HA HE HWF hs1;generalize sp.bits=bits at *;have hs1:(prog.info? 30).map (·.size)=some (ag f P O).toList.length:=by kernel_rfl
   have hs3:(prog.info? 103).map (·.size)=some cs.length:=by rw[hcl];kernel_rfl
   clear hcl;go_wp2_with fail;go_loopw [41,5,6] (fun i _ _ wr=>∃k:Nat,k<=13∧i = .int .i64 k∧(∀j,j<k->fe j=0)∧Ext wc wr) (fun i _ _ _=>13-(intOf i).toNat)
   case atStart=>exact⟨0,by omega,rfl,fun j hj=>absurd hj (by omega),iD _⟩
   case round =>
    obtain⟨k,hk,rfl,hz,hx⟩:=hrel;replace HX:=HX.qt hx;replace HB:=qh (HB.out.ext hx);replace HK:=qh (HK.out.ext hx);have HLo:=qh hx;have HZ:=qh hz;clear hx hz;by_cases hlt:k<13
    ·have hki:(k:Int)<13:=by omega
     have hk0:(0:Int)<=(k:Int):=by omega
     have q:=HK.out.cell (2+k);rw[HBit.out k hlt]at q;have hrg:=aL HB.out;have hrk:=j5 HK.out;have hit:=qh (HHit.out k hlt HZ.out)
     have nxt:Hid (fe k=0->∀j,j<k+1->fe j=0):=qh (fun h j hj=>by
      by_cases e:j=k
      ·subst e;exact h
      ·exact HZ.out j (by omega))
     cases hb:bits.getD k false
     ·rw[hb]at q;have HC:=qh (HEmp.out k hlt wr);have hno:=qh (HNo.out k hlt hb);clear HHit HOK HBit HHas HNo HEmp hb;generalize dN f ps.length os.length k=em at *;generalize fe k=r at *;go_wp2_with (first|refine Oh rfl 30 _ rfl w.heap.size 0 rfl _ _ hrg M3 rfl hs1 ?_|fail);refine HC.out.mono ?_;rintro e v1⟨rfl,hx1⟩;replace HX:=HX.qt hx1;replace HLo:=HLo.qt hx1;clear hx1 hrg hrk q
      cases em
      ·have e0:=hno.out.2 (by trivial);have e1:=hit.out (by rw[e0];decide);rw[e0]at e1;subst e1;clear hno hit nxt;go_wp2_with fail;go_ret;exact⟨rfl,HX.out⟩
      ·have e0:=hno.out.1 (by trivial);have hz1:=qh (nxt.out e0);clear hno hit nxt e0;go_wp2_with fail;exact⟨⟨k+1,by omega,by go_num,hz1.out,HLo.out⟩,by simp[intOf];omega⟩
     ·rw[hb]at q;have HC:=qh (HHas.out k hlt hb wr HLo.out);clear HHit HOK HBit HHas HNo HEmp hb;generalize fe k=r at *;go_wp2_with (first|refine Oh rfl 30 _ rfl w.heap.size 0 rfl _ _ hrg M3 rfl hs1 ?_|refine Oh rfl 103 _ rfl Q 0 rfl _ _ hrk Q8 rfl hs3 ?_|fail);refine HC.out.mono ?_;rintro e v1⟨rfl,hx1⟩;replace HX:=HX.qt hx1;replace HLo:=HLo.qt hx1;clear hx1 hrg hrk q;by_cases hr:r=0
      ·have hz1:=qh (nxt.out hr);subst hr;clear hit nxt;go_wp2_with fail;exact⟨⟨k+1,by omega,by go_num,hz1.out,HLo.out⟩,by simp[intOf];omega⟩
      ·have g5:(r != 0)=true:=by rw[Nc];exact hr
       have e1:=hit.out hr;subst e1;clear hit nxt;go_wp2_with fail;go_ret;exact⟨rfl,HX.out⟩
    ·obtain rfl:k=13:=by omega
     have e0:=HOK.out HZ.out;subst e0;clear HHit HOK HBit HHas HNo HEmp HZ hlt;go_wp2_with fail;go_ret;exact⟨rfl,HX.out⟩
end
section
open Go.RowKit Go.BigFrame
section
variable {F:Fence} {n:Nat} {P:Program} {ops:Array Oper} {Q:Exit->Act->World->Prop} {a:Act} {w:World} {rest:List Oper} {o:Oper}
theorem lm(hfn:∀k,F.fn k)(hg:o.guard=none)(ty:TypeId)(x y:Operand)(ho:o.op = .store ty x y)(p v:Value)(hx:a.eval x=p)(hy:a.eval y=v)(w':World)
  (hrun:(Instr.storeAt ty p v).run P w = .ok () w') (h:wpListIn F n P ops Q rest (a.put o.dst undef) w'):wpListIn F n P ops Q (o :: rest) a w:=by
 refine wpListIn_plain hg fun K hK=>?_
 unfold Oper.wpIn;refine⟨fun f _=>hfn f,?_⟩;rw[oT (by rw[ho];rfl)];unfold execOp;simp only[ho,hx,hy,Sem.run_bind,hrun,Result.andThen_ok];exact hK _ _ h
end
end
section
open Go.RowKit Go.Shelf
attribute [local go_sem] size_bs toList_bs Oper.semAt_some
def gu(rest:List LotV)(gs:List GainV)(ss:List StepV)(w:World)(e:Ending)(w':World):Prop:=∃A c B d C k,e = .returned (.tuple #[.agg #[.slice A rest.length c,.slice B gs.length d,.slice C ss.length k,.slice none 0 0],.int .i64 0])∧aK w' A rest∧dM w' B gs∧oS w' C ss∧Ext w w'
def dz(t:Bs)(xs:List LotV):List Bs:=(bZ (valI t) ((xs.map (·.q)).map valI)).map ofI
theorem ft(t:Bs)(xs:List LotV):(dz t xs).length=xs.length:=by simp[dz,mv]
def DJ(W0:World)(U:Nat)(lp:Loop)(vl:Value)(f:FactV)(xs:List LotV)(pr:List Bs)(k:Nat)(W:World):Prop:=∃vg vs,RD W0 U lp vl vg vs (cG f.key f.ins f.day (xs.take k) (pr.take k)) (cQ f.key (xs.take k)) W
theorem uR(ls:List LotV)(ps:List Fr)(f:FactV)(P O:Value)(t:Bs)(kc kp:Nat)(cb pb:Array Value)(ec:∀args w,(callFunc kc args).run prog w = .ok (.enter kc args) w)(ep:∀args w,(callFunc kp args).run prog w = .ok (.enter kp args) w)
  (A:Option Addr) (c:Nat) (w:World) (hE:Env w) (hA:aK w A ls) (hs:∀x ∈ ls,SmallL x) (hall:checkAllL ls=0) (hp:PickIn ls f.ins ps) (h0:0<ps.length) (ht:t.length<=3000) (htc:checkI t=0)
  (hC:∀W,Ext w W->Calls prog kc cb W fun e w'=>∃A' c',e = .returned (.tuple #[.slice A' ps.length c',.int .i64 0])∧eH w' A' ps∧ps.length<=c'∧Ext W w')
  (hP:∀W A' c',Ext w W->aK W A' (aI ls ps).2->Calls prog kp (#[.slice A' (aI ls ps).2.length c']++pb) W fun e w'=>e = .returned (.string (bs t))∧Ext W w') :
  Calls prog 58 #[.slice A ls.length c,aC f P O,.func (.func kc) #[] cb,.func (.func kp) #[] pb] w (gu (aI ls ps).1 (cG f.key f.ins f.day (aI ls ps).2 (dz t (aI ls ps).2)) (cQ f.key (aI ls ps).2) w):=by
 have hfn:∀k,Fence.wide.fn k:=fun _=>trivial
 have hdp:Fence.wide.depth.isSome=false:=rfl;have hlen:=iA hall hp;have hle:(ofL ls f.ins).length<=ls.length:=M8 _ _;have hck:=av hall;have hpl:=hp.len;have hx1000:(aI ls ps).2.length<=1000:=by omega
 have hx0:0<(aI ls ps).2.length:=by omega
 have HWT:=qh (pL hall hp h0);have htk:=fun A PA c pc hpc W hE hA hP=>xb ls ps hp.ok hs hall (by omega) (fun p hq=>by have:=hp.short p hq;omega) A PA c pc hpc W hE hA hP
 unfold oD at htk;have HE:=qh hE;have HA:=qh hA;have HC:=qh hC;have HPP:=qh hP;have HTC:=qh htc;clear hE hA hC hP hs hall hp h0 htc hlen hle hck hpl;generalize (aI ls ps).2=xs at *;generalize (aI ls ps).1=rs at *;have HTK:=qh htk;clear htk;have HB0:Hid (Blk ((w.alloc (.cells (ag f P O) 30)).alloc (.cells #[.slice none 0 0,.slice none 0 0,.slice none 0 0,.slice none 0 0] 39)) w.heap.size 30 (ag f P O)):=qh ((ID _ _ _).alloc _);have HR0:Hid (Blk ((w.alloc (.cells (ag f P O) 30)).alloc (.cells #[.slice none 0 0,.slice none 0 0,.slice none 0 0,.slice none 0 0] 39)) (w.heap.size+1) rT #[.slice none 0 0,.slice none 0 0,.slice none 0 0,.slice none 0 0]):=qh (Mf _ _ _ _ (by simp));have HX0:Hid (Ext w ((w.alloc (.cells (ag f P O) 30)).alloc (.cells #[.slice none 0 0,.slice none 0 0,.slice none 0 0,.slice none 0 0] 39))):=qh ((Id _ _).alloc _);obtain⟨fk,fst,fca,fda,fki,fin,fot,fcu,ftg,fq,fam,ffe,⟨fpn,fpd⟩,⟨frn,frd⟩,⟨fsn,fsd⟩,fch⟩:=f;simp only at *;refine(Nu (n:=5)).1 ?_;refine Qk func58 rfl trivial ?_ rfl;simp only[ntmps58,Nh,MG,Ns,Nat.reduceAdd,Nat.reduceSub,Ov,Ow,OU,OA,ML,MZ];gi_wp2_with fail;generalize (w.alloc (.cells #[.string (bs fk),.int .i64 fst,.bool fca,.int .i64 fda,.int .i64 fki,.string (bs fin),.string (bs fot),.string (bs fcu),.string (bs ftg),.string (bs fq),.string (bs fam),.string (bs ffe),.string (bs fpn),.string (bs fpd),.string (bs frn),.string (bs frd),.string (bs fsn),.string (bs fsd),P,O,.int .i64 fch] 30)).alloc (.cells #[.slice none 0 0,.slice none 0 0,.slice none 0 0,.slice none 0 0] 39)=w0 at *;refine(Nu.2 (HC.out _ HX0.out)).mono ?_;rintro e w1⟨A',c',rfl,hrf,hcap,hx1⟩;replace HX0:=HX0.qt hx1;replace HB0:=qh (HB0.out.ext hx1);replace HR0:=qh (HR0.out.ext hx1);have HRF:=qh hrf;clear hx1 hrf HC;gi_wp2_with fail;refine(Nu.2 (HTK.out A A' c c' hcap w1 (HE.out.ext HX0.out) (HA.out.ext HX0.out) HRF.out)).mono ?_;rintro e w2⟨A2,c2,A3,c3,rfl,hr2,hr3,hx1⟩;replace HX0:=HX0.qt hx1;replace HB0:=qh (HB0.out.ext hx1);replace HR0:=qh (HR0.out.ext hx1);have HRS:=qh hr2;have HXS:=qh hr3;clear hx1 hr2 hr3 HRF hcap HTK;have HU:=qh (ID w2 rT #[.slice A2 rs.length c2,.slice none 0 0,.slice none 0 0,.slice none 0 0]);have HXU:Hid (Ext w2 (w2.alloc (.cells #[.slice A2 rs.length c2,.slice none 0 0,.slice none 0 0,.slice none 0 0] rT))):=qh (Id _ _);gi_wp2_with fail;refine(Nu.2 (HPP.out _ A3 c3 (HX0.out.trans HXU.out) (HXS.out.ext HXU.out))).mono ?_;rintro e w3⟨rfl,hx1⟩;replace HU:=qh (HU.out.ext hx1);replace HXU:=HXU.qt hx1;clear hx1 HPP;obtain⟨U,hU⟩:∃U,w2.heap.size=U:=⟨_,rfl⟩;rw[hU]at HU;have HUe:=qh hU;have hRU:w.heap.size+1<U:=by have:=HR0.out.lt;omega
 gi_wp2_with fail;refine(Nu.2 (Ej xs.length A3 c3 t w3)).mono ?_;rintro e w4⟨rfl,hw4⟩;have hxx:Ext w3 w4:=by rw[hw4];exact(Id _ _).alloc _
 have BB:Hid (Blk w4 w3.heap.size 22 #[.slice A3 xs.length c3]):=qh (by rw[hw4];exact(ID _ _ _).alloc _);have BA:Hid (Blk w4 (w3.heap.size+1) 24 #[.string (bs t)]):=qh (by rw[hw4];exact Mf _ _ _ _ (by simp));have hs4:w4.heap.size=w3.heap.size+2:=by rw[hw4];simp
 replace HU:=qh (HU.out.ext hxx);replace HXU:=HXU.qt hxx;have HB4:=qh ((HB0.out.ext HXU.out));have HR4:=qh ((HR0.out.ext HXU.out));have HS4:=qh (HRS.out.ext HXU.out);have hUlt:=HU.out.lt;obtain⟨B,hB⟩:∃B,w3.heap.size=B:=⟨_,rfl⟩;rw[hB]at BB BA;clear hxx hw4 HB0 HR0 HRS;gi_wp2_with fail;refine fI rfl (by omega) w4.heap.size rfl rfl trivial (fun _ _=>by rfl) ?_;intro fn lp W1 hlp hW1 _
 have h0:DJ w4 U lp (.slice A2 rs.length c2) ⟨fk,fst,fca,fda,fki,fin,fot,fcu,ftg,fq,fam,ffe,⟨fpn,fpd⟩,⟨frn,frd⟩,⟨fsn,fsd⟩,fch⟩ xs (dz t xs) 0 W1:=by
  subst hW1;have hxx:=(Id w4 (.deferred (some []))).alloc (.loop lp);refine⟨.slice none 0 0,.slice none 0 0,(Mh _ _).ext hxx,HU.out.ext hxx,?_,?_,?_,?_⟩
  ·simpa[cG] using NF _ _ _ _
  ·simpa[cQ] using NF _ _ _ _
  ·exact qc (newAt _ _ _ rfl)
  ·exact newAt _ _ _ (by simp)
 refine(G7 4 (w4.heap.size+1) B w2 xs A3 c3 t (HE.out.ext HX0.out) HXS.out hx1000 hx0 ht HTC.out HWT.out (DJ w4 U lp (.slice A2 rs.length c2) ⟨fk,fst,fca,fda,fki,fin,fot,fcu,ftg,fq,fam,ffe,⟨fpn,fpd⟩,⟨frn,frd⟩,⟨fsn,fsd⟩,fch⟩ xs (dz t xs)) ?hJ (fun k W W' h hx=>?hX) ?hY W1 h0).mono ?_
 case hJ =>
  rintro k W⟨vg,vs,h⟩;exact⟨h.ex.toExt HXU.out (by rw[HUe.out];exact Mn _),h.ex.blk BB.out (eh BB.out HU.out (by decide)),h.ex.blk BA.out (eh BA.out HU.out (by decide))⟩
 case hX =>
  obtain⟨vg,vs,h⟩:=h;exact⟨vg,vs,h.on hx⟩
 case hY =>
  intro k hk y W hy hj;obtain⟨vg,vs,h⟩:=hj;have hy2:(dz t xs)[k]? = some y:=hy;have HG1:=qh (xR (key:=fk) (ins:=fin) (day:=fda) hk hy2);have HG2:=qh (vR (key:=fk) hk);have hgl:(cG fk fin fda (xs.take k) ((dz t xs).take k)).length<=1000:=by unfold cG;simp;omega
  have hsl:(cQ fk (xs.take k)).length<=1000:=by unfold cQ;simp;omega
  dsimp only at h;unfold wK DJ;dsimp only;clear hy hy2;generalize cG fk fin fda (xs.take k) ((dz t xs).take k)=gs at *;generalize cG fk fin fda (xs.take (k+1)) ((dz t xs).take (k+1))=gs1 at *;generalize cQ fk (xs.take k)=ss at *;generalize cQ fk (xs.take (k+1))=ss1 at *;have e1:=M6 Loop.assign hlp;have e2:=M6 Loop.body hlp;have e3:=M6 Loop.tmps hlp;have e4:=M6 Loop.params hlp;have e5:{ lp with state := .ready,pending:=none }=lp:=by rw[hlp];rfl
  obtain⟨lb,hlb⟩:∃lb,{ lp with state := .busy }=lb:=⟨_,rfl⟩;simp only[gL]at e1 e2 e3 e4;refine iM (rec:=lp) h.L (by rw[hlp];rfl) (by rw[hlp];rfl) trivial e1 e2 e4 e3 (GG _ _ _ _ _) hlb ?_;clear e1 e2 e3 e4 hlp hW1 h0;have HXN:Hid (Ext W (W.alloc (.cells (lc (xs[k]'hk)) 62))):=qh (Id _ _);have HL0:=qh (h.on HXN.out).L;have HRD:=qh ((h.on HXN.out).put (lp':=lb) hUlt);have HKP:=qh (((eK.refl W).ext HXN.out).put HL0.out (.loop lb));have HBX:=qh ((ID W 62 (lc (xs[k]'hk))).put (.loop lb) (l:=w4.heap.size+1) (by have:=(MD.1 h.L).1;omega));have HLB:=qh hlb;have HE5:=qh e5;clear h hlb e5;generalize xs[k]'hk=x at *;obtain⟨xi,xn,xa,xo,xq,xc,xu⟩:=x;gi_wp2
  refine⟨HL0.out,?_⟩;generalize hXX:W.heap.size=X at *;clear hXX;generalize (W.alloc (.cells (lc ⟨xi,xn,xa,xo,xq,xc,xu⟩) 62)).putObj (w4.heap.size+1) (.loop lb)=Wb at *;obtain⟨ig,hIg,ig0,ig1,ig2⟩:=Ny kC;obtain⟨ip,hIp,ip0,ip1,ip2⟩:=Ny Bw;have Hig:=qh hIg;have Hip:=qh hIp;clear hIg hIp;obtain⟨Ag,cg,rfl⟩:=aF HRD.out.og;obtain⟨As,cs',rfl⟩:=aF HRD.out.os;have HFB:=qh (HRD.out.ex.blk HB4.out (eh HB4.out HU.out (by decide)));obtain⟨x0,-,-,x3,-,x5,-⟩:=aj HFB.out (iD Wb);obtain⟨l0,l1,l2,l3,l4,l5,l6⟩:=ap HBX.out (iD Wb);obtain⟨u0,u1,u2,u3⟩:=iq HRD.out.u (iD _);have HRD3:=qh (HRD.out.on (Id Wb (.cells #[.string (bs fk),.string (bs xi),.string (bs fin),.int .i64 xa,.int .i64 fda,.string (bs xq),.string (bs y),.string (bs xc),.string ⟨#[]⟩,.string ⟨#[]⟩] 60)));have HKP3:=qh (HKP.out.ext (Id Wb (.cells #[.string (bs fk),.string (bs xi),.string (bs fin),.int .i64 xa,.int .i64 fda,.string (bs xq),.string (bs y),.string (bs xc),.string ⟨#[]⟩,.string ⟨#[]⟩] 60)));have HBX3:=qh (HBX.out.alloc (.cells #[.string (bs fk),.string (bs xi),.string (bs fin),.int .i64 xa,.int .i64 fda,.string (bs xq),.string (bs y),.string (bs xc),.string ⟨#[]⟩,.string ⟨#[]⟩] 60));have hsz:=HRD3.out.ex.size;gi_wp2_with (gi_at_builtin;refine QT _ rfl (.tmp 47) (.tmp 64) 35 rfl w4.heap.size 60 ig _ 10 144 Pn Hig.out ig0 ig1 ig2 rfl (by decide) _ _ _ rfl HRD3.out.og ⟨Wb.heap.size,0,none⟩ 1 1 [.string (bs fk),.string (bs xi),.string (bs fin),.int .i64 xa,.int .i64 fda,.string (bs xq),.string (bs y),.string (bs xc),.string ⟨#[]⟩,.string ⟨#[]⟩] rfl rfl (M7 (M4 Wb _)) (nh (jk fk fin fda ⟨xi,xn,xa,xo,xq,xc,xu⟩ y)) (by simp only[maxLen];omega) (by omega) hsz ?_;intro v2 w' hown' hgrow hnil;(obtain⟨A4,d4,hv2⟩:=aF hown');subst hv2;clear hnil;refine gm ?_);refine eE ?_;clear x0 x3 x5 l0 l1 l2 l3 l4 l5 l6 u0 u1 u2 u3 HFB;have HT:=qh (HRD3.out.gain (g:=jk fk fin fda ⟨xi,xn,xa,xo,xq,xc,xu⟩ y) hUlt hgrow hown');have HK2:=qh ((HKP3.out.grown HRD3.out.og (by decide) hgrow).set HT.out.1 (k:=1) (by decide) (.slice A4 (gs.length+1) d4));have HB2:=qh ((gX HBX3.out HRD3.out.og hgrow (by decide)).far (p:=⟨U,1,none⟩) (eh (gX HBX3.out HRD3.out.og hgrow (by decide)) HT.out.1 (by decide)) (.slice A4 (gs.length+1) d4))
  have hst:(Instr.storeAt 35 (.pointer (some ⟨U,1,none⟩)) (.slice A4 (gs.length+1) d4)).run prog w' = .ok () (w'.setCell ⟨U,1,none⟩ (.slice A4 (gs.length+1) d4)):=by
   obtain⟨t0,t1,t2,t3⟩:=iq HT.out.1 (iD _);have t4:=HT.out.1.frozen 1;go_simp
  clear hgrow hown' hsz HRD3 HKP3 HBX3 HKP HBX HRD;gi_wp2_with (first|(refine lm (fun _=>trivial) rfl 35 _ _ rfl _ _ rfl rfl _ hst ?_;refine gm ?_)|fail);refine eE ?_;clear hst;have HRD:=qh HT.out.2;have HKP:=qh HK2.out;have HBX:=qh HB2.out;clear HT HK2 HB2;generalize w'.setCell ⟨U,1,none⟩ (.slice A4 (gs.length+1) d4)=Wc at *;clear w';have HFB:=qh (HRD.out.ex.blk HB4.out (eh HB4.out HU.out (by decide)));obtain⟨x0,-,-,x3,-,x5,-⟩:=aj HFB.out (iD Wc);obtain⟨l0,l1,l2,l3,l4,l5,l6⟩:=ap HBX.out (iD Wc);obtain⟨u0,u1,u2,u3⟩:=iq HRD.out.u (iD _);have HRD3:=qh (HRD.out.on (Id Wc (.cells #[.string (bs fk),.string (bs xi),.string ⟨#[]⟩,.string (bs xq),.string ⟨#[]⟩,.string (bs xc)] 70)));have HKP3:=qh (HKP.out.ext (Id Wc (.cells #[.string (bs fk),.string (bs xi),.string ⟨#[]⟩,.string (bs xq),.string ⟨#[]⟩,.string (bs xc)] 70)));have HBX3:=qh (HBX.out.alloc (.cells #[.string (bs fk),.string (bs xi),.string ⟨#[]⟩,.string (bs xq),.string ⟨#[]⟩,.string (bs xc)] 70));have hsz:=HRD3.out.ex.size;gi_wp2_with (gi_at_builtin;refine QT _ rfl (.tmp 68) (.tmp 78) 36 rfl w4.heap.size 70 ip _ 6 96 underlying36 Hip.out ip0 ip1 ip2 rfl (by decide) _ _ _ rfl HRD3.out.os ⟨Wc.heap.size,0,none⟩ 1 1 [.string (bs fk),.string (bs xi),.string ⟨#[]⟩,.string (bs xq),.string ⟨#[]⟩,.string (bs xc)] rfl rfl (M7 (M4 Wc _)) (GH (qz fk ⟨xi,xn,xa,xo,xq,xc,xu⟩)) (by simp only[maxLen];omega) (by omega) hsz ?_;intro v2 w' hown' hgrow hnil;(obtain⟨A5,d5,hv2⟩:=aF hown');subst hv2;clear hnil;refine gm ?_);refine eE ?_;clear x0 x3 x5 l0 l1 l2 l3 l4 l5 l6 u0 u1 u2 u3 HFB;have HT:=qh (HRD3.out.step (s:=qz fk ⟨xi,xn,xa,xo,xq,xc,xu⟩) hUlt hgrow hown');have HK2:=qh ((HKP3.out.grown HRD3.out.os (by decide) hgrow).set HT.out.1 (k:=2) (by decide) (.slice A5 (ss.length+1) d5));have HB2:=qh ((gX HBX3.out HRD3.out.os hgrow (by decide)).far (p:=⟨U,2,none⟩) (eh (gX HBX3.out HRD3.out.os hgrow (by decide)) HT.out.1 (by decide)) (.slice A5 (ss.length+1) d5))
  have hst:(Instr.storeAt 36 (.pointer (some ⟨U,2,none⟩)) (.slice A5 (ss.length+1) d5)).run prog w' = .ok () (w'.setCell ⟨U,2,none⟩ (.slice A5 (ss.length+1) d5)):=by
   obtain⟨t0,t1,t2,t3⟩:=iq HT.out.1 (iD _);have t4:=HT.out.1.frozen 2;go_simp
  clear hgrow hown' hsz HRD3 HKP3 HBX3 HKP HBX HRD;gi_wp2_with (first|(refine lm (fun _=>trivial) rfl 36 _ _ rfl _ _ rfl rfl _ hst ?_;refine gm ?_)|fail);refine eE ?_;clear hst;have HRD:=qh HT.out.2;have HKP:=qh HK2.out;have HBX:=qh HB2.out;clear HT HK2 HB2;generalize w'.setCell ⟨U,2,none⟩ (.slice A5 (ss.length+1) d5)=Wd at *;gi_wp2
  refine⟨by rw[HLB.out];exact HRD.out.L,rfl,?_⟩;rw[HE5.out];exact⟨⟨_,_,by rw[HG1.out,HG2.out];exact HRD.out.put hUlt⟩,HKP.out.put HRD.out.L _⟩
 rintro e W⟨hv,h⟩;obtain⟨vg,vs,h⟩:=h;refine⟨hv,.inl ⟨h.L,?_⟩⟩;have hP:=h.put (lp':={ lp with state := .exhausted }) hUlt;generalize W.putObj (w4.heap.size+1) (.loop { lp with state := .exhausted })=W3 at *;clear h hv hW1 hlp W1 h0;rw[MK,Mv (by rw[ft];exact Mn _)]at hP;obtain⟨Ag,cg,rfl⟩:=aF hP.og;obtain⟨As,cs',rfl⟩:=aF hP.os;have HP:=qh hP;have HRB:=qh (hP.ex.blk HR4.out (by omega));clear hP;obtain⟨u0,u1,u2,u3⟩:=iq HP.out.u (iD _);obtain⟨r0,r1,r2,r3⟩:=iq HRB.out (iD _);have f0:=HRB.out.frozen 0;have f1:=HRB.out.frozen 1;have f2:=HRB.out.frozen 2;have f3:=HRB.out.frozen 3;dsimp only at *;have HXW:Hid (Ext w W3):=qh (HP.out.ex.toExt (HX0.out.trans HXU.out) (by omega));have HRS:Hid (aK W3 A2 rs):=qh (qy HS4.out HP.out.ex HU.out (fun j v hv=>wL hv ⟨_,_,_,rfl⟩ ⟨_,_,_,rfl⟩ ⟨_,_,_,rfl⟩ ⟨_,_,_,rfl⟩) (km _));have hRD:w4.heap.size≠w.heap.size+1:=by omega
 gi_wp2
 have hD:=El (a := .slice A2 rs.length c2) (b := .slice Ag (cG fk fin fda xs (dz t xs)).length cg) (c := .slice As (cQ fk xs).length cs') (d := .slice none 0 0) (R:=w.heap.size+1) HP.out.D hRD;have hB4:=lI (a := .slice A2 rs.length c2) (b := .slice Ag (cG fk fin fda xs (dz t xs)).length cg) (c := .slice As (cQ fk xs).length cs') (d := .slice none 0 0) HRB.out;refine⟨by simp,.inl ⟨_,_,rfl,QN hD,?_⟩⟩;refine⟨.tuple #[.agg #[.slice A2 rs.length c2,.slice Ag (cG fk fin fda xs (dz t xs)).length cg,.slice As (cQ fk xs).length cs',.slice none 0 0],.int .i64 0],du rfl _ _ (w.heap.size+1) _ _ _ _ _ rfl rfl (hB4.put _ (Ol hRD)),?_⟩;refine⟨A2,c2,Ag,cg,As,cs',rfl,?_,?_,?_,?_⟩
 ·exact wM (kJ HRS.out HRB.out ⟨_,_,_,rfl⟩ ⟨_,_,_,rfl⟩ ⟨_,_,_,rfl⟩ ⟨_,_,_,rfl⟩ (km _)) hD (by intro cs t z h;cases h) _
 ·exact Reads.own (kH (xQ HP.out.og HRB.out (by decide)) hD)
 ·exact Reads.own (kH (xQ HP.out.os HRB.out (by decide)) hD)
 ·exact(mH HXW.out (by omega)).putObj (by omega) _
end
section
open Go.RowKit Go.Shelf
attribute [local go_sem] size_bs toList_bs
theorem Ez(A:Option Addr)(n c:Nat)(f:FactV)(P O:Value)(m:Int)(hP:∃a l d,P = .slice a l d)(z:Int)(R:Value->World->Prop)(X:Nat)(W:World)
  (b0:Blk W X 22 #[.slice A n c]) (b1:Blk W (X+1) 30 (ag f P O)) (b2:Blk W (X+2) 3 #[.int .i64 m])
  (hC:Calls prog 23 #[.slice A n c,.string (bs f.ins),.string (bs f.qty),.int .i64 m,P] W fun e w'=>∃v,e = .returned (.tuple #[v,.int .i64 z])∧R v w') :
  Calls prog 57 #[.pointer (some ⟨X,0,none⟩),.pointer (some ⟨X+1,0,none⟩),.pointer (some ⟨X+2,0,none⟩)] W fun e w'=>∃v,e = .returned (.tuple #[v,.int .i64 z])∧R v w':=by
 obtain⟨pa,pl,pd,rfl⟩:=hP;have q0:=boxCell b0;have q2:=boxCell b2;obtain⟨x0,x1,x2,x3,x4,x5,x6,x7,x8,x9,x10,x11,x12,x13,x14,x15,x16,x17,x18,x19,x20⟩:=aj b1 (iD _);have HC:=qh hC;clear x0 x1 x2 x3 x4 x6 x7 x8 x10 x11 x12 x13 x14 x15 x16 x17 x19 x20 b0 b1 b2 hC;go_enter func57,ntmps57;go_wp2_with fail;refine HC.out.mono ?_;rintro e w1⟨v,rfl,hr⟩;have HR:=qh hr;clear hr HC;go_wp2_with fail;go_ret2;exact⟨v,rfl,HR.out⟩
theorem KV(A:Option Addr)(n c:Nat)(f:FactV)(P O:Value)(X:Nat)(W:World)(b1:Blk W X 30 (ag f P O))(ha:f.amt.length<=100000)(hf:f.fee.length<=100000)(hE:Env W) :
  Calls prog 59 (#[.slice A n c]++#[.pointer (some ⟨X,0,none⟩)]) W fun e w'=>e = .returned (.string (bs (ofI (valI f.amt-valI f.fee))))∧Ext W w':=by
 obtain⟨x0,x1,x2,x3,x4,x5,x6,x7,x8,x9,x10,x11,x12,x13,x14,x15,x16,x17,x18,x19,x20⟩:=aj b1 (iD _);have HC:=qh (lC f.amt f.fee ha hf W hE);clear x0 x1 x2 x3 x4 x5 x6 x7 x8 x9 x12 x13 x14 x15 x16 x17 x18 x19 x20 b1 ha hf hE;go_enter func59,ntmps59;go_wp2_with fail;refine HC.out.mono ?_;rintro e w1⟨rfl,hx1⟩;have HX:=qh hx1;clear hx1 HC;go_wp2_with fail;go_ret;exact⟨rfl,HX.out⟩
theorem Ds(n:Nat)(h1:1<=n)(h6:n<=6)(W:World):Calls prog 55 #[.int .i64 n] W fun e w'=>(∃nm,e = .returned (.tuple #[.string nm,.int .i64 0]))∧Ext W w':=by
 have HF:=qh (kR n h1 h6 W);go_enter func55,ntmps55;go_wp2_with fail;refine HF.out.mono ?_;rintro e w3⟨G,rfl,hG,hGs,hx1⟩;obtain⟨nm,kf,cb,hep⟩:=rZ G n h1 h6;rw[hep.eq];have HX:=qh (hx1.trans (Id w3 (.cells #[.string nm,.func (.func kf) #[] cb,.bool (decide (n=2))] 129)));clear hep hG hGs hx1 HF;generalize decide (n=2)=bb at *;go_wp2_with fail;refine MI (Rf rfl _ _ _) rfl ?_;exact⟨⟨nm,rfl⟩,HX.out⟩
theorem bS{P:Program}{ops:Array Oper}{rest:List Oper}{op:Oper}{a:Act}{w:World}{Q:Exit->Act->World->Prop}(hw:Region.wanted op (yielded ops a.tmps)=true)(ty:TypeId)(x:Operand)(ho:op.op = .load ty x)
  (b o:Nat) (hx:a.eval x = .pointer (some ⟨b,o,none⟩)) (cs:List Value) (d:TypeDesc) (hc:w.rangeAt b o cs)
  (hu:P.underlying ty=some d) (hd:d.isRow=true) (hi:(P.info? ty).map (·.size)=some cs.length)
  (h:wpList P ops Q rest (a.put op.dst (.agg cs.toArray)) w):wpList P ops Q (op :: rest) a w :=
 wpList_step fun _ hK=>by
  rw[Mq hw];exact wp_load_mid ty x ho b o hx cs d hc hu hd hi (hK _ _ h)
theorem uS(ls:List LotV)(A:Option Addr)(c:Nat)(f:FactV)(ps:List Fr)(os:List OptV)(pa oa:Option Addr)(pc oq:Nat)(w:World)(hE:Env w)(hA:aK w A ls)(hF:FactAt w f ps os pa oa pc)(hwf:(Lit.int .i64 f.kind).wf=true)(hsm:∀x ∈ ls,SmallL x)(h1:checkAllL ls=0)(h2:cr f ps os=0) :
  Calls prog 54 #[.slice A ls.length c,aC f (ae pa ps.length pc) (ae oa os.length oq),.int .i64 f.kind] w fun e w'=>e = .returned (.int .i64 0)∧Ext w w':=by
 have hn:=(av h1).1;have CA:=qh (fun W (hx:Ext w W)=>dD ls A c W (hE.ext hx) (hA.ext hx) hsm (by omega));have CF:=qh (fun W (hx:Ext w W)=>xd f ps os pa oa pc oq W (hF.ext hx) hwf (hE.ext hx));rw[h1]at CA;rw[h2]at CF;have HF:=qh (ID w 30 (ag f (ae pa ps.length pc) (ae oa os.length oq)));have HX:Hid (Ext w (w.alloc (.cells (ag f (ae pa ps.length pc) (ae oa os.length oq)) 30))):=qh (Id _ _);have hs1:(prog.info? 30).map (·.size)=some (ag f (ae pa ps.length pc) (ae oa os.length oq)).toList.length:=by kernel_rfl
 clear hA hF hE h1 h2 hsm;go_enter func54,ntmps54;go_wp2_with fail;refine(CA.out _ HX.out).mono ?_;rintro e w1⟨rfl,hx1⟩;replace HX:=HX.qt hx1;replace HF:=qh (HF.out.ext hx1);clear hx1 CA;have hrg:=aL HF.out;go_wp2_with (first|refine bS (by kernel_rfl) 30 _ rfl w.heap.size 0 rfl _ _ hrg M3 rfl hs1 ?_|fail);refine(CF.out _ HX.out).mono ?_;rintro e w2⟨rfl,hx1⟩;replace HX:=HX.qt hx1;replace HF:=qh (HF.out.ext hx1);clear hx1 hrg CF;have x4:=HF.out.cell 4;simp only[Mk,Mm,Ms]at x4;go_wp2_with fail;go_ret;exact⟨rfl,HX.out⟩
end
end Go.Proofs.YtaegjkllenlfpaaGreatDoor
