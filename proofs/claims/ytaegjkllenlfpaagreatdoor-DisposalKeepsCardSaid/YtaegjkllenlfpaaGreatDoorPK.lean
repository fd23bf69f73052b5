/- The seat's texts, part PK. -/
import Derived.Test.YtaegjkllenlfpaaGreatDoorP21
import Derived.Test.YtaegjkllenlfpaaGreatDoorP26
import Derived.Test.YtaegjkllenlfpaaGreatDoorP33
import Derived.Test.YtaegjkllenlfpaaGreatDoorP34
import Derived.Test.YtaegjkllenlfpaaGreatDoorPX
import Derived.Deep.RegionHeld3
set_option maxRecDepth 100000
set_option maxHeartbeats 8000000
namespace Go.Proofs.YtaegjkllenlfpaaGreatDoor
section
open Go.RowKit
theorem wU:∀(l:List Int),(∀x ∈ l,0≤x)→∀y ∈ l,y≤l.sum
 |[],_,y,hy=>by cases hy
 |a :: r,h,y,hy=>by
  have h1:0≤r.sum:=fw r fun x hx=>h x (List.mem_cons_of_mem _ hx)
  have ha:=h a (List.mem_cons_self ..);rw[List.sum_cons];rcases List.mem_cons.1 hy with e|e
  ·rw[e];omega
  ·have:=wU r (fun x hx=>h x (List.mem_cons_of_mem _ hx)) y e;omega
theorem uX{T:Int}{ws:List Int}(hT:0≤T)(hw:∀x ∈ ws,0≤x)(hS:0<ws.sum):∀v ∈ bG T ws,0≤v∧v≤T:=by
 intro v hv;have h0:=nj hT hw hS v hv;obtain⟨k,hk,rfl⟩:=List.mem_iff_getElem.1 hv;have hk':k<ws.length:=by rw[i6]at hk;exact hk
 have h:=(vF (T:=T) hS k hk' hk).2;have hle:=wU ws hw _ (List.getElem_mem hk');have h1:T*ws[k]'hk'≤T*ws.sum:=Int.mul_le_mul_of_nonneg_left hle hT;refine⟨h0,Int.not_lt.1 fun hlt=>?_⟩;have h2:(T+1)*ws.sum≤(bG T ws)[k]'hk*ws.sum:=Int.mul_le_mul_of_nonneg_right (by omega) (by omega);rw[Int.add_mul,Int.one_mul]at h2;omega
theorem FO{T:Int}{ws:List Int}(hw:∀x ∈ ws,0≤x)(hS:0<ws.sum):∀v ∈ cI T ws,v.natAbs≤T.natAbs:=by
 intro v hv;unfold cI at hv;split at hv
 ·obtain⟨u,hu,rfl⟩:=List.mem_map.1 hv;have:=uX (T := -T) (by omega) hw hS u hu;omega
 ·have:=uX (T:=T) (by omega) hw hS v hv;omega
section
variable {key ins:Bs} {day:Int} {xs:List LotV} {pr:List Bs}
theorem DL(h:pr.length=xs.length):aI (·.q) (dt key ins day xs pr)=(xs.map (fun x=>valI x.q)).sum∧aI (·.c) (dt key ins day xs pr)=(xs.map (fun x=>valI x.c)).sum∧aI (·.p) (dt key ins day xs pr)=(pr.map valI).sum:=by
 unfold aI dt;simp only[List.map_map];have e1:(xs.zip pr).map Prod.fst=xs:=List.map_fst_zip (by omega);have e2:(xs.zip pr).map Prod.snd=pr:=List.map_snd_zip (by omega);refine⟨?_,?_,?_⟩
 ·conv=>rhs;rw[←e1,List.map_map]
  rfl
 ·conv=>rhs;rw[←e1,List.map_map]
  rfl
 ·conv=>rhs;rw[←e2,List.map_map]
  rfl
theorem wV(h:pr.length=xs.length):(dt key ins day xs pr).length=xs.length:=by
 unfold dt;rw[List.length_map,List.length_zip];omega
theorem IA(h:pr.length=xs.length){k:Nat}(hk:k<xs.length):∃hk':k<(dt key ins day xs pr).length,∃hp:k<pr.length,(dt key ins day xs pr)[k]'hk'=qV key ins day (xs[k]'hk) (pr[k]'hp):=by
 refine⟨by rw[wV h];exact hk,by omega,?_⟩;simp[dt]
end
structure Fine (L:Nat) (x:LotV):Prop where
 id:x.id.length≤40
 ins:x.ins.length≤40
 q:x.q.length≤L
 c:x.c.length≤L
 u:x.u.length≤L
theorem Fine.small{L:Nat}{x:LotV}(h:Fine L x)(hL:L≤1000):bE x:=⟨by have:=h.id;omega,by have:=h.ins;omega,by have:=h.q;omega,by have:=h.c;omega,by have:=h.u;omega⟩
theorem AA{a:Bs}{v:Int}{L:Nat}(hc:checkI a=0)(h0:0≤valI a)(hv:valI a≤v)(hL:(af v).length≤L):a.length≤L+1:=by
 rw[←dI.1 hc];refine gg (l:=af v) ?_ hL;rw[ah];omega
theorem wW{L:Nat}{x y:LotV}(hx:Fine L x)(cx:aU x=0)(cy:aU y=0)(e1:y.id=x.id)(e2:y.ins=x.ins)(hq:valI y.q≤valI x.q)(hc:valI y.c≤valI x.c):Fine (L+1) y:=by
 obtain⟨y1,y2,y3,y4,y5⟩:=bU cy;obtain⟨x1,x2,x3,x4,x5⟩:=bU cx;have hql:y.q.length≤L+1:=AA y1 (by omega) hq (by rw[dI.1 x1];exact hx.q);refine⟨by rw[e1];exact hx.id,by rw[e2];exact hx.ins,hql,AA y2 y4 hc (by rw[dI.1 x2];exact hx.c),?_⟩;rcases y5 with e|e
 ·rw[e];simp
 ·rw[e];exact hql
section
variable {ls:List LotV} {f:FactV} {ps:List Fr} {os:List OptV}
theorem SelIn.fine(h:SelIn ls f ps os)(n:Nat):∀x ∈ bH ls f.ins n,Fine 21 x:=by
 have hg:=ib h.great
 have hf:∀x ∈ ls,Fine 21 x:=fun x hx=>by
  obtain⟨a,b,c,d,e⟩:=lH (hg.2 x hx);exact⟨d,e,by omega,by omega,by omega⟩
 unfold bH;split
 ·intro x hx;rcases pA h.all hx with hx | ⟨y,v,hy,rfl,v0,v1⟩
  ·exact hf x hx
  ·have hy:=hf y hy;refine⟨hy.id,hy.ins,hy.q,?_,hy.u⟩;have e:aZ ls f.ins=bJ ((av ls f.ins).map (·.c)):=by unfold aZ bJ;rw[List.map_map];rfl
   have hl:=lu 13 ((av ls f.ins).map (·.c)) (by
    intro b hb;obtain⟨z,hz,rfl⟩:=List.mem_map.1 hb;exact(lH (hg.2 z (fF hz).1)).2.1) (by
    rw[List.length_map];have h1:(av ls f.ins).length≤ls.length:=List.length_filter_le _ _;have:=(aF h.all).1;omega)
   rw[←e]at hl;exact gg (l:=af (aZ ls f.ins)) (by rw[ah];omega) hl
 ·exact hf
theorem SelIn.restOK(h:SelIn ls f ps os) (n:Nat) (hq:valI f.qty≤aH ls f.ins):aA (aY ls f n ps)=0∧∀x ∈ aM ls f n ps,aU x=0:=zW (h.ls n).all (h.pick n hq).1.ok
theorem SelIn.cuts(h:SelIn ls f ps os) (n:Nat) (hq:valI f.qty≤aH ls f.ins):∀x ∈ bH ls f.ins n,∀d:Bs,∀p ∈ eC ls f n ps,p.num=x.id→p.den=d→x.q≠d→aU (du x d)=0∧aU (cU x d)=0:=by
 intro x hx d p hp e1 e2 hne;have l:=h.ls n;have hv:=(aF l.all).2;have hk:=(h.pick n hq).1.ok;obtain⟨y,hy,e3,e4,e5⟩:=hk.at_ p hp;have:=xX (cV l.all) hx hy (e3.trans e1);subst this
 rw[←e2];exact uz (hv y hx) (hk.den p hp) e4 (uB hv hx (hk.den p hp) e5 (by rw[e2];exact hne))
theorem SelIn.restFine(h:SelIn ls f ps os) (n:Nat) (hq:valI f.qty≤aH ls f.ins):∀x ∈ aY ls f n ps,Fine 22 x:=by
 have l:=h.ls n;have hv:=(aF l.all).2;have hk:=(h.pick n hq).1.ok;intro y hy;unfold aY at hy;rw[gB _ _ (cV l.all) hk]at hy;obtain⟨x,hx,hy⟩:=List.mem_filterMap.1 hy;have hxf:=h.fine n x hx;unfold bW at hy;split at hy
 ·injection hy with hy
  rw[←hy];exact⟨hxf.id,hxf.ins,by have:=hxf.q;omega,by have:=hxf.c;omega,by have:=hxf.u;omega⟩
 ·rename_i d hd
  obtain⟨p,hp,e1,e2⟩:=zV hd;split at hy
  ·cases hy
  ·rename_i hne
   injection hy with hy
   obtain⟨ca,cb⟩:=h.cuts n hq x hx d p hp e1 e2 hne;obtain⟨s1,s2⟩:=oh x d;obtain⟨_,_,a3,a4,_⟩:=bU ca;rw[←hy];exact wW hxf (hv x hx) cb rfl rfl (by omega) (by omega)
theorem SelIn.takFine(h:SelIn ls f ps os) (n:Nat) (hq:valI f.qty≤aH ls f.ins):∀x ∈ aM ls f n ps,Fine 22 x:=by
 have l:=h.ls n;have hv:=(aF l.all).2;have hp:=(h.pick n hq).1;intro y hy;obtain⟨k,hk,rfl⟩:=List.getElem_of_mem hy
 have hk2:k<(eC ls f n ps).length:=by
  have:=j6 l.all hp;unfold aM at hk;omega
 obtain⟨hk',x,hx,_,e1,e2⟩:=wP l.all hp hk2;have hxf:=h.fine n x hx;have e3:(aM ls f n ps)[k]'hk=if x.q=((eC ls f n ps)[k]'hk2).den then x else du x ((eC ls f n ps)[k]'hk2).den:=e2;rw[e3];split
 ·exact⟨hxf.id,hxf.ins,by have:=hxf.q;omega,by have:=hxf.c;omega,by have:=hxf.u;omega⟩
 ·rename_i hne
  obtain⟨ca,cb⟩:=h.cuts n hq x hx _ _ (List.getElem_mem hk2) e1.symm rfl hne;obtain⟨s1,s2⟩:=oh x ((eC ls f n ps)[k]'hk2).den;obtain⟨_,_,b3,b4,_⟩:=bU cb;exact wW hxf (hv x hx) ca rfl rfl (by omega) (by omega)
theorem SelIn.takIns(h:SelIn ls f ps os) (n:Nat) (hq:valI f.qty≤aH ls f.ins):∀x ∈ aM ls f n ps,x.ins=f.ins:=by
 have l:=h.ls n;have hp:=(h.pick n hq).1;intro y hy;obtain⟨k,hk,rfl⟩:=List.getElem_of_mem hy
 have hk2:k<(eC ls f n ps).length:=by
  have:=j6 l.all hp;unfold aM at hk;omega
 obtain⟨hk',_,_,e⟩:=wQ l.all hp hk2;exact e
theorem SelIn.takTot(h:SelIn ls f ps os) (n:Nat) (hq:valI f.qty≤aH ls f.ins):aH (aM ls f n ps) f.ins=((aM ls f n ps).map (fun x=>valI x.q)).sum∧aZ (aM ls f n ps) f.ins=((aM ls f n ps).map (fun x=>valI x.c)).sum:=by
 have e:av (aM ls f n ps) f.ins=aM ls f n ps:=by
  unfold av;rw[List.filter_eq_self];intro x hx;simpa using h.takIns n hq x hx
 unfold aH aZ;rw[e];exact⟨rfl,rfl⟩
theorem SelIn.takQ(h:SelIn ls f ps os) (n:Nat) (hq:valI f.qty≤aH ls f.ins):((aM ls f n ps).map (fun x=>valI x.q)).sum=valI f.qty:=by
 have l:=h.ls n;obtain⟨hp,hs⟩:=h.pick n hq;have e:=uQ l.all hp;rw[←hs];unfold jD;have e2:(aM ls f n ps).map (fun x=>valI x.q)=((aM ls f n ps).map (·.q)).map valI:=by rw[List.map_map];rfl
 rw[e2];unfold aM;rw[e,List.map_map];rfl
theorem SelIn.wt(h:SelIn ls f ps os) (n:Nat) (hq:valI f.qty≤aH ls f.ins):WtOK ((aM ls f n ps).map (·.q)):=uR (h.ls n).all (h.pick n hq).1 (h.pos n hq)
theorem SelIn.prtSum(h:SelIn ls f ps os) (n:Nat) (hq:valI f.qty≤aH ls f.ins):((fU (iH f) (aM ls f n ps)).map valI).sum=valI f.amt-valI f.fee:=by
 have w:=h.wt n hq;have hs:0<(((aM ls f n ps).map (·.q)).map valI).sum:=w.sum;unfold fU;rw[List.map_map,show(valI ∘ af)=id from funext fun z=>ah z,List.map_id,pO hs,iH,ah]
theorem SelIn.prtLen(h:SelIn ls f ps os) (n:Nat) (hq:valI f.qty≤aH ls f.ins):∀b ∈ fU (iH f) (aM ls f n ps),b.length≤44∧checkI b=0:=by
 have w:=h.wt n hq
 have hw:∀x ∈ ((aM ls f n ps).map (·.q)).map valI,0≤x:=by
  intro x hx;obtain⟨y,hy,rfl⟩:=List.mem_map.1 hx;exact w.nn y hy
 have hs:0<(((aM ls f n ps).map (·.q)).map valI).sum:=w.sum;intro b hb;unfold fU at hb;obtain⟨v,hv,rfl⟩:=List.mem_map.1 hb;have h1:=FO hw hs v hv;exact⟨gg (l:=iH f) h1 h.net.1,gA _⟩
theorem SelIn.sums(h:SelIn ls f ps os) (n:Nat) (hq:valI f.qty≤aH ls f.ins):aI (·.q) (cz ls f n ps)=valI f.qty∧aI (·.p) (cz ls f n ps)=valI f.amt-valI f.fee∧aI (·.c) (cz ls f n ps)=aZ (aM ls f n ps) f.ins:=by
 obtain⟨a,b,c⟩:=DL (key:=f.key) (ins:=f.ins) (day:=f.day) (nf (iH f) (aM ls f n ps));exact⟨a.trans (h.takQ n hq),c.trans (h.prtSum n hq),b.trans (h.takTot n hq).2.symm⟩
theorem SelIn.kept(h:SelIn ls f ps os) (n:Nat) (hq:valI f.qty≤aH ls f.ins):aH (aY ls f n ps) f.ins+valI f.qty=aH ls f.ins∧aZ (aY ls f n ps) f.ins+aZ (aM ls f n ps) f.ins=aZ ls f.ins:=by
 have l:=h.ls n;obtain⟨a,b⟩:=E5 f.ins (cV l.all) (h.pick n hq).1.ok;have e1:aH (aY ls f n ps) f.ins+aH (aM ls f n ps) f.ins=aH (bH ls f.ins n) f.ins:=a;have e2:aZ (aY ls f n ps) f.ins+aZ (aM ls f n ps) f.ins=aZ (bH ls f.ins n) f.ins:=b;rw[(h.takTot n hq).1,h.takQ n hq,l.q]at e1;rw[l.c]at e2;exact⟨e1,e2⟩
theorem SelIn.others(h:SelIn ls f ps os) (n:Nat) (hq:valI f.qty≤aH ls f.ins):fp (aY ls f n ps) f.ins=fp ls f.ins:=by
 have l:=h.ls n;obtain⟨hp,_⟩:=h.pick n hq;have e:=xY (cV l.all) hp.ok hp.own;have e1:fp (aY ls f n ps) f.ins=fp (bH ls f.ins n) f.ins:=e;rw[e1];unfold bH;split
 ·unfold fp;by_cases h0:(av ls f.ins).length=0
  ·rw[jk h0]
  ·rw[lI h0]
   have key:∀(l:List LotV) (k:Nat),(fV (jj (eI ls f.ins)) f.ins k l).filter (fun x=>decide (x.ins≠f.ins))=l.filter (fun x=>decide (x.ins≠f.ins)):=by
    intro l;induction l with
    |nil=>intro k;rfl
    |cons x r ih =>
     intro k;unfold fV;split
     ·rename_i hx
      have e1:(jj (eI ls f.ins) k x).ins=f.ins:=hx;rw[List.filter_cons_of_neg (by simp[e1]),List.filter_cons_of_neg (by simp[hx])];exact ih _
     ·rename_i hx
      rw[List.filter_cons_of_pos (by simp[hx]),List.filter_cons_of_pos (by simp[hx]),ih]
   exact key ls 0
 ·rfl
theorem SelIn.gnsLen(h:SelIn ls f ps os) (n:Nat) (hq:valI f.qty≤aH ls f.ins):(cz ls f n ps).length≤1000∧∀g ∈ cz ls f n ps,g.q.length≤44∧g.p.length≤44∧g.c.length≤44:=by
 have l:=h.ls n;obtain⟨hp,_⟩:=h.pick n hq;have hlen:=wV (key:=f.key) (ins:=f.ins) (day:=f.day) (nf (iH f) (aM ls f n ps));have ht:(aM ls f n ps).length=(eC ls f n ps).length:=j6 l.all hp;have h1:=hp.len;have h2:(av (bH ls f.ins n) f.ins).length≤(bH ls f.ins n).length:=List.length_filter_le _ _;have h3:=(aF l.all).1;refine⟨by unfold cz;rw[hlen];omega,fun g hg=>?_⟩;obtain⟨k,hk,rfl⟩:=List.getElem_of_mem hg;have hk2:k<(aM ls f n ps).length:=by unfold cz at hk;rw[hlen]at hk;exact hk
 obtain⟨_,hpk,e⟩:=IA (key:=f.key) (ins:=f.ins) (day:=f.day) (nf (iH f) (aM ls f n ps)) hk2;have e2:(cz ls f n ps)[k]'hk=qV f.key f.ins f.day ((aM ls f n ps)[k]'hk2) ((fU (iH f) (aM ls f n ps))[k]'hpk):=e;have hf:=h.takFine n hq _ (List.getElem_mem hk2);have hb:=h.prtLen n hq _ (List.getElem_mem hpk);rw[e2];exact⟨by have:=hf.q;show((aM ls f n ps)[k]'hk2).q.length≤44;omega,hb.1,by have:=hf.c;show((aM ls f n ps)[k]'hk2).c.length≤44;omega⟩
end
end
section
open Go.RowKit Go.Shelf
attribute [local go_sem] size_bs toList_bs
theorem dG{W W':World}{F R:Nat}{f:FactV}{P O a b c d:Value}(hf:Blk W F 30 (aj f P O))(hr:Blk W R rT #[a,b,c,d])(hx:Ext W W') :
  W'.cell? ⟨F,5,none⟩=some (.string (bs f.ins))∧W'.cell? ⟨F,9,none⟩=some (.string (bs f.qty))∧W'.cell? ⟨F,10,none⟩=some (.string (bs f.amt))∧W'.cell? ⟨F,11,none⟩=some (.string (bs f.fee))∧W'.cell? ⟨R,0,none⟩=some a∧W'.cell? ⟨R,1,none⟩=some b∧W'.cell? ⟨R,2,none⟩=some c∧W'.cell? ⟨R,3,none⟩=some d:=by
 have k:=hf.ext hx;have l:=hr.ext hx;exact⟨k.cell 5,k.cell 9,k.cell 10,k.cell 11,l.cell 0,l.cell 1,l.cell 2,l.cell 3⟩
theorem AC(ls:List LotV)(A:Option Addr)(c:Nat)(f:FactV)(ps:List Fr)(os:List OptV)(pa oa:Option Addr)(pc oq:Nat)(m:Int)(w:World)(hE:Env w)(hL:LawIn w ls A f ps os pa oa pc) :
  Calls Tryz.prog 3 #[.slice A ls.length c,aL f (ag pa ps.length pc) (ag oa os.length oq),.int .i64 m] w fun e w'=>e = .returned (.bool true)∧Ext w w':=by
 have HE:=qh hE;have HL:=qh hL;have HB:=qh (Blk.new w 30 (aj f (ag pa ps.length pc) (ag oa os.length oq)));have HX:Hid (Ext w (w.alloc (.cells (aj f (ag pa ps.length pc) (ag oa os.length oq)) 30))):=qh (Ext.new _ _);have hs1:(Tryz.prog.info? 30).map (·.size)=some (aj f (ag pa ps.length pc) (ag oa os.length oq)).toList.length:=by kernel_rfl
 have GR:=qh (fun W (hx:Ext w W)=>FM ls A c f ps os pa oa pc oq W (hL.la.ext hx) (hL.rp.ext hx) (hL.ro.ext hx) hL.np hL.no hL.nl);clear hE hL;go_enter Tryz.func3,Tryz.ntmps3;go_upto_region 1 with fail;generalize w.alloc (.cells (aj f (ag pa ps.length pc) (ag oa os.length oq)) 30)=w0 at *;generalize hF0:w.heap.size=F at *;have hrg:=aW HB.out;go_wp2_with (first|refine cD (by kernel_rfl) 30 _ rfl F 0 rfl _ _ hrg Tryz.underlying30 rfl hs1 ?_|fail);refine(GR.out _ HX.out).mono ?_;rintro e w1⟨⟨b,rfl,hb⟩,hx1⟩;replace HX:=HX.qt hx1;replace HB:=qh (HB.out.ext hx1);clear hx1 GR hrg
 cases b;rotate_left
 ·clear hb;go_wp2_with fail;refine(fR _ (HE.out.ext HX.out)).mono ?_;rintro e v9⟨rfl,hx1⟩;replace HX:=HX.qt hx1;clear hx1;go_wp2_with fail;go_ret;exact⟨rfl,HX.out⟩
 obtain⟨hg,hn⟩:=hb rfl;have HG:=qh hg;have HFA:=qh (HL.out.fact hn);have hsm:=ic hg;have hln:ls.length≤100000:=by have:=(ib hg).1;omega
 have CA:=qh (fun W (hx:Ext w W)=>dm ls A c W (HE.out.ext hx) (HL.out.la.ext hx) hsm hln);have CT:=qh (fun W (hx:Ext w W)=>gc ls A c f.ins W (HE.out.ext hx) (HL.out.la.ext hx) hsm hln);clear hb hg hn hsm;go_wp2_with fail;refine(CA.out _ HX.out).mono ?_;rintro e w2⟨rfl,hx1⟩;replace HX:=HX.qt hx1;replace HB:=qh (HB.out.ext hx1);clear hx1 CA;by_cases hall:aA ls=0;rotate_left
 ·have g1:(aA ls != 0)=true:=by rw[bne_iff_ne];exact hall
  generalize aA ls=z at *;clear hall;go_wp2_with fail;refine(fR _ (HE.out.ext HX.out)).mono ?_;rintro e v9⟨rfl,hx1⟩;replace HX:=HX.qt hx1;clear hx1;go_wp2_with fail;go_ret;exact⟨rfl,HX.out⟩
 rw[hall];have HAL:=qh hall;clear hall;by_cases hz:fW ls f ps os m=0;rotate_left
 ·have SN:=qh (fun W (hx:Ext w W)=>Iy ls A c f ps os pa oa pc oq m W (HE.out.ext hx) (HL.out.la.ext hx) (HFA.out.ext hx) HL.out.wf HG.out hz);have HSH:=qh (fun h=>vX (ls:=ls) (f:=f) (ps:=ps) (os:=os) (m:=m) h);have FC:=qh (fun W (hx:Ext w W)=>rJ f ps os pa oa pc oq W (HFA.out.ext hx) HL.out.wf (HE.out.ext hx));have hz2:(fW ls f ps os m != 0)=true:=by rw[bne_iff_ne];exact hz
  have hql:=HFA.out.sm.qty;have hhl:=ix f.ins ls.length (ic HG.out) hln;rw[List.take_length]at hhl;have QC:=qh (cmpP f.qty (af (aH ls f.ins)) (by omega) (by omega));have HQV:Hid (valI (af (aH ls f.ins))=aH ls f.ins):=qh (ah _);clear hz hql hhl hln;generalize fW ls f ps os m=z at *;have hrg:=aW HB.out;go_wp2_with (first|refine cD (by kernel_rfl) 30 _ rfl F 0 rfl _ _ hrg Tryz.underlying30 rfl hs1 ?_|fail);refine(SN.out _ HX.out).mono ?_;rintro e w3⟨rfl,hx1⟩;have hx2:=hx1.trans (Ext.new w3 (.cells #[.slice none 0 0,.slice none 0 0,.slice none 0 0,.slice none 0 0] 39));have HR:=qh (Blk.new w3 39 #[.slice none 0 0,.slice none 0 0,.slice none 0 0,.slice none 0 0]);replace HX:=HX.qt hx2;replace HB:=qh (HB.out.ext hx2);clear hx1 hx2 hrg SN;go_upto_region 4 with fail;generalize w3.alloc (.cells #[.slice none 0 0,.slice none 0 0,.slice none 0 0,.slice none 0 0] 39)=W3 at *;generalize w3.heap.size=R at *;obtain⟨p5,p9,p10,p11,r0,r1,r2,r3⟩:=dG HB.out HR.out (Ext.refl _);go_wp2_with fail;refine(CT.out _ HX.out).mono ?_;rintro e w4⟨rfl,hx1⟩;replace HX:=HX.qt hx1;replace HB:=qh (HB.out.ext hx1);replace HR:=qh (HR.out.ext hx1);clear hx1 CT p5 p9 p10 p11 r0 r1 r2 r3;have hrg:=aW HB.out;go_wp2_with (first|refine cD (by kernel_rfl) 30 _ rfl F 0 rfl _ _ hrg Tryz.underlying30 rfl hs1 ?_|fail);refine(FC.out _ HX.out).mono ?_;rintro e w5⟨rfl,hx1⟩;replace HX:=HX.qt hx1;replace HB:=qh (HB.out.ext hx1);replace HR:=qh (HR.out.ext hx1);clear hx1 FC hrg;obtain⟨p5,p9,p10,p11,r0,r1,r2,r3⟩:=dG HB.out HR.out (Ext.refl _);by_cases hfe:cA f ps os=0
  ·rw[hfe]at HSH ⊢;clear hfe;go_wp2_with fail;refine(QC.out _ (HE.out.ext HX.out)).mono ?_;rintro e w6⟨rfl,hx1⟩;replace HX:=HX.qt hx1;replace HB:=qh (HB.out.ext hx1);replace HR:=qh (HR.out.ext hx1);clear hx1 QC p5 p9 p10 p11 r0 r1 r2 r3;obtain⟨p5,p9,p10,p11,r0,r1,r2,r3⟩:=dG HB.out HR.out (Ext.refl _)
   have hsh:z=15→0<cmpI (valI f.qty) (valI (af (aH ls f.ins))):=fun h=>by
    rw[cK,HQV.out];exact(HSH.out h).2
   generalize cmpI (valI f.qty) (valI (af (aH ls f.ins)))=y at *;by_cases h15:z=15
   ·have hy:=hsh h15;have hy2:decide (0<y)=true:=by simpa using hy
    subst h15;clear hsh HSH hy;go_wp2_with fail;refine(fR _ (HE.out.ext HX.out)).mono ?_;rintro e v9⟨rfl,hx1⟩;replace HX:=HX.qt hx1;clear hx1;go_wp2_with fail;go_ret;exact⟨rfl,HX.out⟩
   ·have g15:(z != 15)=true:=by rw[bne_iff_ne];exact h15
    obtain⟨bb,hbb⟩:∃bb,decide (0<y)=bb:=⟨_,rfl⟩;clear hsh HSH h15;go_wp2_with fail;refine(fR _ (HE.out.ext HX.out)).mono ?_;rintro e v9⟨rfl,hx1⟩;replace HX:=HX.qt hx1;clear hx1;go_wp2_with fail;go_ret;exact⟨rfl,HX.out⟩
  ·have h15:z≠15:=fun h=>hfe (HSH.out h).1
   have g15:(z != 15)=true:=by rw[bne_iff_ne];exact h15
   have gfe:(cA f ps os == 0)=false:=by rw[beq_eq_false_iff_ne];exact hfe
   generalize cA f ps os=fe at *;clear hfe h15 HSH QC;go_wp2_with fail;refine(fR _ (HE.out.ext HX.out)).mono ?_;rintro e v9⟨rfl,hx1⟩;replace HX:=HX.qt hx1;clear hx1;go_wp2_with fail;go_ret;exact⟨rfl,HX.out⟩
 have hgo:=DK HG.out hz;have SY:=qh (fun W (hx:Ext w W)=>FN ls A c f ps os pa oa pc oq m W (HE.out.ext hx) (HL.out.la.ext hx) (HFA.out.ext hx) hgo);have hi:=hgo.inn;have hq:=hgo.q;have hsl:=hi.sale;obtain⟨gl1,gl2⟩:=hi.gnsLen m.toNat hq;obtain⟨su1,su2,su3⟩:=hi.sums m.toNat hq;obtain⟨ke1,ke2⟩:=hi.kept m.toNat hq;have hot:=hi.others m.toNat hq;obtain⟨rok,_⟩:=hi.restOK m.toNat hq;have rfi:=hi.restFine m.toNat hq;have rsm:∀x ∈ aY ls f m.toNat ps,bE x:=fun x hx=>(rfi x hx).small (by decide)
 have rln:(aY ls f m.toNat ps).length≤1000:=(aF rok).1;have hcq:af (valI f.qty)=f.qty:=dI.1 hsl.cq;have hnet:af (valI f.amt-valI f.fee)=iH f:=rfl
 have su:∀W B d,Ext w W→fG W B (cz ls f m.toNat ps)→Calls Tryz.prog 17 #[.slice B (cz ls f m.toNat ps).length d] W fun e w'=>e = .returned (.tuple #[.string (bs f.qty),.string (bs (iH f)),.string (bs (af (aZ (aM ls f m.toNat ps) f.ins)))])∧Ext W w':=fun W B d hx h=>by
  have:=Iz (cz ls f m.toNat ps) B d W (HE.out.ext hx) h (fun g hg=>by have:=gl2 g hg;omega) (by omega);rw[su1,su2,su3,hcq,hnet]at this
  exact this
 have SU:=qh su;have CT2:=qh (fun W B d (hx:Ext w W) (h:bv W B (aY ls f m.toNat ps))=>gc (aY ls f m.toNat ps) B d f.ins W (HE.out.ext hx) h rsm (by omega));have CR:=fun W B d (hx:Ext w W) (h:bv W B (aY ls f m.toNat ps))=>dm (aY ls f m.toNat ps) B d W (HE.out.ext hx) h rsm (by omega)
 rw[rok]at CR;replace CR:=qh CR;have sb:=j8 f.amt f.fee (by have:=hsl.al;omega) (by have:=hsl.fl;omega);rw[hnet]at sb;have SB:=qh (fun W (hx:Ext w W)=>sb W (HE.out.ext hx));have hrl:=ix f.ins (aY ls f m.toNat ps).length rsm (by omega);have hrc:=pi f.ins (aY ls f m.toNat ps).length rsm (by omega);rw[List.take_length]at hrl hrc
 have htc:(af (aZ (aM ls f m.toNat ps) f.ins)).length≤5000:=by
  rw[←su3];have:=eD (f:=(·.c)) (L:=4000) (fun g hg=>by have:=(gl2 g hg).2.2;omega) (by omega) (cz ls f m.toNat ps).length;rw[List.take_length]at this
  omega
 have a1:=eS (af (aH (aY ls f m.toNat ps) f.ins)) f.qty (by omega) (by have:=hsl.ql;omega);rw[ah,ke1]at a1;have A1:=qh (fun W (hx:Ext w W)=>a1 W (HE.out.ext hx));have a2:=eS (af (aZ (aY ls f m.toNat ps) f.ins)) (af (aZ (aM ls f m.toNat ps) f.ins)) (by omega) (by omega);rw[ah,ah,ke2]at a2;have A2:=qh (fun W (hx:Ext w W)=>a2 W (HE.out.ext hx));have OA:=qh (fun W (hx:Ext w W)=>uW ls A c f.ins W (HL.out.la.ext hx) hln);have OB:=fun W B d (h:bv W B (aY ls f m.toNat ps))=>uW (aY ls f m.toNat ps) B d f.ins W h (by omega)
 rw[hot]at OB;replace OB:=qh OB;have hol:(fp ls f.ins).length≤100000:=Nat.le_trans (List.length_filter_le _ _) hln
 have SM:Hid (∀W B C b d,bv W B (fp ls f.ins)→bv W C (fp ls f.ins)→Calls Tryz.prog 20 #[.slice B (fp ls f.ins).length b,.slice C (fp ls f.ins).length d] W fun e w'=>e = .returned (.bool true)∧Ext W w'):=qh (fun W B C b d h1 h2=>(E0 _ _ B C b d W h1 h2 (by omega) (by omega)).mono (by
  rintro e w'⟨rfl,hx⟩;exact⟨by simp,hx⟩))
 have AW:=qh (fun W (hx:Ext w W)=>fR W (HE.out.ext hx));clear hgo hi hq hsl gl1 gl2 su1 su2 su3 ke1 ke2 hot rok rfi rsm rln hcq hnet su sb hrl hrc htc a1 a2 hol hz hln HAL;generalize af (aZ (aM ls f m.toNat ps) f.ins)=tc at *;generalize af (aH (aY ls f m.toNat ps) f.ins)=rq at *;generalize af (aZ (aY ls f m.toNat ps) f.ins)=rc at *;generalize af (aH ls f.ins)=hq at *;generalize af (aZ ls f.ins)=hc at *;generalize aY ls f m.toNat ps=rs at *;generalize cz ls f m.toNat ps=gs at *;generalize kI ls f m.toNat ps=ss at *;generalize fp ls f.ins=ot at *;generalize hnb:iH f=nb at *;have hrg:=aW HB.out;go_wp2_with (first|refine cD (by kernel_rfl) 30 _ rfl F 0 rfl _ _ hrg Tryz.underlying30 rfl hs1 ?_|fail);refine(SY.out _ HX.out).mono ?_;rintro e w3⟨Ra,ra,Rb,rb,Rc,rc',rfl,h1,h2,_,hx1⟩;have hxn:=Ext.new w3 (.cells #[.slice Ra rs.length ra,.slice Rb gs.length rb,.slice Rc ss.length rc',.slice none 0 0] 39);have hx2:=hx1.trans hxn;have HR:=qh (Blk.new w3 39 #[.slice Ra rs.length ra,.slice Rb gs.length rb,.slice Rc ss.length rc',.slice none 0 0]);have HRL:=qh (h1.ext hxn);have HRG:=qh (h2.ext hxn);replace HX:=HX.qt hx2;replace HB:=qh (HB.out.ext hx2);clear hx1 hx2 hxn hrg SY h1 h2;go_upto_region 4 with fail;generalize w3.alloc (.cells #[.slice Ra rs.length ra,.slice Rb gs.length rb,.slice Rc ss.length rc',.slice none 0 0] 39)=W3 at *;generalize w3.heap.size=R at *;obtain⟨p5,p9,p10,p11,r0,r1,r2,r3⟩:=dG HB.out HR.out (Ext.refl _);go_wp2_with fail;refine(CT.out _ HX.out).mono ?_;rintro e w4⟨rfl,hx1⟩;replace HX:=HX.qt hx1;replace HB:=qh (HB.out.ext hx1);replace HR:=qh (HR.out.ext hx1);replace HRL:=qh (HRL.out.ext hx1);replace HRG:=qh (HRG.out.ext hx1);clear hx1 CT p5 p9 p10 p11 r0 r1 r2 r3;obtain⟨p5,p9,p10,p11,r0,r1,r2,r3⟩:=dG HB.out HR.out (Ext.refl _);go_wp2_with fail;refine(SU.out _ _ _ HX.out HRG.out).mono ?_;rintro e w5⟨rfl,hx1⟩;replace HX:=HX.qt hx1;replace HB:=qh (HB.out.ext hx1);replace HR:=qh (HR.out.ext hx1);replace HRL:=qh (HRL.out.ext hx1);clear hx1 SU HRG p5 p9 p10 p11 r0 r1 r2 r3;obtain⟨p5,p9,p10,p11,r0,r1,r2,r3⟩:=dG HB.out HR.out (Ext.refl _);go_wp2_with fail;refine(CT2.out _ _ _ HX.out HRL.out).mono ?_;rintro e w6⟨rfl,hx1⟩;replace HX:=HX.qt hx1;replace HB:=qh (HB.out.ext hx1);replace HR:=qh (HR.out.ext hx1);replace HRL:=qh (HRL.out.ext hx1);clear hx1 CT2 p5 p9 p10 p11 r0 r1 r2 r3;obtain⟨p5,p9,p10,p11,r0,r1,r2,r3⟩:=dG HB.out HR.out (Ext.refl _);go_upto_region 10 with fail;have HD:Hid (Ext w6 w6.drew):=qh (Ext.refl w6).drew
 go_region_held3 (fun w'=>w'.cell? ⟨F,5,none⟩=some (.string (bs f.ins))∧w'.cell? ⟨F,9,none⟩=some (.string (bs f.qty))∧w'.cell? ⟨F,10,none⟩=some (.string (bs f.amt))∧w'.cell? ⟨F,11,none⟩=some (.string (bs f.fee))∧w'.cell? ⟨R,0,none⟩=some (.slice Ra rs.length ra)∧w'.cell? ⟨R,1,none⟩=some (.slice Rb gs.length rb)∧w'.cell? ⟨R,2,none⟩=some (.slice Rc ss.length rc')∧w'.cell? ⟨R,3,none⟩=some (.slice none 0 0))
  (go_keep)
  (first
   |(go_at_call 18;((with_reducible refine(SB.out _ (HX.out.trans HD.out)).mono ?_);rintro e w5⟨rfl,hx⟩);(replace HD:=HD.qt hx);(obtain⟨p5,p9,p10,p11,r0,r1,r2,r3⟩:=dG HB.out HR.out HD.out);clear hx)
   |(go_at_call 19;((with_reducible refine(A1.out _ (HX.out.trans HD.out)).mono ?_);rintro e w5⟨rfl,hx⟩);(replace HD:=HD.qt hx);(obtain⟨p5,p9,p10,p11,r0,r1,r2,r3⟩:=dG HB.out HR.out HD.out);clear hx)
   |(go_at_call 19;((with_reducible refine(A2.out _ (HX.out.trans HD.out)).mono ?_);rintro e w5⟨rfl,hx⟩);(replace HD:=HD.qt hx);(obtain⟨p5,p9,p10,p11,r0,r1,r2,r3⟩:=dG HB.out HR.out HD.out);clear hx)
   |(go_at_call 21;((with_reducible refine(OA.out _ (HX.out.trans HD.out)).mono ?_);rintro e w5⟨⟨A7,c7,rfl,hq7⟩,hx⟩);(replace HD:=HD.qt hx);(have HQ7:=qh hq7);(obtain⟨p5,p9,p10,p11,r0,r1,r2,r3⟩:=dG HB.out HR.out HD.out);clear hx hq7 OA)
   |(go_at_call 21;((with_reducible refine(OB.out _ _ _ (HRL.out.ext HD.out)).mono ?_);rintro e w5⟨⟨A8,c8,rfl,hq8⟩,hx⟩);(replace HD:=HD.qt hx);(have HQ8:=qh hq8);(have HQ9:=qh (HQ7.out.ext hx));(obtain⟨p5,p9,p10,p11,r0,r1,r2,r3⟩:=dG HB.out HR.out HD.out);clear hx hq8 OB)
   |(go_at_call 20;((with_reducible refine(SM.out _ _ _ _ _ HQ9.out HQ8.out).mono ?_);rintro e w5⟨rfl,hx⟩);(replace HD:=HD.qt hx);(obtain⟨p5,p9,p10,p11,r0,r1,r2,r3⟩:=dG HB.out HR.out HD.out);clear hx)
   |(go_at_call 11;((with_reducible refine(CR.out _ _ _ (HX.out.trans HD.out) (HRL.out.ext HD.out)).mono ?_);rintro e w5⟨rfl,hx⟩);(replace HD:=HD.qt hx);(obtain⟨p5,p9,p10,p11,r0,r1,r2,r3⟩:=dG HB.out HR.out HD.out);clear hx)
   |(go_at_call 12;((with_reducible refine(AW.out _ (HX.out.trans HD.out)).mono ?_);rintro e w5⟨rfl,hx⟩);(replace HD:=HD.qt hx);(obtain⟨p5,p9,p10,p11,r0,r1,r2,r3⟩:=dG HB.out HR.out HD.out);clear hx)
   |fail)
 all_goals
  go_wp2_with fail;go_ret;exact⟨rfl,HX.out.trans HD.out⟩
end
section
open Go.RowKit Go.Shelf
theorem dlKeeps(ls:List LotV)(A:Option Addr)(c:Nat)(f:FactV)(ps:List Fr)(os:List OptV)(pa oa:Option Addr)(pc oq:Nat)(n:Int)(W:World)(hR:bv W A ls)(_:ls.length≤c)(hn:ls.length≤4611686018427387904)(hF:FactIn W f ps os pa oa pc oq)(hE:Env W) :
  Calls Tryz.prog 3 #[.slice A ls.length c,aL f (ag pa ps.length pc) (ag oa os.length oq),.int .i64 n] W fun e w'=>e = .returned (.bool true)∧Ext W w' :=
 AC ls A c f ps os pa oa pc oq n W hE ⟨hR,hF.rp,hF.cp,hF.ro,hF.wf,hn,hF.np,hF.no⟩
end
end Go.Proofs.YtaegjkllenlfpaaGreatDoor
