/- Part. -/
import Derived.Test.YthgpheopnhajaaaGreatDoorQ34
import Derived.Test.YthgpheopnhajaaaGreatDoorP38
import Derived.Test.YthgpheopnhajaaaGreatDoorRows
import Derived.Lib.SmallJoins
import Derived.Stop.LaidErr
set_option maxRecDepth 100000
set_option maxHeartbeats 8000000
namespace Go.Proofs.YthgpheopnhajaaaGreatDoor
section
open Go.RowKit
structure ApOK (ls:List LotV) (f:FactV) (ps:List Fr) (os:List OptV) (k:Nat) (o:OptV) (N cash:Bs) (fr:Fr) (basis other:Bs) (st:ApSt):Prop where
 hG:bZ ls=false
 gn:GreatNo f ps os
 all:aw ls=0
 sm:∀x ∈ ls,bv x
 ln:ls.length≤1000
 key:ax f.key=true
 at_:∃h:k<os.length,os[k]'h=o
 old:ap ls f.ins≠[]
 oe:dS o=0
 one:o.other≠f.ins
 osm:eP 24 o
 T:TermsNum o (ofI (aJ ls f.ins)) N cash fr
 q0:0≤aJ ls f.ins
 c0:0≤au ls f.ins
 ql:(ofI (aJ ls f.ins)).length≤20
 cl:(ofI (au ls f.ins)).length≤20
 bas:basis=aM o (ofI (au ls f.ins)) N cash
 oth:other=aN o f.ins N
 st_:dx N f.key other (ap ls f.ins) cash basis=st
 kN:fx N ((ap ls f.ins).map (·.q))
 kC:fx cash ((ap ls f.ins).map (·.q))
 kB:fx basis ((ap ls f.ins).map (·.c))
 b0:aq basis=0
 bn:0≤valI basis
 ble:valI basis≤au ls f.ins
 bl:basis.length≤21
 F:FreshOK f.key other (ap ls f.ins) (aI (·.q) N (ap ls f.ins)) (aI (·.c) basis (ap ls f.ins)) st
 dn:∀b ∈ aI (·.q) N (ap ls f.ins),b.length≤102∧aq b=0∧0≤valI b
 dp:∀b ∈ aI (·.q) cash (ap ls f.ins),b.length≤602∧aq b=0∧0≤valI b
 dk:∀b ∈ aI (·.c) basis (ap ls f.ins),b.length≤50∧aq b=0∧0≤valI b
theorem Hp{ls:List LotV}{f:FactV}{ps:List Fr}{os:List OptV}{ch:Nat}(hG:bZ ls=false)(hN:GreatNo f ps os)(hall:aw ls=0)(hfe:cP f ps os=0)(hkd:f.kind=10)(hch:ch<os.length)(hold:ap ls f.ins≠[]){N cash:Bs}{fr:Fr}(T:TermsNum (os[ch]'hch) (ofI (aJ ls f.ins)) N cash fr) :
  ApOK ls f ps os ch (os[ch]'hch) N cash fr (aM (os[ch]'hch) (ofI (au ls f.ins)) N cash) (aN (os[ch]'hch) f.ins N) (dx N f.key (aN (os[ch]'hch) f.ins N) (ap ls f.ins) cash (aM (os[ch]'hch) (ofI (au ls f.ins)) N cash)):=by
 obtain⟨k1,k2,k3,k4⟩:=uW hfe hkd;obtain⟨oe,one⟩:=uX k4 hch;have hos:=hN.os _ (List.getElem_mem hch);have hsm:=jt hG;have hck:=di hall;have hq:=nS (ins:=f.ins) hall;have hc:=nR (ins:=f.ins) hall;have hl0:0<(ap ls f.ins).length:=List.length_pos_iff.2 hold;have hle:(ap ls f.ins).length≤ls.length:=List.length_filter_le _ _;have hql:=tH (ls:=ls) (ins:=f.ins) hG;have hcl:=tI (ls:=ls) (ins:=f.ins) hG;have hat:∃h:ch<os.length,os[ch]'h=os[ch]'hch:=⟨hch,rfl⟩;generalize os[ch]'hch=o at *;obtain⟨_,e1,e2,e3,e4⟩:=kz oe;have hos2:=hos;obtain⟨s0,s1,s2,s3,s4,s5,s6⟩:=hos;have v0:0≤cD o.v N:=pC (jx e3).2.2.2.1 T.nn;obtain⟨b0,b1,b2,b3⟩:=rx (o:=o) (cs:=ofI (au ls f.ins)) (N:=N) (cash:=cash) (by rw[ag];exact hc) hcl T.cn v0;rw[ag]at b2;have hmem:∀x ∈ ap ls f.ins,x ∈ ls:=fun x hx=>(f7 hx).1
 have hg:=d7 hG;have hqs:∀x ∈ ap ls f.ins,x.q.length≤50:=fun x hx=>by have:=(fc (hg.2 x (hmem x hx))).1;omega
 have hqs2:∀x ∈ ap ls f.ins,x.q.length≤300:=fun x hx=>by have:=hqs x hx;omega
 have hcs:∀x ∈ ap ls f.ins,x.c.length≤24:=fun x hx=>by have:=(fc (hg.2 x (hmem x hx))).2.1;omega
 have wq:WtOK ((ap ls f.ins).map (·.q)):=Bk f.ins hsm hall hl0;have wc:aM o (ofI (au ls f.ins)) N cash≠[]→WtOK ((ap ls f.ins).map (·.c)):=fun h=>EL hsm hall hl0 (by have:=pB b0 b1 h;omega)
 have dn:=kH (wt:=(·.q)) (ls:=ap ls f.ins) T.nn (fun _=>wq) (L:=50) T.nl hqs;have dp:=kH (wt:=(·.q)) (ls:=ap ls f.ins) T.cn (fun _=>wq) (L:=300) T.cl hqs2;have dk:=kH (wt:=(·.c)) (ls:=ap ls f.ins) b1 wc (L:=24) (by omega) hcs
 have F:=tJ (N:=N) (key:=f.key) (other:=aN o f.ins N) (olds:=ap ls f.ins) (ns:=aI (·.q) N (ap ls f.ins)) (ps:=aI (·.q) cash (ap ls f.ins)) (ks:=aI (·.c) (aM o (ofI (au ls f.ins)) N cash) (ap ls f.ins)) k1 hN.key
  (fun h=>by unfold aN;rw[if_neg h];exact T.nm h) (by unfold aN;split;exact hN.ins;exact s0) (by omega) (fun x hx=>hck.2 x (hmem x hx)) (fun b hb=>by have:=dn b hb;exact⟨by omega,this.2⟩) (fun b hb=>by have:=dk b hb;exact⟨by omega,this.2⟩)
 exact {
  hG:=hG,gn:=hN,all:=hall,sm:=hsm,ln:=hck.1,key:=k1,at_:=hat,old:=hold,oe:=oe,one:=one,osm:=hos2,T:=T,q0:=hq,c0:=hc,ql:=hql,cl:=hcl,bas:=rfl,oth:=rfl,st_:=rfl
  kN:=⟨by have:=T.nl;omega,T.n0,fun _=>wq⟩
  kC:=⟨by have:=T.cl;omega,T.c0,fun _=>wq⟩
  kB:=⟨by omega,b0,wc⟩
  b0:=b0,bn:=b1,ble:=b2,bl:=b3,F:=F
  dn:=fun b hb=>by have:=dn b hb;exact⟨by omega,this.2⟩
  dp:=fun b hb=>by have:=dp b hb;exact⟨by omega,this.2⟩
  dk:=fun b hb=>by have:=dk b hb;exact⟨by omega,this.2⟩ }
section
variable {ls:List LotV} {f:FactV} {ps:List Fr} {os:List OptV} {k:Nat} {o:OptV} {N cash:Bs} {fr:Fr} {basis other:Bs} {st:ApSt}
theorem ApOK.lens(_:ApOK ls f ps os k o N cash fr basis other st):(aI (·.q) N (ap ls f.ins)).length=(ap ls f.ins).length∧(aI (·.q) cash (ap ls f.ins)).length=(ap ls f.ins).length∧(aI (·.c) basis (ap ls f.ins)).length=(ap ls f.ins).length:=⟨eN _ _ _,eN _ _ _,eN _ _ _⟩
theorem ApOK.nz(h:ApOK ls f ps os k o N cash fr basis other st):N≠[]→valI N≠0:=fun e=>by have:=pB h.T.n0 h.T.nn e;omega
theorem ApOK.frOK(h:ApOK ls f ps os k o N cash fr basis other st)(hnf:∀x ∈ st.fs,(cr ls x.id).isSome=false):FrOK (bd ls f.ins) (ay st):=by
 have F:=h.F;have hlen:(ay st).length=st.fs.length:=gB _;refine FrOK.mk (uY h.all) (fun x hx=>h.sm x (List.mem_filter.1 hx).1) ?_ ?_ ?_ ?_ ?_
 ·have h1:=lC ls f.ins;have h2:=F.le;have h3:=h.ln;omega
 ·intro x hx;obtain⟨j,hj,rfl⟩:=List.getElem_of_mem hx;exact(F.at_ j hj).1
 ·intro x hx;obtain⟨j,hj,rfl⟩:=List.getElem_of_mem hx;exact(F.at_ j hj).2.1
 ·intro x hx y hy;obtain⟨j,hj,rfl⟩:=List.getElem_of_mem hx;obtain⟨_,_,i1,h',i2⟩:=F.at_ j hj;have h3:=mY.1 (hnf _ (List.getElem_mem h')) y (List.mem_filter.1 hy).1;intro e;apply h3;rw[e];exact i1.trans i2.symm
 ·intro i j hi hj e;have h1:=(F.at_ i hi).2.2.1;have h2:=(F.at_ j hj).2.2.1;have h3:=h.ln;have h4:=F.le;have h5:(ap ls f.ins).length≤ls.length:=List.length_filter_le _ _;have:=uV (key:=f.key) (n:=i+1) (m:=j+1) (by omega) (by omega) (h1.symm.trans (e.trans h2));omega
theorem ApOK.lots(h:ApOK ls f ps os k o N cash fr basis other st)(hnf:∀x ∈ st.fs,(cr ls x.id).isSome=false):(∀x ∈ aG (bd ls f.ins) (ay st),bv x)∧(aG (bd ls f.ins) (ay st)).length≤1000∧aw (aG (bd ls f.ins) (ay st))=0:=by
 have R:=h.frOK hnf;refine⟨fun x hx=>?_,by rw[mX];exact R.len,R.done⟩;rcases jB _ _ hx with g|g
 ·exact R.sm x g
 ·exact R.fsm x g
end
end
section
open Go.RowKit Go.Shelf
structure LawIn (w:World) (ls:List LotV) (A:Option Addr) (f:FactV) (ps:List Fr) (os:List OptV) (pa oa:Option Addr) (pc:Nat):Prop where
 la:bp w A ls
 rp:iM w pa ps
 cp:ps.length≤pc
 ro:k9 w oa os
 wf:(Lit.int .i64 f.kind).wf=true
 nl:ls.length≤4611686018427387904
 np:ps.length≤4611686018427387904
 no:os.length≤4611686018427387904
theorem LawIn.ext{w w':World}{ls:List LotV}{A:Option Addr}{f:FactV}{ps:List Fr}{os:List OptV}{pa oa:Option Addr}{pc:Nat}(h:LawIn w ls A f ps os pa oa pc)(hx:Ext w w'):LawIn w' ls A f ps os pa oa pc:=⟨h.la.ext hx,h.rp.ext hx,h.cp,h.ro.ext hx,h.wf,h.nl,h.np,h.no⟩
theorem LawIn.fact{w:World}{ls:List LotV}{A:Option Addr}{f:FactV}{ps:List Fr}{os:List OptV}{pa oa:Option Addr}{pc:Nat}(h:LawIn w ls A f ps os pa oa pc)(n:GreatNo f ps os):FactAt w f ps os pa oa pc:=by
 obtain⟨n0,n1,n2,n3,n4,n5,n6,n7,n8,n9,n10,n11,n12,n13,n14⟩:=n;refine⟨⟨by omega,by omega,by omega,by omega,by omega,by omega,by omega,by omega,by omega,by omega,by omega,by omega,by omega,by omega⟩,h.rp,fun p hp=>?_,by omega,h.cp,h.ro,fun o ho=>?_,by omega⟩
 ·have:=n12 p hp;omega
 ·obtain⟨s0,s1,s2,s3,s4,s5,s6⟩:=n14 o ho;exact⟨by omega,by omega,by omega,by omega,by omega,by omega,by omega⟩
theorem ApIn.ext{w w':World}{ls:List LotV}{A:Option Addr}{c:Nat}{f:FactV}{ps:List Fr}{os:List OptV}{pa oa:Option Addr}{pc oq ch:Nat}{o:OptV}{N cash cs:Bs}{fr:Fr}(h:ApIn w ls A c f ps os pa oa pc oq ch o N cash cs fr)(hx:Ext w w'):ApIn w' ls A c f ps os pa oa pc oq ch o N cash cs fr :=
 ⟨h.la.ext hx,h.lsm,h.ln,h.all,h.fa.ext hx,h.fe,h.kd,h.at_,h.old,h.cst,h.tv,h.osm,h.lq,h.lc,h.lN,h.lcash,h.lval,h.cc,h.cn,h.kS,h.kN,h.kC,h.kB,h.fsm,h.opn⟩
end
section
open Go.RowKit Go.Shelf
abbrev rD:FactV:=⟨bX,0,false,19723,10,cA,[],[],[],[],[],[],⟨[],[]⟩,⟨[],[]⟩,⟨[],[]⟩,0⟩
theorem CW:cP rD [] [fA]=0:=by decide +kernel
theorem AV:bZ du=false:=by decide +kernel
theorem BD:GreatNo rD [] [fA]:=⟨by decide,by decide,by decide,by decide,by decide,by decide,by decide,by decide,⟨by decide,by decide⟩,⟨by decide,by decide⟩,⟨by decide,by decide⟩,by decide,fun _ h=>(by cases h),by decide,fun o h=>by
 have e:o=fA:=by simpa using h
 subst e;exact⟨by decide,by decide,by decide,by decide,by decide,by decide,by decide⟩⟩
theorem AW:aM fA (ofI (au du cA)) [55] [51,56]=[49,49,50]:=by
 unfold aM;rw[if_neg (by decide),Iy,ag,EF,ag,show valI [51,56]=38 by decide +kernel,EG];exact dz (by decide +kernel) (by decide +kernel)
theorem Hq:aI (·.q) [55] du=[[53],[50]]:=by unfold aI;rw[if_neg (by decide)];exact Hb
theorem Hr:aI (·.q) [51,56] du=[[50,53],[49,51]]:=by unfold aI;rw[if_neg (by decide)];exact Hc
theorem Hs:aI (·.c) [49,49,50] du=[[57,51],[49,57]]:=by unfold aI;rw[if_neg (by decide)];exact Hd
theorem Ht:fZ bX 1=[120,47,49]:=by unfold fZ;rw[jm (by omega:1≤1),show dig10 1=[49] from by decide +kernel];rfl
theorem Hu:fZ bX 2=[120,47,50]:=by unfold fZ;rw[jm (by omega:1≤2),show dig10 2=[50] from by decide +kernel];rfl
theorem Hv:dw tC [57,51]=[55]:=by unfold dw;exact dz (by decide +kernel) (by decide +kernel)
theorem Hw:dw ww [49,57]=[49]:=by unfold dw;exact dz (by decide +kernel) (by decide +kernel)
theorem ES:∃ss,dx [55] bX [100,101,102] du [51,56] [49,49,50]=⟨[⟨[97,47,49],19700,[],[50,53],[55]⟩,⟨[98,47,49],19710,[],[49,51],[49]⟩],ss,[iV,kF],0⟩:=by
 unfold dx;rw[Hq,Hr,Hs];show ∃ss,fz [55] bX [100,101,102] (fz [55] bX [100,101,102] ⟨[],[],[],0⟩ tC [53] [50,53] [57,51]) ww [50] [49,51] [49,57]=_
 have a1:∃ss,fz [55] bX [100,101,102] ⟨[],[],[],0⟩ tC [53] [50,53] [57,51]=⟨[⟨[97,47,49],19700,[],[50,53],[55]⟩],ss,[iV],0⟩:=by
  have hf:io bX [100,101,102] ⟨[],[],[],0⟩ tC [53] [57,51]=[iV]:=by
   unfold io js fL;rw[if_neg (by decide),if_neg (by decide)];show [(⟨fZ bX 1,_,_,_,_,_,_⟩:LotV)]=_;rw[Ht]
  rw[dm (by decide) _ _ _ _ _ _ _ Hv,hf];exact⟨_,rfl⟩
 obtain⟨ss,a1⟩:=a1
 have hf:io bX [100,101,102] ⟨[⟨[97,47,49],19700,[],[50,53],[55]⟩],ss,[iV],0⟩ ww [50] [49,57]=[iV,kF]:=by
  unfold io js fL;rw[if_neg (by decide),if_neg (by decide)];show [iV,(⟨fZ bX 2,_,_,_,_,_,_⟩:LotV)]=_;rw[Hu]
 rw[a1,dm (by decide) _ _ _ _ _ _ _ Hw,hf];exact⟨_,rfl⟩
theorem AX(gs:List GainR)(ss:List StepR):aG (bd du cA) (ay ⟨gs,ss,[iV,kF],0⟩)=[iV,kF]:=by
 have e:ay ⟨gs,ss,[iV,kF],0⟩=[iV,kF]:=by
  show [(⟨_,_,_,_,_,ofI (valI [57,51]+0),_⟩:LotV),kF]=_;rw[dz (l:=[57,51]) (z:=valI [57,51]+0) (by decide +kernel) (by decide +kernel)]
 rw[e];decide +kernel
theorem IE(A:Option Addr)(c:Nat)(AO:Option Addr)(cO:Nat)(w:World)(hA:bp w A du)(_:2≤c)(hO:k9 w AO [fA])(hE:Env w) :
  Calls Tryz.prog 14 #[.slice A 2 c,xv bX 19723 cA AO 1 cO,.int .i64 0] w (EH w):=by
 have hI:LawIn w du A rD [] [fA] none AO 0:=⟨hA,⟨rfl,fun h=>absurd h (by decide)⟩,by decide,hO,by decide,by decide,by decide,by decide⟩;obtain⟨N,cash,fr,T,hin⟩:=wA (oq:=cO) (c:=c) (ch:=0) AV BD hA (hI.fact BD) EE CW rfl (by decide) (show ap du cA≠[] by rw[Ha];decide)
 have ht:([55],[51,56],⟨[49],[50]⟩,0)=(N,cash,fr,(0:Int)):=by
  have h1:da fA (ofI (aJ du cA))=(N,cash,fr,0):=T.eq;rw[Ix,dz (l:=[49,53]) (z:=15) (by decide +kernel) (by decide +kernel),tD]at h1;exact h1
 injection ht with h1 h2
 injection h2 with h2 h3
 injection h3 with h3 _
 subst h1;subst h2;subst h3;have AP:=wE w du A c rD [] [fA] none AO 0 cO 0 fA [55] [51,56] (ofI (au du cA)) ⟨[49],[50]⟩ hin hE;obtain⟨ss,he⟩:=ES;rw[AW,show aN fA rD.ins [55]=[100,101,102] from rfl,show ap du rD.ins=du from rfl,show rD.key=bX from rfl,he]at AP;refine AP.mono ?_;rintro e w' (⟨⟨x,hx1,hx2⟩,_⟩ | ⟨_,AL,cl,AG,cg,AS,cs',gE,gT',rfl,hL,hG,_,_,_,hx⟩)
 ·have hx3:x=iV∨x=kF:=by simpa using hx1
  rcases hx3 with rfl|rfl <;> exact absurd hx2 (by decide +kernel)
 ·have ef:aG (bd du rD.ins) (ay ⟨[⟨[97,47,49],19700,[],[50,53],[55]⟩,⟨[98,47,49],19710,[],[49,51],[49]⟩],ss,[iV,kF],0⟩)=[iV,kF]:=AX _ ss;rw[ef]at hL ⊢;obtain⟨b,o,rfl,_⟩:=Reads.at_ hG (show 0<2 by decide);have h6:=Reads.cell hG (j:=6) (u := .string (bs [50,53])) rfl;have h7:=Reads.cell hG (j:=17) (u := .string (bs [49])) rfl;exact⟨AL,cl,b,o,cg,AS,_,cs',some ⟨gE,0,none⟩,rfl,hL.1,h6,by rw[Nat.add_assoc];exact h7,hx⟩
end
section
open Go.RowKit Go.Shelf
attribute [local go_sem] size_bs toList_bs
theorem pE{w:World}{g:Nat}{cs:Array Value}(h:Blk w g 30 cs):w.there g 0 cs.size:=fun j hj=>by
 rw[Nat.zero_add,h.cell j,h.frozen j,Array.getElem?_eq_getElem hj];exact⟨rfl,rfl⟩
abbrev xz:Array Value:=#[.string ⟨#[]⟩,.int .i64 0,.bool false,.int .i64 0,.int .i64 0,.string ⟨#[]⟩,.string ⟨#[]⟩,.string ⟨#[]⟩,.string ⟨#[]⟩,.string ⟨#[]⟩,.string ⟨#[]⟩,.string ⟨#[]⟩,.string ⟨#[]⟩,.string ⟨#[]⟩,.string ⟨#[]⟩,.string ⟨#[]⟩,.string ⟨#[]⟩,.string ⟨#[]⟩,.slice none 0 0,.slice none 0 0,.int .i64 0]
def ET(w:World)(e:Ending)(w':World):Prop:=∃A AO,e = .returned (.tuple #[.slice A 2 2,xv bX 19723 cA AO 1 1])∧bp w' A du∧k9 w' AO [fA]∧Ext w w'
theorem rE{w:World}{g:Nat}{xs ys:List Value}(h:Blk w g 30 xs.toArray)(hl:xs.length=ys.length):Blk (w.setCells g 0 ys) g 30 ys.toArray:=by
 have:=Blk.sets ys 0 w xs h (by omega);unfold aW at this
 rw[List.take_zero,List.nil_append,List.drop_of_length_le (by omega),List.append_nil]at this
 exact this
theorem wF{fn:Func}{a b:Tmp}(h:fn.results=#[.tmp a,.cell b 30])(tmps:Array Value)(w:World)(g:Nat)(z:Value)(cs:List Value)(hl:cs.length=21)(hz:tmps.getD a undef=z)(ha:tmps.getD b undef = .pointer (some ⟨g,0,none⟩))(hb:Blk w g 30 cs.toArray) :
  (results fn tmps).run Tryz.prog w = .ok (.tuple #[z,.agg cs.toArray]) w:=by
 have hs1:(Tryz.prog.info? 30).map (·.size)=some cs.length:=by rw[hl];kernel_rfl
 have hrg:w.rangeAt g 0 cs:=aA hb;have hld:=run_loadVar_mid w g 0 30 cs _ hrg Tryz.underlying30 rfl hs1;unfold results;rw[h];simp only[List.mapM_toArray,List.mapM_cons,List.mapM_nil,ha,hz];simp[asAddr,hld]
theorem wG(w:World):Calls Tryz.prog 51 #[] w (ET w):=by
 have HB:=qh (((Blk.new w 30 xz).alloc (.cells #[.string ⟨#[97,47,49]⟩,.string ⟨#[97,98,99]⟩,.int .i64 19700,.int .i64 19700,.string ⟨#[49,48]⟩,.string ⟨#[49,48,48]⟩,.string ⟨#[]⟩,.string ⟨#[98,47,49]⟩,.string ⟨#[97,98,99]⟩,.int .i64 19710,.int .i64 19710,.string ⟨#[53]⟩,.string ⟨#[50,48]⟩,.string ⟨#[]⟩] 71)).alloc (.cells #[.string ⟨#[100,101,102]⟩,.string ⟨#[49]⟩,.string ⟨#[50]⟩,.string ⟨#[50]⟩,.string ⟨#[]⟩,.string ⟨#[49,54]⟩,.string ⟨#[]⟩] 50));have HL:=qh ((Blk.newAt (w.alloc (.cells xz 30)) 71 #[.string ⟨#[97,47,49]⟩,.string ⟨#[97,98,99]⟩,.int .i64 19700,.int .i64 19700,.string ⟨#[49,48]⟩,.string ⟨#[49,48,48]⟩,.string ⟨#[]⟩,.string ⟨#[98,47,49]⟩,.string ⟨#[97,98,99]⟩,.int .i64 19710,.int .i64 19710,.string ⟨#[53]⟩,.string ⟨#[50,48]⟩,.string ⟨#[]⟩] (w.heap.size+1) (by simp)).alloc (.cells #[.string ⟨#[100,101,102]⟩,.string ⟨#[49]⟩,.string ⟨#[50]⟩,.string ⟨#[50]⟩,.string ⟨#[]⟩,.string ⟨#[49,54]⟩,.string ⟨#[]⟩] 50));have HO:=qh (Blk.newAt ((w.alloc (.cells xz 30)).alloc (.cells #[.string ⟨#[97,47,49]⟩,.string ⟨#[97,98,99]⟩,.int .i64 19700,.int .i64 19700,.string ⟨#[49,48]⟩,.string ⟨#[49,48,48]⟩,.string ⟨#[]⟩,.string ⟨#[98,47,49]⟩,.string ⟨#[97,98,99]⟩,.int .i64 19710,.int .i64 19710,.string ⟨#[53]⟩,.string ⟨#[50,48]⟩,.string ⟨#[]⟩] 71)) 50 #[.string ⟨#[100,101,102]⟩,.string ⟨#[49]⟩,.string ⟨#[50]⟩,.string ⟨#[50]⟩,.string ⟨#[]⟩,.string ⟨#[49,54]⟩,.string ⟨#[]⟩] (w.heap.size+1+1) (by simp));have HX:Hid (Ext w _):=qh (((Ext.new w (.cells xz 30)).alloc (.cells #[.string ⟨#[97,47,49]⟩,.string ⟨#[97,98,99]⟩,.int .i64 19700,.int .i64 19700,.string ⟨#[49,48]⟩,.string ⟨#[49,48,48]⟩,.string ⟨#[]⟩,.string ⟨#[98,47,49]⟩,.string ⟨#[97,98,99]⟩,.int .i64 19710,.int .i64 19710,.string ⟨#[53]⟩,.string ⟨#[50,48]⟩,.string ⟨#[]⟩] 71)).alloc (.cells #[.string ⟨#[100,101,102]⟩,.string ⟨#[49]⟩,.string ⟨#[50]⟩,.string ⟨#[50]⟩,.string ⟨#[]⟩,.string ⟨#[49,54]⟩,.string ⟨#[]⟩] 50));have hs2:(Tryz.prog.info? 30).map (·.size)=some (xc bX 19723 cA (some ⟨w.heap.size+1+1,0,none⟩) 1 1).size:=by kernel_rfl
 have hth:World.there _ w.heap.size 0 (xc bX 19723 cA (some ⟨w.heap.size+1+1,0,none⟩) 1 1).size:=(pE HB.out:World.there _ w.heap.size 0 (xz:Array Value).size);have hoc:(xc bX 19723 cA (some ⟨w.heap.size+1+1,0,none⟩) 1 1).all (·.oneCell')=true:=by simp[Value.oneCell']
 have HF:=qh (rE (w:=_) (xs:=xz.toList) (ys:=(xc bX 19723 cA (some ⟨w.heap.size+1+1,0,none⟩) 1 1).toList) (show Blk _ _ _ xz.toList.toArray from HB.out) rfl);have HXF:=qh (cV (xc bX 19723 cA (some ⟨w.heap.size+1+1,0,none⟩) 1 1).toList 0 _ () HX.out (Nat.le_refl w.heap.size));have HLF:=qh (HL.out.sets_far (g':=w.heap.size) (by omega) (xc bX 19723 cA (some ⟨w.heap.size+1+1,0,none⟩) 1 1).toList 0);have HOF:=qh (HO.out.sets_far (g':=w.heap.size) (by omega) (xc bX 19723 cA (some ⟨w.heap.size+1+1,0,none⟩) 1 1).toList 0);go_enter Tryz.func51,Tryz.ntmps51;go_wp2_with (first|(refine wpList_store_mid rfl 30 _ _ rfl w.heap.size 0 (xc bX 19723 cA (some ⟨w.heap.size+1+1,0,none⟩) 1 1) rfl rfl hth hs2 hoc ?_)|fail);refine bodyPost_ret (wF rfl _ _ w.heap.size (.slice (some ⟨w.heap.size+1,0,none⟩) 2 2) (xc bX 19723 cA (some ⟨w.heap.size+1+1,0,none⟩) 1 1).toList rfl rfl rfl HF.out) rfl ?_;refine⟨_,_,rfl,?_,?_,HXF.out⟩
 ·exact⟨rfl,fun _=>⟨_,_,rfl,HLF.out.lt,fun j u hu=>by rw[Nat.zero_add,HLF.out.cell,List.getElem?_toArray];exact hu⟩⟩
 ·exact⟨rfl,fun _=>⟨_,_,rfl,HOF.out.lt,fun j u hu=>by rw[Nat.zero_add,HOF.out.cell,List.getElem?_toArray];exact hu⟩⟩
end
section
open Go.RowKit Go.Shelf
attribute [local go_sem] size_bs toList_bs
theorem yy:dN fA [49,53]=([55],[51,56],⟨[49],[50]⟩,0):=by
 unfold dN;rw[if_neg (by rw[Iz];decide +kernel),if_neg (by decide +kernel)];exact tD
theorem CX:jI [49,50,48] [51,56] [49,49,50]=([51,48],[49,49,50],0):=by
 rw[pY (by decide +kernel) (by decide +kernel)];rw[show eB (valI [49,50,48]) (valI [51,56]) (valI [49,49,50])=30 by decide +kernel,dz (l:=[51,48]) (z:=30) (by decide +kernel) (by decide +kernel),dz (l:=[49,49,50]) (z:=valI [49,50,48]+30-valI [51,56]) (by decide +kernel) (by decide +kernel)]
theorem qx:nB:=by
 intro w hE;have HE:=qh hE;clear hE;go_enter Tryz.func13,Tryz.ntmps13;go_wp2_with fail;refine(wG _).mono ?_;rintro e w1⟨A,AO,rfl,hA,hO,hx1⟩;have HZ:=qh (Blk.new w1 30 xz);have HX:=qh (hx1.trans (cV (xc bX 19723 cA AO 1 1).toList 0 _ () (Ext.new w1 (.cells xz 30)) (Nat.le_refl w1.heap.size)));have HX1:=qh (cV (xc bX 19723 cA AO 1 1).toList 0 _ () (Ext.new w1 (.cells xz 30)) (Nat.le_refl w1.heap.size));have HA:=qh (hA.ext HX1.out);have HO:=qh (hO.ext HX1.out);have HF:Hid (Blk _ w1.heap.size 30 (xc bX 19723 cA AO 1 1)):=qh (rE (w:=_) (xs:=xz.toList) (ys:=(xc bX 19723 cA AO 1 1).toList) (show Blk _ _ _ xz.toList.toArray from HZ.out) rfl);have hs2:(Tryz.prog.info? 30).map (·.size)=some (xc bX 19723 cA AO 1 1).size:=by kernel_rfl
 have hs1:(Tryz.prog.info? 30).map (·.size)=some (xc bX 19723 cA AO 1 1).toList.length:=by kernel_rfl
 have hth:World.there _ w1.heap.size 0 (xc bX 19723 cA AO 1 1).size:=(pE HZ.out:World.there _ w1.heap.size 0 (xz:Array Value).size);have hoc:(xc bX 19723 cA AO 1 1).all (·.oneCell')=true:=by simp[Value.oneCell']
 clear hA hO hx1 HX1 HZ;go_wp2_with (first|(refine wpList_store_mid rfl 30 _ _ rfl w1.heap.size 0 (xc bX 19723 cA AO 1 1) rfl rfl hth hs2 hoc ?_;refine bD ?_)|fail);refine aX ?_;clear hth hoc hs2;generalize ((w1.alloc (.cells xz 30)).setCells w1.heap.size 0 (xc bX 19723 cA AO 1 1).toList)=w2 at *;generalize w1.heap.size=G2 at *;have hrg:=aA HF.out;go_wp2_with (first|refine wpList_load_mid rfl 30 _ rfl G2 0 rfl _ _ hrg Tryz.underlying30 rfl hs1 ?_|fail);refine(IE A 2 AO 1 w2 HA.out (Nat.le_refl _) HO.out (HE.out.ext HX.out)).mono ?_;rintro e w3⟨AL,cl,gG,oG,cg,AS,n,cs,AE,rfl,hr,hg1,hg2,hx1⟩;have hgl:=pL hg1;have HG:Hid (∀W,Ext w3 W→W.cell? ⟨gG,oG+6,none⟩=some (.string (bs [50,53]))∧W.cell? ⟨gG,oG+10+7,none⟩=some (.string (bs [49]))):=qh (fun W hx=>⟨(hx.cell (p:=⟨gG,oG+6,none⟩) hgl).trans hg1,(hx.cell (p:=⟨gG,oG+10+7,none⟩) hgl).trans hg2⟩);have HL:=qh hr;replace HX:=HX.qt hx1;replace HF:=qh (HF.out.ext hx1);replace HO:=qh (HO.out.ext hx1);clear hx1 hr hg1 hg2 hgl hrg HA;have HR:=qh (Blk.new w3 37 #[.slice AL 2 cl,.slice (some ⟨gG,oG,none⟩) 2 cg,.slice AS n cs,.slice AE 1 1]);have hx1:=Ext.new w3 (.cells #[.slice AL 2 cl,.slice (some ⟨gG,oG,none⟩) 2 cg,.slice AS n cs,.slice AE 1 1] 37);replace HX:=HX.qt hx1;replace HF:=qh (HF.out.ext hx1);replace HO:=qh (HO.out.ext hx1);have HY:=qh hx1;clear hx1;have x19:=(Ig HF.out (Ext.refl _)).2.2.2.2.2.2.2.2.2.2.2.2.2.2.2.2.2.2.2.1;obtain⟨bo,oo,rfl,hbo,o0,o1,o2,o3,o4,o5,o6⟩:=HO.out.at_ (k:=0) (by decide);simp only[List.getElem_cons_zero,Nat.zero_mul,Nat.add_zero]at o0 o1 o2 o3 o4 o5 o6;have TM:=qh (qc (L:=100) (by decide) (by decide) fA [49,53] ⟨by decide,by decide,by decide,by decide,by decide,by decide,by decide⟩ (by decide));rw[yy]at TM;have RV:=qh (mP [49,50,48] [51,56] [49,49,50] (by decide) (by decide) (by decide));rw[CX]at RV;dsimp only at TM RV;go_wp2_with fail;generalize w3.alloc (.cells #[.slice AL 2 cl,.slice (some ⟨gG,oG,none⟩) 2 cg,.slice AS n cs,.slice AE 1 1] 37)=W3 at *;generalize w3.heap.size=G3 at *;refine(TM.out _ (HE.out.ext HX.out)).mono ?_;rintro e w4⟨rfl,hx1⟩;replace HX:=HX.qt hx1;replace HY:=HY.qt hx1;replace HR:=qh (HR.out.ext hx1);clear hx1 x19 o0 o1 o2 o3 o4 o5 o6 hbo TM;have HP:=qh (Blk.new w4 26 #[.string (bs [49]),.string (bs [50])]);replace HX:=qh (HX.out.alloc (.cells #[.string (bs [49]),.string (bs [50])] 26));replace HY:=qh (HY.out.alloc (.cells #[.string (bs [49]),.string (bs [50])] 26));replace HR:=qh (HR.out.alloc (.cells #[.string (bs [49]),.string (bs [50])] 26));go_wp2_with fail;generalize w4.alloc (.cells #[.string (bs [49]),.string (bs [50])] 26)=W4 at *;generalize w4.heap.size=G4 at *;refine(RV.out _ (HE.out.ext HX.out)).mono ?_;rintro e w5⟨rfl,hx1⟩;replace HX:=HX.qt hx1;replace HY:=HY.qt hx1;replace HR:=qh (HR.out.ext hx1);replace HP:=qh (HP.out.ext hx1);clear hx1 RV;obtain⟨p0,p1,_,_⟩:=ah HP.out (Ext.refl _);obtain⟨r0,r1,r2,r3⟩:=bh HR.out (Ext.refl _);obtain⟨g0,g1⟩:=HG.out _ HY.out;have hLL:=HL.out.ext HY.out;obtain⟨b,o,rfl,hb,a0,a1,a2,a3,a4,a5,a6⟩:=hLL.at_ (k:=0) (by decide);obtain⟨b2,o2,e2,_,c0,c1,c2,c3,c4,c5,c6⟩:=hLL.at_ (k:=1) (by decide);injection e2 with e2
 injection e2 with e3 e4 _
 subst e3;subst e4;simp only[List.getElem_cons_zero,List.getElem_cons_succ,Nat.zero_mul,Nat.add_zero,Nat.one_mul]at a0 a1 a2 a3 a4 a5 a6 c0 c1 c2 c3 c4 c5 c6;clear hLL HL HG HP HR HY hb;go_wp2_with fail;go_ret;exact⟨rfl,HX.out⟩
end
section
open Go.ChangeShapes Go.WideShapes Go.ChangeAt Go.RowKit Go.Deep Go.Joins
theorem CY{α:Type} [Inhabited α] (n:Nat) (Q:Nat→α→Prop) (h:∀i,i<n→∃a,Q i a):∃xs:List α,xs.length=n∧∀(i:Nat) (hi:i<xs.length),Q i (xs[i]'hi):=by
 induction n with
 |zero=>exact⟨[],rfl,fun i hi=>absurd hi (by simp)⟩
 |succ n ih =>
  obtain⟨xs,hl,hx⟩:=ih (fun i hi=>h i (by omega));obtain⟨a,ha⟩:=h n (by omega);refine⟨xs++[a],by simp[hl],fun i hi=>?_⟩;rcases Nat.lt_or_ge i xs.length with h1|h1
  ·rw[List.getElem_append_left h1];exact hx i h1
  ·have:i=n:=by simp at hi;omega
   subst this
   rw[List.getElem_append_right h1];simpa[hl] using ha
section
variable {H:Type} {enc:TypeId × Value→H} {P:Program} {w:World} {base:Nat} {spare:Nat→Bool} {held:Bool}
theorem mZ{α:Type} [Inhabited α] (f:α→List Value) (k:Nat) (hk:0<k) (hf:∀a,(f a).length=k) {t e:TypeId} {fuel:Nat} {cs:List Value} {x:DataW H × List MemPlace} (ht:P.underlying t=some (.slice e)) (hC:P.cellsOf e=k)
  (ho:∀n cs' y,DataW.trod enc P w base spare held n e cs'=some y→∃a,cs'=f a) (h:DataW.trod enc P w base spare held fuel t cs=some x) :
  ∃(A:Option Addr) (c:Nat) (xs:List α),cs=[.slice A xs.length c]∧Reads w k A xs.length (xs.flatMap f)∧xs.length≤c∧(xs=[]∨∃el sp,x.1 = .slice el sp∧el.length=xs.length):=by
 rcases open_slice ht h with ⟨rfl,_⟩ | ⟨a,len,cap,m,n,D,Pl,rfl,_,hlc,_,hm,hx,hi⟩
 ·exact⟨none,0,[],rfl,Reads.nil,Nat.le_refl _,.inl rfl⟩
 ·have hml:len≤m:=by rw[hm];split <;> omega
  obtain⟨xs,hl,hq⟩:=CY len (fun i b=>∀j,j<k→w.cell? (a.add (i*k+j))=(f b)[j]?) (fun i hlt=>by
   obtain⟨cs',hc,ht'⟩:=hi i (by omega);obtain⟨b,rfl⟩:=ho _ _ _ ht';obtain⟨_,hcl,hat⟩:=World.cells?_some hc;rw[hC]at hat;exact⟨b,fun j hj=>by rw[←hat j hj,Go.Deep.add_add]⟩)
  subst hl;refine⟨some a,cap,xs,rfl,⟨ox f k hf xs,fun hn=>?_⟩,hlc,.inr ⟨_,_,by rw[hx],by simp⟩⟩;have h00:=hq 0 hn 0 hk;rw[Nat.zero_mul,Nat.zero_add]at h00;have h0:w.cell? a=(f (xs[0]'hn))[0]? := h00;have hl0:0<(f (xs[0]'hn)).length:=by rw[hf];exact hk
  rw[List.getElem?_eq_getElem hl0]at h0;obtain⟨b,o,sp⟩:=a
  have hsp:sp=none∧b<w.heap.size:=by
   unfold World.cell? at h0
   cases hb:w.heap[b]? with
   |none=>simp[hb]at h0
   |some ob =>
    have hlt:=(Array.getElem?_eq_some_iff.1 hb).1
    cases sp with
    |none=>exact⟨rfl,hlt⟩
    |some q =>
     exfalso
     simp only[hb]at h0
     cases ob <;> simp at h0
  obtain⟨rfl,hlt⟩:=hsp;refine⟨b,o,rfl,hlt,fun j u hu=>?_⟩
  have hj:j<xs.length*k:=by
   have:=(List.getElem?_eq_some_iff.1 hu).1;rw[ox f k hf xs]at this;exact this
  have hjk:j / k<xs.length:=(Nat.div_lt_iff_lt_mul hk).2 hj;have he:j=(j / k)*k+j % k:=by have:=Nat.div_add_mod j k;rw[Nat.mul_comm]at this;omega
  have h1:=lJ f k hf xs (j / k) (j % k) hjk (Nat.mod_lt _ hk);rw[←he,hu]at h1;have h2:=hq (j / k) hjk (j % k) (Nat.mod_lt _ hk);rw[←he,←h1]at h2;rw[←h2];unfold Addr.add;rcases Nat.eq_zero_or_pos j with h0|h0
  ·subst h0;rfl
  ·rw[if_neg (by omega)]
end
theorem mC{H:Type}{enc:TypeId × Value→H}{P:Program}(hl:laidOutB P=true){W W':World}(hb:Below W.heap.size W W'){sp:Nat→Bool} :
  ∀ {ts:List TypeId} {vs:List Value} {ds:List (DataW H)} {ps:List MemPlace},(ts.all fun t=>P.readableRec t && decide (t<P.types.size))=true→DataW.TrodAll enc P W 0 (fun _=>true) true ts vs ds ps→(∀p ∈ ps,p.block<W.heap.size)→(∀p ∈ ps,sp p.block=true) →
    DataW.TrodAll enc P W' 0 sp true ts vs ds ps
 |[],vs,ds,ps,_,h,_,_=>by
  obtain⟨rfl,rfl,rfl⟩:=trodAll_nil h;exact trodAll_mk0
 |t :: ts,vs,ds,ps,hr,h,h1,h2=>by
  obtain⟨v0,vs0,d0,ds0,p0,q0,rfl,rfl,rfl,h0,r0⟩:=trodAll_cons h;simp only[List.all_cons,Bool.and_eq_true,decide_eq_true_eq]at hr;refine trodAll_cons_mk (WideElems.Trod_stays hl hr.1.1 hr.1.2 h0 (fun x hx=>hb.same (h1 x (by simp[hx]))) (fun x hx=>h2 x (by simp[hx]))) ?_;exact mC hl hb (by simpa using hr.2) r0 (fun p hp=>h1 p (by simp[hp])) (fun p hp=>h2 p (by simp[hp]))
theorem post_law{H:Type}{enc:TypeId × Value→H}{P:Program}{f:Func}{s:ChangeSpec}{apart fresh handsOn again:Bool}{W W':World}{args:Array Value}{tb:TypeId}{ds gs:List (DataW H)}{before:List MemPlace}
  (hl:laidOutB P=true) (hts:(f.params.toList.all fun t=>P.readableRec t && decide (t<P.types.size))=true) (hrt:f.resultTypes=#[tb]) (hbt:P.underlying tb=some .bool) (hvs:s.vars=[])
  (hW:DataW.Whole enc P f.params.toList s.vars apart W args.toList ds gs before) (hsr:(s.fn H (ds++gs)).results=[.lit (.bool true)]) (hsa:(s.fn H (ds++gs)).args=ds) (hsv:(s.fn H (ds++gs)).vars=[]) (hb:Below W.heap.size W W') :
  s.post enc P f apart fresh handsOn again W args (.bool true) W':=by
 have hlt:∀p ∈ before,p.block<W.heap.size:=fun p hp=>hW.lt p hp
 have hold:∀p ∈ before,(fun b=>decide (b<W.heap.size)) p.block=true:=fun p hp=>by simpa using hlt p hp
 have hW0:=hW;obtain⟨pa,pv,hA,hV,hpp,hz,hn⟩:=hW0;rw[hvs]at hV;obtain⟨rfl,rfl⟩:=trodVars_none hV;rw[List.append_nil]at hpp;subst hpp
 have hres:∀(b:Nat) (sp:Nat→Bool) (hd:Bool),DataW.TrodAll enc P W' b sp hd f.resultTypes.toList ((Value.bool true).resultList f.resultTypes.size) (s.fn H (ds++[])).results []:=by
  intro b sp hd;rw[hrt,hsr];exact trodAll_cons_mk (shut_bool hbt _) trodAll_mk0
 have hargs:∀sp:Nat→Bool,(∀p ∈ before,sp p.block=true)→DataW.TrodAll enc P W' 0 sp true f.params.toList args.toList (s.fn H (ds++[])).args before:=by
  intro sp hsp;rw[hsa];exact mC hl hb hts hA hlt hsp
 have hvars:∀sp:Nat→Bool,DataW.TrodVars enc P W' sp s.vars (s.fn H (ds++[])).vars []:=by
  intro sp;rw[hvs,hsv];exact rfl
 have hok:∀(j:Nat) (t:TypeId) (r:Value),f.resultTypes[j]? = some t→((Value.bool true).resultList f.resultTypes.size)[j]? = some r→Value.okWide P W' .any 0 t r :=
  ok_one hrt rfl (okWide_bool_mk hbt _)
 refine⟨ds,[],before,[],before,[],hW,hres _ _ _,hargs _ hold,hvars _,World.keptBut_mono (fun p hp=>⟨hp,Or.inr (by simpa using hp)⟩) (hb.frame (· ∈ before)),fun _=>⟨hok,_,_,([]++before)++[],⟨[]++before,[],trodAll_append (hargs _ (fun _ _=>rfl)) (hres _ _ _),hvars _,rfl,?_,?_⟩,?_⟩⟩
 ·intro b off hp;have hin:MemPlace.cell b off ∈ before:=by simpa using hp
  rw[hb.frozen (hlt _ hin)];exact hz b off hin
 ·intro ha;simpa using hn ha
 ·intro p hp _;simpa using hp
end
section
open Go.ChangeShapes Go.WideShapes Go.ChangeAt Go.RowKit Go.Deep Go.Joins
section
variable {P:Program} {w:World} {base:Nat} {spare:Nat→Bool} {held:Bool} {H:Type} {enc:TypeId × Value→H}
theorem tN{t t0 t1 t2 t3 t4 t5 t6:TypeId}{n:Nat}{cs:List Value}{y:DataW H × List MemPlace}{f0 f1 f2 f3 f4 f5 f6:Field}(hs:P.underlying t=some (.struct #[f0,f1,f2,f3,f4,f5,f6]))(hone:oneCellFields P #[f0,f1,f2,f3,f4,f5,f6]=true)(hC:P.cellsOf t=7)
  (h0:f0.type=t0) (h1:f1.type=t1) (h2:f2.type=t2) (h3:f3.type=t3) (h4:f4.type=t4) (h5:f5.type=t5) (h6:f6.type=t6)
  (u0:P.underlying t0=some .string) (u1:P.underlying t1=some .string) (u2:P.underlying t2=some (.int .i64)) (u3:P.underlying t3=some (.int .i64)) (u4:P.underlying t4=some .string) (u5:P.underlying t5=some .string) (u6:P.underlying t6=some .string) (h:DataW.trod enc P w base spare held n t cs=some y) :
  ∃a:LotV,cs=aU a:=by
 obtain⟨xs,n,_,_,hlen,hl,hg⟩:=DataW.trod_struct hs h;rw[hC]at hlen;obtain⟨o0,k0⟩:=hone_of hone 0 f0 rfl;obtain⟨o1,k1⟩:=hone_of hone 1 f1 rfl;obtain⟨o2,k2⟩:=hone_of hone 2 f2 rfl;obtain⟨o3,k3⟩:=hone_of hone 3 f3 rfl;obtain⟨o4,k4⟩:=hone_of hone 4 f4 rfl;obtain⟨o5,k5⟩:=hone_of hone 5 f5 rfl;obtain⟨o6,k6⟩:=hone_of hone 6 f6 rfl;match cs,hlen,xs,hl with
 |[c0,c1,c2,c3,c4,c5,c6],_,[y0,y1,y2,y3,y4,y5,y6],_ =>
  have g0:=hg 0 f0 rfl;rw[o0,k0,h0]at g0;have g1:=hg 1 f1 rfl;rw[o1,k1,h1]at g1;have g2:=hg 2 f2 rfl;rw[o2,k2,h2]at g2;have g3:=hg 3 f3 rfl;rw[o3,k3,h3]at g3;have g4:=hg 4 f4 rfl;rw[o4,k4,h4]at g4;have g5:=hg 5 f5 rfl;rw[o5,k5,h5]at g5;have g6:=hg 6 f6 rfl;rw[o6,k6,h6]at g6;obtain⟨s0,e0,_⟩:=DataW.trod_string u0 (x:=y0) (by simpa using g0);obtain⟨s1,e1,_⟩:=DataW.trod_string u1 (x:=y1) (by simpa using g1);obtain⟨s2,e2,_⟩:=DataW.trod_int u2 (x:=y2) (by simpa using g2);obtain⟨s3,e3,_⟩:=DataW.trod_int u3 (x:=y3) (by simpa using g3);obtain⟨s4,e4,_⟩:=DataW.trod_string u4 (x:=y4) (by simpa using g4);obtain⟨s5,e5,_⟩:=DataW.trod_string u5 (x:=y5) (by simpa using g5);obtain⟨s6,e6,_⟩:=DataW.trod_string u6 (x:=y6) (by simpa using g6);simp at e0 e1 e2 e3 e4 e5 e6;subst e0;subst e1;subst e2;subst e3;subst e4;subst e5;subst e6;exact⟨⟨L s0,L s1,s2,s3,L s4,L s5,L s6⟩,by simp[aU,rS]⟩
end
theorem mB{H:Type}{P:Program}{t e:TypeId}{α:Type}{xs:List α}{d:DataW H}(ht:P.underlying t=some (.slice e))(hb:0<P.bytesOf e)(hw:(d.weights P t).all (·≤reachBytes)=true)(hx:xs=[]∨∃el sp,d = .slice el sp∧el.length=xs.length):xs.length≤4611686018427387904:=by
 rcases hx with rfl | ⟨el,sp,rfl,hl⟩
 ·simp
 ·simp only[DataW.weights,ht,List.all_cons,Bool.and_eq_true,decide_eq_true_eq]at hw;have h1:el.length*1≤(el.length+sp.length)*P.bytesOf e:=Nat.mul_le_mul (by omega) hb;have h2:reachBytes≤4611686018427387904:=by decide
  omega
theorem open_lots{H:Type}{enc:TypeId × Value→H}{W:World}{r:Reach}{b0 base:Nat}{spare:Nat→Bool}{held:Bool}{v:Value}{d:DataW H}{p:List MemPlace}(hv:Value.okWide Tryz.prog W r b0 22 v)(h:DataW.Trod enc Tryz.prog W base spare held 22 v d p)
  (hw:(d.weights Tryz.prog 22).all (·≤reachBytes)=true) :
  ∃(ls:List LotV) (A:Option Addr) (c:Nat),v = .slice A ls.length c∧bp W A ls∧ls.length≤c∧ls.length≤4611686018427387904:=by
 obtain⟨a,n,c,rfl⟩:=okWide_slice Tryz.underlying22 hv;obtain⟨fuel,hf⟩:=h;obtain⟨A,c',ls,e,hr,hlc,hx⟩:=mZ (α:=LotV) aU 7 (by decide) iB Tryz.underlying22 (by kernel_rfl) (fun n cs y hy=>tN Tryz.underlying71 (by kernel_rfl) (by kernel_rfl) rfl rfl rfl rfl rfl rfl rfl Tryz.underlying9 Tryz.underlying9 Tryz.underlying23 Tryz.underlying23 Tryz.underlying24 Tryz.underlying24 Tryz.underlying24 hy) hf;simp only[Value.cells,List.cons.injEq,and_true]at e;rw[e];exact⟨ls,A,c',rfl,hr,hlc,mB Tryz.underlying22 (by rw[show Tryz.prog.bytesOf 71=96 by kernel_rfl];decide) hw hx⟩
theorem H9{H:Type}{enc:TypeId × Value→H}{W:World}{r:Reach}{b0 base:Nat}{spare:Nat→Bool}{held:Bool}{v:Value}{d:DataW H}{p:List MemPlace}(hv:Value.okWide Tryz.prog W r b0 71 v)(h:DataW.Trod enc Tryz.prog W base spare held 71 v d p) :
  ∃x:LotV,v = .agg #[.string (bs x.id),.string (bs x.ins),.int .i64 x.acq,.int .i64 x.opn,.string (bs x.q),.string (bs x.c),.string (bs x.u)]:=by
 obtain⟨cs,rfl,_⟩:=okWide_struct Tryz.underlying71 hv;obtain⟨fuel,hf⟩:=h;obtain⟨x,e⟩:=tN Tryz.underlying71 (by kernel_rfl) (by kernel_rfl) rfl rfl rfl rfl rfl rfl rfl Tryz.underlying9 Tryz.underlying9 Tryz.underlying23 Tryz.underlying23 Tryz.underlying24 Tryz.underlying24 Tryz.underlying24 hf;refine⟨x,?_⟩;simp only[Value.cells]at e;rw[←Array.toList_inj.1 (e.trans (by simp[aU]:aU x=#[Value.string (bs x.id),.string (bs x.ins),.int .i64 x.acq,.int .i64 x.opn,.string (bs x.q),.string (bs x.c),.string (bs x.u)].toList))]
theorem own:ownKnob Tryz.prog.godebug=none:=by kernel_rfl
theorem laidOut:laidOutB Tryz.prog=true:=by kernel_rfl
theorem EU: "*"++ "errors.errorString"= "*errors.errorString":=by decide
theorem yz(u:TypeId)(h:Tryz.prog.typeName? 3 u=some "*errors.errorString"):u=319 :=
 typeName_ptr_named (nm:= "errors.errorString") (by rw[EU];kernel_rfl) (by kernel_rfl) (by decide) u (by rw[EU];exact h)
theorem mD{w:World}{p:Addr}{u:Value}(h:w.cell? p=some u):p.block<w.heap.size:=by
 unfold World.cell? at h
 cases hb:w.heap[p.block]? with
 |none=>simp[hb]at h
 |some o=>exact(Array.getElem?_eq_some_iff.1 hb).1
theorem env_of{W:World}{x y u:String × DataW Unit}{rest:List (String × DataW Unit)}(h:laidMet Tryz.prog (x :: y :: ("internal/strconv.uint64pow10",Rows.laid_internal_strconv_uint64pow10) :: u :: ("strconv.ErrRange",Rows.laid_strconv_ErrRange) :: ("strconv.ErrSyntax",Rows.laid_strconv_ErrSyntax) :: rest) W)(hsh:W.ShapedOpen Tryz.prog):Env W:=by
 have h1:Lib.TabIs Tryz.prog W "internal/strconv.uint64pow10" .u64 Lib.pow10Tab :=
  Lib.tabIs_of_head (g:=0) (by kernel_rfl) (by kernel_rfl) Tryz.underlying295 Tryz.underlying183 (by kernel_rfl) (by kernel_rfl) h.tail.tail
 have h2:∃m,W.cell? ⟨3,0,none⟩=some (.int .i64 m) :=
  cell_of_shapedOpen_int (zero:=#[.int .i64 0]) hsh (by decide +kernel) (by kernel_rfl) (by kernel_rfl) (by kernel_rfl) (by kernel_rfl) Tryz.underlying3
 have h3:=h1.cell (g:=0) (by kernel_rfl) 0 (by decide);have gR:Tryz.prog.globalNamed "strconv.ErrRange"=some 2:=by kernel_rfl
 have gS:Tryz.prog.globalNamed "strconv.ErrSyntax"=some 1:=by kernel_rfl
 obtain⟨a1,s1,v1,_,_,_⟩:=laid_sentinel h.tail.tail.tail.tail gR (by kernel_rfl) Tryz.underlying185 yz Tryz.underlying319 Tryz.underlying321 rfl rfl Tryz.underlying9 (by kernel_rfl) (by kernel_rfl);obtain⟨a2,s2,v2,_,_,_⟩:=laid_sentinel h.tail.tail.tail.tail.tail gS (by kernel_rfl) Tryz.underlying185 yz Tryz.underlying319 Tryz.underlying321 rfl rfl Tryz.underlying9 (by kernel_rfl) (by kernel_rfl);refine⟨h1,h2,⟨mD h3,?_⟩,⟨_,World.var?_cell gS v2 0,.inr ⟨_,_,rfl⟩⟩,⟨_,World.var?_cell gR v1 0,.inr ⟨_,_,rfl⟩⟩⟩;obtain⟨m,hm⟩:=h2;exact mD hm
end
section
open Go.ChangeShapes Go.WideShapes Go.ChangeAt Go.RowKit Go.Deep Go.Joins
instance:Inhabited OptV:=⟨⟨[],⟨[],[]⟩,⟨[],[]⟩,⟨[],[]⟩⟩⟩
section
variable {w:World} {base:Nat} {spare:Nat→Bool} {held:Bool} {H:Type} {enc:TypeId × Value→H}
theorem iq{n:Nat}{cs:List Value}{y:DataW H × List MemPlace}(h:DataW.trod enc Tryz.prog w base spare held n 26 cs=some y):∃f:Fr,cs=[.string (bs f.num),.string (bs f.den)]:=by
 obtain⟨xs,n,_,_,hlen,hl,hg⟩:=DataW.trod_struct Tryz.underlying26 h;rw[show Tryz.prog.cellsOf 26=2 by kernel_rfl]at hlen;have hc:Tryz.prog.cellsOf 24=1:=by kernel_rfl
 match cs,hlen,xs,hl with
 |[c0,c1],_,[y0,y1],_ =>
  have g0:DataW.trod enc Tryz.prog w base spare held n 24 (([c0,c1].drop 0).take (Tryz.prog.cellsOf 24))=some y0:=hg 0 _ rfl;have g1:DataW.trod enc Tryz.prog w base spare held n 24 (([c0,c1].drop 1).take (Tryz.prog.cellsOf 24))=some y1:=hg 1 _ rfl;rw[hc]at g0 g1;obtain⟨s0,e0,_⟩:=DataW.trod_string Tryz.underlying24 (x:=y0) (by simpa using g0);obtain⟨s1,e1,_⟩:=DataW.trod_string Tryz.underlying24 (x:=y1) (by simpa using g1);simp at e0 e1;subst e0;subst e1;exact⟨⟨L s0,L s1⟩,by simp[rS]⟩
theorem uu{n:Nat}{cs:List Value}{y:DataW H × List MemPlace}(h:DataW.trod enc Tryz.prog w base spare held n 50 cs=some y):∃o:OptV,cs=fX o:=by
 obtain⟨xs,n,_,_,hlen,hl,hg⟩:=DataW.trod_struct Tryz.underlying50 h;rw[show Tryz.prog.cellsOf 50=7 by kernel_rfl]at hlen;have hc:Tryz.prog.cellsOf 9=1:=by kernel_rfl
 have hf:Tryz.prog.cellsOf 26=2:=by kernel_rfl
 match cs,hlen,xs,hl with
 |[c0,c1,c2,c3,c4,c5,c6],_,[y0,y1,y2,y3],_ =>
  have g0:DataW.trod enc Tryz.prog w base spare held n 9 (([c0,c1,c2,c3,c4,c5,c6].drop 0).take (Tryz.prog.cellsOf 9))=some y0:=hg 0 _ rfl;have g1:DataW.trod enc Tryz.prog w base spare held n 26 (([c0,c1,c2,c3,c4,c5,c6].drop 1).take (Tryz.prog.cellsOf 26))=some y1:=hg 1 _ rfl;have g2:DataW.trod enc Tryz.prog w base spare held n 26 (([c0,c1,c2,c3,c4,c5,c6].drop 3).take (Tryz.prog.cellsOf 26))=some y2:=hg 2 _ rfl;have g3:DataW.trod enc Tryz.prog w base spare held n 26 (([c0,c1,c2,c3,c4,c5,c6].drop 5).take (Tryz.prog.cellsOf 26))=some y3:=hg 3 _ rfl;rw[hc]at g0;rw[hf]at g1 g2 g3;obtain⟨s0,e0,_⟩:=DataW.trod_string Tryz.underlying9 (x:=y0) (by simpa using g0);obtain⟨f1,e1⟩:=iq (y:=y1) (by simpa using g1);obtain⟨f2,e2⟩:=iq (y:=y2) (by simpa using g2);obtain⟨f3,e3⟩:=iq (y:=y3) (by simpa using g3);simp at e0 e1 e2 e3;obtain⟨rfl,rfl⟩:=e1;obtain⟨rfl,rfl⟩:=e2;obtain⟨rfl,rfl⟩:=e3;subst e0;exact⟨⟨L s0,f1,f2,f3⟩,by simp[fX,rS]⟩
end
end
section
open Go.ChangeShapes Go.WideShapes Go.ChangeAt Go.RowKit Go.Deep Go.Joins
instance:Inhabited Fr:=⟨⟨[],[]⟩⟩
structure FactIn (w:World) (f:FactV) (ps:List Fr) (os:List OptV) (pa oa:Option Addr) (pc oq:Nat):Prop where
 rp:iM w pa ps
 cp:ps.length≤pc
 ro:k9 w oa os
 co:os.length≤oq
 wf:(Lit.int .i64 f.kind).wf=true
 np:ps.length≤4611686018427387904
 no:os.length≤4611686018427387904
section
variable {w:World} {base:Nat} {spare:Nat→Bool} {held:Bool} {H:Type} {enc:TypeId × Value→H}
theorem yA{n:Nat}{cs:List Value}{y:DataW H × List MemPlace}(h:DataW.trod enc Tryz.prog w base spare held n 165 cs=some y):∃f:Fr,cs=dB f:=by
 obtain⟨xs,n,_,_,hlen,hl,hg⟩:=DataW.trod_struct Tryz.underlying165 h;rw[show Tryz.prog.cellsOf 165=2 by kernel_rfl]at hlen;have hc:Tryz.prog.cellsOf 24=1:=by kernel_rfl
 have hs:Tryz.prog.cellsOf 9=1:=by kernel_rfl
 match cs,hlen,xs,hl with
 |[c0,c1],_,[y0,y1],_ =>
  have g0:DataW.trod enc Tryz.prog w base spare held n 9 (([c0,c1].drop 0).take (Tryz.prog.cellsOf 9))=some y0:=hg 0 _ rfl;have g1:DataW.trod enc Tryz.prog w base spare held n 24 (([c0,c1].drop 1).take (Tryz.prog.cellsOf 24))=some y1:=hg 1 _ rfl;rw[hs]at g0;rw[hc]at g1;obtain⟨s0,e0,_⟩:=DataW.trod_string Tryz.underlying9 (x:=y0) (by simpa using g0);obtain⟨s1,e1,_⟩:=DataW.trod_string Tryz.underlying24 (x:=y1) (by simpa using g1);simp at e0 e1;subst e0;subst e1;exact⟨⟨L s0,L s1⟩,by simp[dB,rS]⟩
theorem yB{n:Nat}{cs:List Value}{y:DataW H × List MemPlace}(h:DataW.trod enc Tryz.prog w base spare held n 30 cs=some y)(hw:(y.1.weights Tryz.prog 30).all (·≤reachBytes)=true):∃(f:FactV) (ps:List Fr) (os:List OptV) (pa oa:Option Addr) (pc oq:Nat),cs=(af f (ac pa ps.length pc) (ac oa os.length oq)).toList∧FactIn w f ps os pa oa pc oq:=by
 obtain⟨xs,n,_,hy,hlen,hl,hg⟩:=DataW.trod_struct Tryz.underlying30 h;rw[show Tryz.prog.cellsOf 30=21 by kernel_rfl]at hlen;have ht0:Tryz.prog.cellsOf 9=1:=by kernel_rfl
 have ht1:Tryz.prog.cellsOf 3=1:=by kernel_rfl
 have ht2:Tryz.prog.cellsOf 4=1:=by kernel_rfl
 have ht3:Tryz.prog.cellsOf 23=1:=by kernel_rfl
 have ht4:Tryz.prog.cellsOf 24=1:=by kernel_rfl
 have ht5:Tryz.prog.cellsOf 26=2:=by kernel_rfl
 have ht6:Tryz.prog.cellsOf 27=1:=by kernel_rfl
 have ht7:Tryz.prog.cellsOf 28=1:=by kernel_rfl
 match cs,hlen,xs,hl with
 |[c0,c1,c2,c3,c4,c5,c6,c7,c8,c9,c10,c11,c12,c13,c14,c15,c16,c17,c18,c19,c20],_,[y0,y1,y2,y3,y4,y5,y6,y7,y8,y9,y10,y11,y12,y13,y14,y15,y16,y17],_ =>
  have g0:DataW.trod enc Tryz.prog w base spare held n 9 (([c0,c1,c2,c3,c4,c5,c6,c7,c8,c9,c10,c11,c12,c13,c14,c15,c16,c17,c18,c19,c20].drop 0).take (Tryz.prog.cellsOf 9))=some y0:=hg 0 _ rfl;rw[ht0]at g0;have g1:DataW.trod enc Tryz.prog w base spare held n 3 (([c0,c1,c2,c3,c4,c5,c6,c7,c8,c9,c10,c11,c12,c13,c14,c15,c16,c17,c18,c19,c20].drop 1).take (Tryz.prog.cellsOf 3))=some y1:=hg 1 _ rfl;rw[ht1]at g1;have g2:DataW.trod enc Tryz.prog w base spare held n 4 (([c0,c1,c2,c3,c4,c5,c6,c7,c8,c9,c10,c11,c12,c13,c14,c15,c16,c17,c18,c19,c20].drop 2).take (Tryz.prog.cellsOf 4))=some y2:=hg 2 _ rfl;rw[ht2]at g2;have g3:DataW.trod enc Tryz.prog w base spare held n 23 (([c0,c1,c2,c3,c4,c5,c6,c7,c8,c9,c10,c11,c12,c13,c14,c15,c16,c17,c18,c19,c20].drop 3).take (Tryz.prog.cellsOf 23))=some y3:=hg 3 _ rfl;rw[ht3]at g3;have g4:DataW.trod enc Tryz.prog w base spare held n 3 (([c0,c1,c2,c3,c4,c5,c6,c7,c8,c9,c10,c11,c12,c13,c14,c15,c16,c17,c18,c19,c20].drop 4).take (Tryz.prog.cellsOf 3))=some y4:=hg 4 _ rfl;rw[ht1]at g4;have g5:DataW.trod enc Tryz.prog w base spare held n 9 (([c0,c1,c2,c3,c4,c5,c6,c7,c8,c9,c10,c11,c12,c13,c14,c15,c16,c17,c18,c19,c20].drop 5).take (Tryz.prog.cellsOf 9))=some y5:=hg 5 _ rfl;rw[ht0]at g5;have g6:DataW.trod enc Tryz.prog w base spare held n 9 (([c0,c1,c2,c3,c4,c5,c6,c7,c8,c9,c10,c11,c12,c13,c14,c15,c16,c17,c18,c19,c20].drop 6).take (Tryz.prog.cellsOf 9))=some y6:=hg 6 _ rfl;rw[ht0]at g6;have g7:DataW.trod enc Tryz.prog w base spare held n 9 (([c0,c1,c2,c3,c4,c5,c6,c7,c8,c9,c10,c11,c12,c13,c14,c15,c16,c17,c18,c19,c20].drop 7).take (Tryz.prog.cellsOf 9))=some y7:=hg 7 _ rfl;rw[ht0]at g7;have g8:DataW.trod enc Tryz.prog w base spare held n 9 (([c0,c1,c2,c3,c4,c5,c6,c7,c8,c9,c10,c11,c12,c13,c14,c15,c16,c17,c18,c19,c20].drop 8).take (Tryz.prog.cellsOf 9))=some y8:=hg 8 _ rfl;rw[ht0]at g8;have g9:DataW.trod enc Tryz.prog w base spare held n 24 (([c0,c1,c2,c3,c4,c5,c6,c7,c8,c9,c10,c11,c12,c13,c14,c15,c16,c17,c18,c19,c20].drop 9).take (Tryz.prog.cellsOf 24))=some y9:=hg 9 _ rfl;rw[ht4]at g9;have g10:DataW.trod enc Tryz.prog w base spare held n 24 (([c0,c1,c2,c3,c4,c5,c6,c7,c8,c9,c10,c11,c12,c13,c14,c15,c16,c17,c18,c19,c20].drop 10).take (Tryz.prog.cellsOf 24))=some y10:=hg 10 _ rfl;rw[ht4]at g10;have g11:DataW.trod enc Tryz.prog w base spare held n 24 (([c0,c1,c2,c3,c4,c5,c6,c7,c8,c9,c10,c11,c12,c13,c14,c15,c16,c17,c18,c19,c20].drop 11).take (Tryz.prog.cellsOf 24))=some y11:=hg 11 _ rfl;rw[ht4]at g11;have g12:DataW.trod enc Tryz.prog w base spare held n 26 (([c0,c1,c2,c3,c4,c5,c6,c7,c8,c9,c10,c11,c12,c13,c14,c15,c16,c17,c18,c19,c20].drop 12).take (Tryz.prog.cellsOf 26))=some y12:=hg 12 _ rfl;rw[ht5]at g12;have g13:DataW.trod enc Tryz.prog w base spare held n 26 (([c0,c1,c2,c3,c4,c5,c6,c7,c8,c9,c10,c11,c12,c13,c14,c15,c16,c17,c18,c19,c20].drop 14).take (Tryz.prog.cellsOf 26))=some y13:=hg 13 _ rfl;rw[ht5]at g13;have g14:DataW.trod enc Tryz.prog w base spare held n 26 (([c0,c1,c2,c3,c4,c5,c6,c7,c8,c9,c10,c11,c12,c13,c14,c15,c16,c17,c18,c19,c20].drop 16).take (Tryz.prog.cellsOf 26))=some y14:=hg 14 _ rfl;rw[ht5]at g14;have g15:DataW.trod enc Tryz.prog w base spare held n 27 (([c0,c1,c2,c3,c4,c5,c6,c7,c8,c9,c10,c11,c12,c13,c14,c15,c16,c17,c18,c19,c20].drop 18).take (Tryz.prog.cellsOf 27))=some y15:=hg 15 _ rfl;rw[ht6]at g15;have g16:DataW.trod enc Tryz.prog w base spare held n 28 (([c0,c1,c2,c3,c4,c5,c6,c7,c8,c9,c10,c11,c12,c13,c14,c15,c16,c17,c18,c19,c20].drop 19).take (Tryz.prog.cellsOf 28))=some y16:=hg 16 _ rfl;rw[ht7]at g16;have g17:DataW.trod enc Tryz.prog w base spare held n 3 (([c0,c1,c2,c3,c4,c5,c6,c7,c8,c9,c10,c11,c12,c13,c14,c15,c16,c17,c18,c19,c20].drop 20).take (Tryz.prog.cellsOf 3))=some y17:=hg 17 _ rfl;rw[ht1]at g17;clear hg;rw[hy]at hw;simp only[List.map_cons,List.map_nil,DataW.weights,Tryz.underlying30,DataW.weightsEach,List.all_append,Bool.and_eq_true]at hw;obtain⟨_,_,_,_,_,_,_,_,_,_,_,_,_,_,_,hwp,hwo,_⟩:=hw;replace g0:DataW.trod enc Tryz.prog w base spare held n 9 [c0]=some y0:=g0;obtain⟨s0,e0,_⟩:=DataW.trod_string Tryz.underlying9 g0;injection e0 with e0 _
  subst e0;replace g1:DataW.trod enc Tryz.prog w base spare held n 3 [c1]=some y1:=g1;obtain⟨s1,e1,_,w1⟩:=DataW.trod_int Tryz.underlying3 g1;injection e1 with e1 _
  subst e1;replace g2:DataW.trod enc Tryz.prog w base spare held n 4 [c2]=some y2:=g2;obtain⟨s2,e2,_⟩:=DataW.trod_bool Tryz.underlying4 g2;injection e2 with e2 _
  subst e2;replace g3:DataW.trod enc Tryz.prog w base spare held n 23 [c3]=some y3:=g3;obtain⟨s3,e3,_,w3⟩:=DataW.trod_int Tryz.underlying23 g3;injection e3 with e3 _
  subst e3;replace g4:DataW.trod enc Tryz.prog w base spare held n 3 [c4]=some y4:=g4;obtain⟨s4,e4,_,w4⟩:=DataW.trod_int Tryz.underlying3 g4;injection e4 with e4 _
  subst e4;replace g5:DataW.trod enc Tryz.prog w base spare held n 9 [c5]=some y5:=g5;obtain⟨s5,e5,_⟩:=DataW.trod_string Tryz.underlying9 g5;injection e5 with e5 _
  subst e5;replace g6:DataW.trod enc Tryz.prog w base spare held n 9 [c6]=some y6:=g6;obtain⟨s6,e6,_⟩:=DataW.trod_string Tryz.underlying9 g6;injection e6 with e6 _
  subst e6;replace g7:DataW.trod enc Tryz.prog w base spare held n 9 [c7]=some y7:=g7;obtain⟨s7,e7,_⟩:=DataW.trod_string Tryz.underlying9 g7;injection e7 with e7 _
  subst e7;replace g8:DataW.trod enc Tryz.prog w base spare held n 9 [c8]=some y8:=g8;obtain⟨s8,e8,_⟩:=DataW.trod_string Tryz.underlying9 g8;injection e8 with e8 _
  subst e8;replace g9:DataW.trod enc Tryz.prog w base spare held n 24 [c9]=some y9:=g9;obtain⟨s9,e9,_⟩:=DataW.trod_string Tryz.underlying24 g9;injection e9 with e9 _
  subst e9;replace g10:DataW.trod enc Tryz.prog w base spare held n 24 [c10]=some y10:=g10;obtain⟨s10,e10,_⟩:=DataW.trod_string Tryz.underlying24 g10;injection e10 with e10 _
  subst e10;replace g11:DataW.trod enc Tryz.prog w base spare held n 24 [c11]=some y11:=g11;obtain⟨s11,e11,_⟩:=DataW.trod_string Tryz.underlying24 g11;injection e11 with e11 _
  subst e11;replace g12:DataW.trod enc Tryz.prog w base spare held n 26 [c12,c13]=some y12:=g12;obtain⟨s12,e12⟩:=iq g12;injection e12 with e12a e12b
  injection e12b with e12b _
  subst e12a;subst e12b;replace g13:DataW.trod enc Tryz.prog w base spare held n 26 [c14,c15]=some y13:=g13;obtain⟨s13,e13⟩:=iq g13;injection e13 with e13a e13b
  injection e13b with e13b _
  subst e13a;subst e13b;replace g14:DataW.trod enc Tryz.prog w base spare held n 26 [c16,c17]=some y14:=g14;obtain⟨s14,e14⟩:=iq g14;injection e14 with e14a e14b
  injection e14b with e14b _
  subst e14a;subst e14b;replace g15:DataW.trod enc Tryz.prog w base spare held n 27 [c18]=some y15:=g15;obtain⟨pa,pc,ps,e15,hp,hpc,hpl⟩:=mZ (α:=Fr) dB 2 (by decide) gJ Tryz.underlying27 (by kernel_rfl) (fun n cs y hy=>yA hy) g15;injection e15 with e15 _
  subst e15;replace g16:DataW.trod enc Tryz.prog w base spare held n 28 [c19]=some y16:=g16;obtain⟨oa,oq,os,e16,ho,hoq,hol⟩:=mZ (α:=OptV) fX 7 (by decide) kA Tryz.underlying28 (by kernel_rfl) (fun n cs y hy=>uu hy) g16;injection e16 with e16 _
  subst e16;replace g17:DataW.trod enc Tryz.prog w base spare held n 3 [c20]=some y17:=g17;obtain⟨s17,e17,_,w17⟩:=DataW.trod_int Tryz.underlying3 g17;injection e17 with e17 _
  subst e17;exact⟨⟨L s0,s1,s2,s3,s4,L s5,L s6,L s7,L s8,L s9,L s10,L s11,s12,s13,s14,s17⟩,ps,os,pa,oa,pc,oq,by simp[rS,ac],⟨hp,hpc,ho,hoq,w4,mB Tryz.underlying27 (by rw[show Tryz.prog.bytesOf 165=32 by kernel_rfl];decide) hwp hpl,mB Tryz.underlying28 (by rw[show Tryz.prog.bytesOf 50=112 by kernel_rfl];decide) hwo hol⟩⟩
end
theorem open_fact1{H:Type}{enc:TypeId × Value→H}{W:World}{r:Reach}{b0 base:Nat}{spare:Nat→Bool}{held:Bool}{v:Value}{d:DataW H}{p:List MemPlace}(hv:Value.okWide Tryz.prog W r b0 30 v)(h:DataW.Trod enc Tryz.prog W base spare held 30 v d p)(hw:(d.weights Tryz.prog 30).all (·≤reachBytes)=true) :
  ∃(f:FactV) (ps:List Fr) (os:List OptV) (pa oa:Option Addr) (pc oq:Nat),v=aB f (ac pa ps.length pc) (ac oa os.length oq)∧FactIn W f ps os pa oa pc oq:=by
 obtain⟨cs,rfl,_⟩:=okWide_struct Tryz.underlying30 hv;obtain⟨fuel,hf⟩:=h;obtain⟨f,ps,os,pa,oa,pc,oq,e,hF⟩:=yB hf hw;simp only[Value.cells]at e;exact⟨f,ps,os,pa,oa,pc,oq,congrArg Value.agg (Array.toList_inj.1 e),hF⟩
end
end Go.Proofs.YthgpheopnhajaaaGreatDoor
