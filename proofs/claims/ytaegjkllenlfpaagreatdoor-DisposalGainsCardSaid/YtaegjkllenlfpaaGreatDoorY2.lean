/- The seat's texts, part Y2. -/
import Derived.Test.YtaegjkllenlfpaaGreatDoorY1
import Derived.Shelf.Spec.SlicesInsertGrow
set_option maxRecDepth 100000
set_option maxHeartbeats 8000000
namespace Go.Proofs.YtaegjkllenlfpaaGreatDoor
open Tryz
variable {b:World}{g' base j n' m size' i k x y:Nat}{u v v':Value}{xs' l:List Value}{e':TypeId}{A:Option Addr}{gs:List Nat}
section
open Go.RowKit
def Blk(w:World)(g:Nat)(t:TypeId)(cs:Array Value):Prop:=w.heap[g]? = some (.cells cs t (0,0))
section
variable {w w':World} {g:Nat} {t:TypeId} {cs:Array Value}
theorem Blk.lt(h:Blk w g t cs):g<w.heap.size:=by
 rcases Nw g w.heap.size with hlt|hge
 ·exact hlt
 ·unfold Blk at h;rw[OS hge]at h;cases h
theorem Blk.cell(h:Blk w g t cs)(i:Nat):w.cell? ⟨g,i,none⟩=cs[i]? := cell_of_row w g i cs t (0,0) h
theorem Blk.frozen(h:Blk w g t cs)(i:Nat):w.frozen? ⟨g,i,none⟩=false:=by
 unfold Blk at h;simp[World.frozen?,h]
theorem ID(w:World)(t:TypeId)(cs:Array Value):Blk (w.alloc (.cells cs t)) w.heap.size t cs:=M4 w _
theorem Blk.drew(h:Blk w g t cs):Blk w.drew g t cs:=h
theorem Blk.alloc(h:Blk w g t cs)(o:Obj):Blk (w.alloc o) g t cs:=(Below.heap_alloc w o g h.lt).trans h
theorem Blk.set_(h:Blk w g t cs)(i:Nat)(u:Value):Blk (w.setCell ⟨g,i,none⟩ u) g t (cs.setIfInBounds i u):=by
 unfold Blk at h ⊢;simp[World.setCell,Array.getElem?_modify,h]
theorem Blk.far(h:Blk w g t cs){p:Addr}(hp:g≠p.block)(u:Value):Blk (w.setCell p u) g t cs:=(Px w p u g hp).trans h
theorem Blk.ext(h:Blk w g t cs)(he:Ext w w'):Blk w' g t cs:=(he.block g h.lt).trans h
end
def Only(g:Nat)(w w':World):Prop:=w.grownBy w' (some g)
section
variable {a w w':World} {g:Nat}
theorem Mh(g:Nat)(w:World):Only g w w:=World.grownBy.refl w _
theorem Only.size(h:Only g w w'):w.heap.size<=w'.heap.size:=World.grownBy.size h
theorem Only.trans{c:World}(h:Only g a b)(k:Only g b c):Only g a c :=
 ⟨k.os.trans h.os,k.tape.trans h.tape,k.output.trans h.output,Mx h.size k.size,fun i hi hne=>(No k i (M5 hi h.size) hne).trans (No h i hi hne)⟩
theorem Only.of_ext(h:Ext w w'):Only g w w':=⟨h.os,h.tape,h.output,h.size,fun i hi _=>h.block i hi⟩
theorem Only.ext(h:Only g a w)(k:Ext w b):Only g a b:=h.trans (Only.of_ext k)
theorem Only.setCell(h:Only g a w)(i:Nat)(u:Value):Only g a (w.setCell ⟨g,i,none⟩ u) :=
 ⟨h.os,h.tape,h.output,by simpa[World.setCell] using h.size,fun i hi hne=>(Px w _ u i (by
  rintro rfl;exact hne rfl)).trans (No h i hi hne)⟩
theorem Only.drew(h:Only g a w):Only g a w.drew:=⟨h.os,h.tape,h.output,h.size,h.block⟩
theorem Only.cell(h:Only g w w'){p:Addr}(hp:p.block<w.heap.size)(hne:p.block≠g):w'.cell? p=w.cell? p :=
 World.cell?_of_block (w:=w) (No h p.block hp (fun e=>hne (by injection e)))
theorem Only.toExt(h:Only g w w')(k:Ext b w)(hg:b.heap.size<=g):Ext b w' :=
 PZ k ⟨h.os,h.tape,h.output,h.size,fun i hi=>No h i (M5 hi k.size) (fun e=>by injection e with e;omega)⟩
end
end
section
open Go.RowKit Go.Lib
def lsplice(l:List Value)(o:Nat)(vs:List Value):List Value:=l.take o++vs++l.drop (o+vs.length)
theorem vC(l:List Value)(o:Nat)(vs:List Value)(h:o+vs.length<=l.length):(lsplice l o vs).length=l.length:=by
 simp[lsplice];omega
theorem vD(l:List Value)(o:Nat):lsplice l o []=l:=by simp[lsplice]
theorem tA(l:List Value)(o:Nat)(v:Value)(vs:List Value)(h:o<l.length):lsplice (l.set o v) (o+1) vs=lsplice l o (v :: vs):=by
 unfold lsplice;rw[MG,show o+1+vs.length=o+(vs.length+1) by omega]
 have h1:(l.set o v).take (o+1)=l.take o++[v]:=by
  rw[Mo (by simpa using h),List.getElem_set_self,PH (Mn _)]
 have h2:(l.set o v).drop (o+(vs.length+1))=l.drop (o+(vs.length+1)):=PI (by omega);rw[h1,h2];simp
theorem Blk.sets{g:Nat}{t:TypeId}:∀(vs:List Value) (o:Nat) (w:World) (cs:List Value),Blk w g t cs.toArray->o+vs.length<=cs.length->Blk (w.setCells g o vs) g t (lsplice cs o vs).toArray
 |[],o,w,cs,h,_=>by rw[vD];exact h
 |v :: r,o,w,cs,h,hl=>by
  rw[MG]at hl;have h1:=h.set_ o v;rw[N6]at h1;have:=Blk.sets r (o+1) (w.setCell ⟨g,o,none⟩ v) (cs.set o v) h1 (by simp;omega);rw[tA cs o v r (by omega)]at this
  exact this
theorem Only.sets{g:Nat}:∀(vs:List Value) (o:Nat) (a w:World),Only g a w->Only g a (w.setCells g o vs)
 |[],_,_,_,h=>h
 |v :: r,o,a,w,h=>Only.sets r (o+1) a (w.setCell ⟨g,o,none⟩ v) (h.setCell o v)
theorem Mg{w:World}{g g':Nat}{t:TypeId}{cs:Array Value}(h:Blk w g t cs)(hne:g≠g'):∀(vs:List Value) (o:Nat),Blk (w.setCells g' o vs) g t cs
 |[],_=>h
 |v :: r,o=>Mg (h.far (p:=⟨g',o,none⟩) hne v) hne r (o+1)
section
variable {P:Program}
theorem run_copy_k(w:World)(dT sT ty elem:TypeId)(size b o dLen dCap:Nat)(a:Addr)(sLen sCap:Nat)(cs:List Value)
  (hu:P.underlying dT=some (.slice elem)) (hs:(P.info? elem).map (·.size)=some size) (n:Nat) (hmin:Nat.min sLen dLen=n) (hn:cs.length=n*size)
  (hsrc:∀j v,cs[j]? = some v->w.cell? (a.add j)=some v) (hc:∀j,j<cs.length->(w.cell? ⟨b,o+j,none⟩).isSome=true) (hf:∀j,j<cs.length->w.frozen? ⟨b,o+j,none⟩=false) (h1:∀v ∈ cs,v.oneCell'=true) :
  (Builtin.copy_ #[dT,sT] ty #[.slice (some ⟨b,o,none⟩) dLen dCap,.slice (some a) sLen sCap]).run P w = .ok (goInt n) (w.setCells b o cs):=by
 have hl:=run_loadCells_list (P:=P) w a cs hsrc;have hst:=run_storeCells_cells (P:=P) b o cs 0 w (by simpa using hc) (by simpa using hf) h1
 cases hq:P.info? elem with
 |none=>simp[hq]at hs
 |some i =>
  have hi:i.size=size:=by simpa[hq] using hs
  rw[hn]at hl;simp[Builtin.copy_,Ri hu,Builtin.lenOf,Builtin.firstCells,sizeOf,typeInfo,hq,hi,hmin,hl,hst]
theorem vE(w:World)(t e ty:TypeId)(z:Value)(zs:List Value)(ht:P.underlying t=some (.slice e))(hv:∀w,(zeroValue e).run P w = .ok z w)(b o n c:Nat)(hn:0<n)(hz:(Builtin.zeroCells z.cells n).toList=zs)(h1:∀u ∈ zs,u.oneCell'=true)
  (hc:∀j,j<zs.length->(w.cell? ⟨b,o+j,none⟩).isSome=true) (hf:∀j,j<zs.length->w.frozen? ⟨b,o+j,none⟩=false) :
  (Builtin.clear_ #[t] ty #[.slice (some ⟨b,o,none⟩) n c]).run P w = .ok (.tuple #[]) (w.setCells b o zs):=by
 have hst:=run_storeCells_cells (P:=P) b o zs 0 w (by simpa using hc) (by simpa using hf) h1;simp only[Nj]at hst;obtain⟨m,rfl⟩:∃m,n=m+1:=⟨n-1,by omega⟩;simp[Builtin.clear_,Ri ht,hv,hz,hst]
end
structure Row (w:World) (g:Nat) (e:TypeId) (size n cap:Nat) (xs cur:List Value):Prop where
 blk:Blk w g e cur.toArray
 len:xs.length=n*size
 le:n<=cap
 big:cap<=maxLen
 full:cur.length=cap*size
 take:cur.take (n*size)=xs
theorem Row.own{w:World}{g:Nat}{e:TypeId}{size n cap:Nat}{xs cur:List Value}(h:Row w g e size n cap xs cur)(hb:base<=g):w.ownsRow base e size (.slice (some ⟨g,0,none⟩) n cap) n xs :=
 ⟨h.len,.inr ⟨g,cap,cur.toArray,rfl,hb,h.blk,h.le,h.big,by simpa using h.full,by simpa using h.take⟩⟩
theorem Row.of_own{w:World}{g:Nat}{e:TypeId}{size n cap:Nat}{xs:List Value}(h:w.ownsRow base e size (.slice (some ⟨g,0,none⟩) n cap) n xs):base<=g∧∃cur,Row w g e size n cap xs cur:=by
 obtain⟨hl,⟨h,_⟩ | ⟨g',cap',cur,hv,hb,hh,hle,hbig,hsz,ht⟩⟩:=h
 ·cases h
 ·injection hv with h1 h2 h3
  injection h1 with h1
  injection h1 with h1
  subst h1;subst h3;exact⟨hb,cur.toList,hh,hl,hle,hbig,by simpa using hsz,ht⟩
section
variable {w:World} {g:Nat} {e:TypeId} {size n cap:Nat} {xs cur:List Value}
theorem Row.cell(h:Row w g e size n cap xs cur)(hu:xs[j]? = some u):w.cell? ⟨g,j,none⟩=some u:=by
 have hj:=(Nk.1 hu).1;rw[h.blk.cell j,Mk,←hu,←h.take,O7,Mq (by rw[←h.len];exact hj)]
theorem Row.isSome_(h:Row w g e size n cap xs cur)(hj:j<cap*size):(w.cell? ⟨g,j,none⟩).isSome=true:=by
 rw[h.blk.cell j,Mk,Mr (by rw[h.full];exact hj)];rfl
theorem Row.frozen(h:Row w g e size n cap xs cur)(j:Nat):w.frozen? ⟨g,j,none⟩=false:=h.blk.frozen j
theorem Row.drew(h:Row w g e size n cap xs cur):Row w.drew g e size n cap xs cur:={ h with blk:=h.blk.drew }
theorem Row.ext{w':World}(h:Row w g e size n cap xs cur)(hx:Ext w w'):Row w' g e size n cap xs cur:={ h with blk:=h.blk.ext hx }
theorem Row.put(h:Row w g e size n cap xs cur)(vs:List Value)(o:Nat)(ho:o+vs.length<=cap*size)(hn':n'<=cap)(hl':xs'.length=n'*size)(hx:(lsplice cur o vs).take (n'*size)=xs'):Row (w.setCells g o vs) g e size n' cap xs' (lsplice cur o vs) :=
 ⟨Blk.sets vs o w cur h.blk (by rw[h.full];exact ho),hl',hn',h.big,by rw[vC _ _ _ (by rw[h.full];exact ho)];exact h.full,hx⟩
theorem Row.reads(h:Row w g e size n cap xs cur):Reads w size (some ⟨g,0,none⟩) n xs :=
 ⟨h.len,fun _=>⟨g,0,rfl,h.blk.lt,fun j u hu=>by rw[MV];exact h.cell hu⟩⟩
end
theorem Ext.only{a w w':World}{g:Nat}(h:Ext a w)(ho:Only g w w')(hg:a.heap.size<=g):Ext a w' :=
 ⟨ho.os.trans h.os,ho.tape.trans h.tape,ho.output.trans h.output,Mx h.size ho.size,fun i hi=>(ho.block i (M5 hi h.size) (by intro e;injection e with e;omega)).trans (h.block i hi)⟩
theorem EF{xs:List Value}(h:l.take m=xs)(hj:j<=m):l.take j=xs.take j:=by
 rw[←h,Rh,Ot hj]
theorem xw(cur xs:List Value)(k i p:Nat)(hx:cur.take ((p+1)*k)=xs)(hl:xs.length=(p+1)*k)(hi:i<=p) :
  (lsplice cur (i*k) (xs.drop ((i+1)*k))).take (p*k)=xs.take (i*k)++xs.drop ((i+1)*k):=by
 have h1:i*k<=(p+1)*k:=MO _ (by omega);have h2:(xs.drop ((i+1)*k)).length=(p-i)*k:=by rw[MU,hl,←Nat.sub_mul,show p+1-(i+1)=p-i by omega]
 have h3:(xs.take (i*k)).length=i*k:=by rw[Mu,hl];omega
 unfold lsplice;rw[EF hx h1,List.take_left' (by rw[Mp,h3,h2,←MY,show i+(p-i)=p by omega])]
theorem vF(cur:List Value)(o:Nat)(zs:List Value)(n:Nat)(h:n<=o)(ho:o<=cur.length):(lsplice cur o zs).take n=cur.take n:=by
 unfold lsplice;rw[Mz,QA (by rw[Mu];omega),Rh,Ot h]
theorem ext_sets{a:World}{g:Nat}:∀(vs:List Value) (o:Nat) (w:World) (_:Unit) (_:Ext a w),a.heap.size<=g->Ext a (w.setCells g o vs)
 |[],_,_,_,h,_=>h
 |v :: r,o,w,_,h,hg=>ext_sets r (o+1) (w.setCell ⟨g,o,none⟩ v) () (h.setCell hg v) hg
end
section
open Go.RowKit
theorem gC{w:World}{e:TypeId}{size n:Nat}{xs:List Value}{g:Nat}{t:TypeId}{cs:Array Value}(h:w.ownsRow base e size v n xs)(hg:Blk w g t cs)(hne:e≠t):v.ownBlock≠some g:=by
 rcases h.2 with ⟨rfl,_⟩ | ⟨g',cap,cur,rfl,_,hh,_⟩
 ·simp[Value.ownBlock]
 ·intro he;have:g'=g:=by simpa[Value.ownBlock] using he
  subst this
  unfold Blk at hg;rw[hg]at hh;injection hh with hh;injection hh with _ ht;exact hne ht.symm
theorem pV{w:World}{base':Nat}{e:TypeId}{size n:Nat}{xs:List Value}(h:w.ownsRow base e size v n xs)(h':w.ownsRow base' e' size' v' n' xs')(hne:e≠e'):v.ownBlock=none∨v.ownBlock≠v'.ownBlock:=by
 rcases h.2 with ⟨rfl,_⟩ | ⟨g,cap,cur,rfl,_,hh,_⟩
 ·left;rfl
 ·right
  rcases h'.2 with ⟨rfl,_⟩ | ⟨g',cap',cur',rfl,_,hh',_⟩
  ·simp[Value.ownBlock]
  ·intro he;have:g=g':=by simpa[Value.ownBlock] using he
   subst this
   rw[hh]at hh';injection hh' with hh';injection hh' with _ ht;exact hne ht
theorem fW{w:World}{e:TypeId}{size n:Nat}{xs:List Value}{g:Nat}(h:w.ownsRow base e size v n xs)(hne:v.ownBlock≠some g)(u:Value):(w.setCell ⟨g,i,none⟩ u).ownsRow base e size v n xs :=
 h.kept (row:=some g) (Only.setCell (Mh g w) i u) (.inr hne)
end
section
open Go.RowKit Go.Shelf
attribute [local go_sem] size_bs toList_bs extract_bs get_bs append_bs lit_append append_lit
def ucells(gs:List Nat):List Value:=gs.map fun g:Nat=>Value.int .u64 (g:Int)
def RdU(w:World)(A:Option Addr)(gs:List Nat):Prop:=Reads w 1 A gs.length (ucells gs)
theorem RdU.ext{w w':World}(h:RdU w A gs)(he:Ext w w'):RdU w' A gs:=Reads.ext h he
theorem RdU.at_{w:World}(h:RdU w A gs)(hk:k<gs.length) :
  ∃b o,A=some ⟨b,o,none⟩∧b<w.heap.size∧w.cell? ⟨b,o+k,none⟩=some (.int .u64 (gs[k]'hk)):=by
 obtain⟨b,o,rfl,hb⟩:=Reads.at_ h (by omega);exact⟨b,o,rfl,hb,Reads.cell h (by simp[ucells,hk])⟩
theorem u64Info:(prog.info? 173).map (fun i=>(i.zero,i.size,i.bytes))=some (some (.int .u64 0),1,8):=by kernel_rfl
theorem yC(l:Bs)(w:World)(hd:l.all isD=true)(h0:l≠[])(hl:l.length<=9) :
  Calls prog 139 #[.string (bs l),.int .i64 10,.int .i64 64] w fun e w'=>e = .returned (.tuple #[.int .u64 (natOf l),.nilIface])∧Ext w w':=by
 refine(strconv_ParseUint_10_at64_ok (bs l) (by rw[size_bs];omega) (natOf l) (by rw[data_bs];exact parse_small l hd h0 hl) w).mono ?_;rintro e w'⟨rfl,rfl|rfl⟩
 ·exact⟨rfl,iD _⟩
 ·exact⟨rfl,rfl,rfl,rfl,by rw[QS];omega,fun k hk=>RF w _ (bs l) k hk⟩
theorem results_num{fn:Func}{a:Tmp}(h:fn.results=#[.cell a 112])(tmps:Array Value)(w:World)(g:Nat)(x y:Value)(ha:tmps.getD a undef = .pointer (some ⟨g,0,none⟩))(hb:Blk w g 112 #[x,y]) :
  (results fn tmps).run prog w = .ok (.agg #[x,y]) w:=by
 have h0:=hb.cell 0;have h1:=hb.cell 1;simp only[Mk,Mm,Ms]at h0 h1;unfold results;rw[h];simp only[Ob,OG,OO,ha];go_simp
def EG(neg:Bool)(gs:List Nat)(w:World)(e:Ending)(w':World):Prop :=
 ∃A c,e = .returned (.agg #[.bool neg,.slice A gs.length c])∧RdU w' A gs∧Ext w w'∧gs.length<=c∧c<=maxLen
theorem aF{w:World}{e:TypeId}{size n:Nat}{xs:List Value}(h:w.ownsRow base e size v n xs):∃A c,v = .slice A n c:=by
 rcases h.2 with ⟨rfl,rfl⟩ | ⟨g,cap,cur,rfl,_⟩
 ·exact⟨none,0,rfl⟩
 ·exact⟨_,_,rfl⟩
theorem own_cap{w:World}{e:TypeId}{size n c:Nat}{xs:List Value}(h:w.ownsRow base e size (.slice A n c) n xs):n<=c∧c<=maxLen:=by
 rcases h.2 with ⟨h1,h2⟩ | ⟨g,cap,cur,h1,_,_,h4,h5,_⟩
 ·injection h1 with _ h3 h4;subst h3;subst h4;exact⟨Mn _,by unfold maxLen;omega⟩
 ·injection h1 with _ _ h3;subst h3;exact⟨h4,h5⟩
theorem own_ext2{w w':World}{e:TypeId}{size n:Nat}{xs:List Value}(h:w.ownsRow base e size v n xs)(hx:Ext w w'):w'.ownsRow base e size v n xs:=by
 rcases h.2 with ⟨h1,h2⟩ | ⟨g,cap,cur,h1,h2,h3,h4⟩
 ·exact⟨h.1,.inl ⟨h1,h2⟩⟩
 ·have hlt:g<w.heap.size:=(MD.1 h3).1;exact⟨h.1,.inr ⟨g,cap,cur,h1,h2,(hx.block g hlt).trans h3,h4⟩⟩
theorem own_base{w:World}{e:TypeId}{size n:Nat}{xs:List Value}(h:w.ownsRow base e size v n xs):∀k,v.ownBlock=some k->base<=k:=by
 rcases h.2 with ⟨rfl,_⟩ | ⟨g,cap,cur,rfl,h2,_⟩
 ·intro k hk;cases hk
 ·intro k hk;injection hk with hk;subst hk;exact h2
theorem Ext.grown{a w w':World}{row:Option Nat}(h:Ext a w)(hg:w.grownBy w' row)(hr:∀k,row=some k->a.heap.size<=k):Ext a w' :=
 ⟨hg.os.trans h.os,hg.tape.trans h.tape,hg.output.trans h.output,Mx h.size hg.size,fun i hi=>(hg.block i (M5 hi h.size) (fun e=>by have:=hr i e.symm;omega)).trans (h.block i hi)⟩
def Gn(m:Bs)(N:Nat)(w:World)(v z:Value)(wr:World):Prop :=
 ∃(y:Int) (done:List Nat),z = .int .i64 y ∧ -9<y∧y<=m.length∧wr.ownsRow (w.heap.size+1) 173 1 v done.length (ucells done)∧done++groupsOf (m.take y.toNat)=gr N∧Ext w wr∧Blk wr w.heap.size 112 #[.bool false,.slice none 0 0]
theorem cW(l:Bs)(w:World)(hs:l.length<=1000000) :
  Calls prog 66 #[.string (bs l)] w (EG (neg l) (gr (natOf (mag l))) w):=by
 obtain⟨i0,hI,hz0,hz1,hz2⟩:=Ny u64Info;have hml:=mag_le l;have HG:=qh (groupsOf_gr (mag l) (mag_all l) (mag_lead l));have HD:=qh (mag_all l);have HGL:Hid ((gr (natOf (mag l))).length<=1000000):=qh (by rw[←groupsOf_gr (mag l) (mag_all l) (mag_lead l)];have:=groupsOf_len (mag l);omega);have HI:=qh hI;have HS:=qh (Mx hml hs);have hls:l.length<=1000000000:=by omega
 have HDIG:=qh (fun w=>intDigits l w hls);clear hI hml;generalize hm:mag l=m at *;generalize hN:natOf m=N at *;generalize hng:neg l=ng at *;clear hm hng hls hs hN;go_enter func66,ntmps66;go_wp2_with fail;refine(HDIG.out _).mono ?_;rintro e w1⟨rfl,hx1⟩;have HBX:=qh ((ID w 112 #[.bool false,.slice none 0 0]).ext hx1);have HX1:=qh (Ext.of_alloc hx1);clear hx1 HDIG;have hsm:=HS.out;go_wp2_with fail;go_loopw [5,6,7,8] (fun v z _ _ wr=>Gn m N w v z wr) (fun _ z _ _ _=>(intOf z).toNat)
 case atStart=>exact⟨m.length,[],rfl,by omega,by omega,⟨rfl,.inl ⟨rfl,rfl⟩⟩,by rw[NP,Mv (Mn _),ML];exact HG.out,HX1.out,HBX.out⟩
 case round =>
  obtain⟨z,done,rfl,hz1',hz2',hown,hsum,hx,hbx⟩:=hrel;have HOWN:=qh hown;have HSUM:=qh hsum;have HX:=qh hx;have HBXr:=qh hbx;clear hown hsum hx hbx;by_cases hpos:0<z
  ·obtain⟨e,rfl⟩:∃e:Nat,z=(e:Int):=⟨z.toNat,by omega⟩;have hel:e<=m.length:=by omega
   have he0:0<e:=by omega
   have hck:((m.take e).drop (e-9)).length<=9:=by rw[MU,Mu];omega
   have HCK:=qh hck;have HCN:Hid ((m.take e).drop (e-9)≠[]):=qh (by intro h;have:=M6 List.length h;rw[MU,Mu]at this;simp at this;omega);have HCD:Hid (((m.take e).drop (e-9)).all isD=true):=qh (all_drop (all_take HD.out e) _);have HST:=qh (groups_step he0 hel);have hcc:List.take (e-(e-9)) (List.drop (e-9) m)=(m.take e).drop (e-9):=List.drop_take.symm;have hcc2:(e:Int)<9->List.take e m=(m.take e).drop (e-9):=by intro h;rw[show e-9=0 by omega,List.drop_zero]
   have HLN:Hid (done.length<=1000000):=qh (by
    have h1:=M6 List.length HSUM.out;rw[Mp]at h1;have h2:=HGL.out;omega)
   clear hck
   have HNX:Hid (∀(x:Nat),natOf ((m.take e).drop (e-9))=x->done++[x]++groupsOf (m.take (e-9))=gr N):=qh (fun x hx=>by
    rw[←HSUM.out,NP,HST.out,hx];simp)
   generalize (m.take e).drop (e-9)=ch at *;by_cases h9:9<=(e:Int)
   focus
    have hmx:max (0:Int) ((e:Int)-9)=(e:Int)-9:=by omega
    go_wp2_with fail;refine(yC ch _ HCD.out HCN.out HCK.out).mono ?_;generalize hx0:natOf ch=x at *;rintro e' w2⟨rfl,hx2⟩;have HX2:=HX.qt hx2;have HOW2:=qh (own_ext2 HOWN.out hx2);have HBX2:=qh (HBXr.out.ext hx2);have hln:=HLN.out;clear hx2 hcc hcc2
   rotate_left
   focus
    have hmx:max (0:Int) ((e:Int)-9)=0:=by omega
    have hcd:=hcc2 (by omega);clear hcc hcc2;go_wp2_with fail;refine(yC ch _ HCD.out HCN.out HCK.out).mono ?_;generalize hx0:natOf ch=x at *;rintro e' w2⟨rfl,hx2⟩;have HX2:=HX.qt hx2;have HOW2:=qh (own_ext2 HOWN.out hx2);have HBX2:=qh (HBXr.out.ext hx2);have hln:=HLN.out;clear hx2
   all_goals
    go_wp2_with (at_builtin;refine OK _ rfl (.tmp 30) (.tmp 32) 110 rfl (w.heap.size+1) 173 i0 _ 1 8 Oc HI.out hz0 hz1 hz2 rfl (by decide) _ done.length (ucells done) rfl (own_ext2 HOW2.out (Id _ _)) ⟨w2.heap.size,0,none⟩ 1 1 [.int .u64 x] rfl rfl (M7 (M4 w2 _)) (by simp[Value.oneCell']) (by omega) (by simp only[maxLen];omega) (by omega) (by have:=HX2.out.size;have:=HBX2.out.lt;simp;omega) _ rfl ?_;intro g' cap' w' hown hgrow hat hlt');refine⟨⟨(e:Int)-9,done++[x],rfl,by omega,by omega,by simpa[ucells] using hown,by rw[show((e:Int)-9).toNat=e-9 by omega];exact HNX.out x rfl,Ext.grown (HX2.out.trans (Id _ _)) hgrow (fun k hk=>by have:=own_base HOW2.out k hk;omega),(hgrow.block w.heap.size (by have:=HBX2.out.lt;simp;omega) (fun e=>by have:=own_base HOW2.out w.heap.size e.symm;omega)).trans (HBX2.out.alloc _)⟩,by simp[intOf];omega⟩
  ·have HDN:Hid (done=gr N):=qh (by have:=HSUM.out;rw[show z.toNat=0 by omega,PJ,groupsOf_nil,N0]at this;exact this);obtain⟨A,c,rfl⟩:=aF HOWN.out;have q0:=HBXr.out.cell 0;have q1:=HBXr.out.cell 1;have f0:=HBXr.out.frozen 0;have f1:=HBXr.out.frozen 1;simp only[Mk,Mm,Ms]at q0 q1;go_wp2_with fail;have hnb:(Value.slice A done.length c).ownBlock≠some w.heap.size:=fun h=>by have:=own_base HOWN.out _ h;omega
   have hfin:=fW (fW HOWN.out hnb (i:=0) (.bool ng)) hnb (i:=1) (.slice A done.length c);refine MI (results_num rfl _ _ w.heap.size (.bool ng) (.slice A done.length c) rfl ((HBXr.out.set_ 0 (.bool ng)).set_ 1 (.slice A done.length c))) rfl ?_;have hcp:=own_cap hfin;rw[HDN.out]at hfin hcp ⊢;exact⟨A,c,rfl,Reads.own hfin,(HX.out.setCell (p:=⟨w.heap.size,0,none⟩) (Mn _) _).setCell (p:=⟨w.heap.size,1,none⟩) (Mn _) _,hcp.1,hcp.2⟩
end
section
open Go.RowKit
attribute [local go_sem] size_bs toList_bs
def tp:Value->Nat | .slice _ n _=>n | _=>0
theorem RdU.take{w:World}(h:RdU w A gs)(n:Nat):RdU w A (gs.take n):=by
 refine⟨by simp[ucells],fun hn=>?_⟩;have h0:0<gs.length:=by rw[Mu]at hn;omega
 obtain⟨b,o,rfl,hb,hc⟩:=h.2 h0;refine⟨b,o,rfl,hb,fun j u hu=>hc j u ?_⟩;unfold ucells at hu ⊢;rw[Sb,O7]at hu;split at hu
 ·exact hu
 ·cases hu
theorem jB(gs:List Nat)(A:Option Addr)(c:Nat)(w:World)(hA:RdU w A gs)(hc:gs.length<=c)(hm:c<=maxLen)(hb:∀g ∈ gs,g<B9) :
  Calls prog 142 #[.slice A gs.length c] w fun e w'=>e = .returned (.slice A (cutL gs).length c)∧w=w':=by
 have HA:=qh hA;have HB:=qh hb;unfold maxLen at hm;clear hA hb;go_enter func142,ntmps142;go_wp2_with fail;go_loop [0] (fun v=>∃k:Nat,k<=gs.length∧v = .slice A k c∧cutL (gs.take k)=cutL gs) (fun v=>tp v)
 case atStart=>exact⟨gs.length,Mn _,rfl,by rw[MK]⟩
 case round =>
  obtain⟨k,hk,rfl,hz⟩:=hrel;have HZ:=qh hz;clear hz;rcases MB k with h0|h0
  ·subst h0;have HL:Hid ((cutL gs).length=0):=qh (by rw[←HZ.out];rfl);go_wp2_with fail;go_ret;exact⟨by rw[HL.out];rfl,rfl⟩
  ·obtain⟨j,rfl⟩:∃j,k=j+1:=⟨k-1,by omega⟩;have hj:j<gs.length:=by omega
   obtain⟨b,o,rfl,hbw,hcell⟩:=HA.out.at_ hj;have hts:gs.take (j+1)=gs.take j++[gs[j]]:=Mo hj;have HTS:=qh hts;clear hts;by_cases hg:gs[j]=0
   ·have HN:Hid (cutL (gs.take j)=cutL gs):=qh (by rw[←HZ.out,HTS.out,hg,cutL_snoc_zero]);rw[hg]at hcell;clear hg;go_wp2_with fail;go_round
    case rel=>exact⟨j,by omega,rfl,HN.out⟩
    case measure=>simp[tp]
   ·have HL:Hid ((cutL gs).length=j+1):=qh (by rw[←HZ.out,HTS.out,cutL_snoc _ hg];simp;omega);have hgb:((gs[j]:Int) == 0)=false:=by rw[Mt];omega
    clear hg;generalize (gs[j]'hj)=g at *;go_wp2_with fail;go_ret;exact⟨by rw[HL.out];rfl,rfl⟩
def wk(x y:Nat)(w:World)(e:Ending)(w':World):Prop:=Ext w w'∧∃r:Int,e = .returned (.int .i64 r)∧((r<0∧x<y)∨(r=0∧x=y)∨(0<r∧y<x))
def Bh(x y:Nat)(w:World)(e:Ending)(w':World):Prop:=Ext w w'∧∃r:Int,e = .returned (.int .i64 r)∧((r<0∧x<y)∨(r=0∧x=y)∨(0<r∧y<x)) ∧ -1000000<=r∧r<=1000000
theorem oL(x y:Nat)(A A':Option Addr)(c c':Nat)(w:World)(hA:RdU w A (gr x))(hA':RdU w A' (gr y))(hn:(gr x).length<=1000000)(hn':(gr y).length<=1000000) :
  Calls prog 67 #[.slice A (gr x).length c,.slice A' (gr y).length c'] w (Bh x y w):=by
 have HA:=qh hA;have HA':=qh hA';clear hA hA';by_cases hl:(gr x).length=(gr y).length
 ·have HLL:=qh hl;have hbl:(((gr x).length:Int) != ((gr y).length:Int))=false:=by rw[OV];omega
  have HLS:=qh (fun k (a:k<(gr x).length) (b:k<(gr y).length) he h=>gr_less (x:=x) (y:=y) (k:=k) hl a b he h);have HGT:=qh (fun k (a:k<(gr y).length) (b:k<(gr x).length) he h=>gr_less (x:=y) (y:=x) (k:=k) hl.symm a b he h);have HEQ:Hid (gr x=gr y->x=y):=qh gr_inj;generalize gr x=gx at *;generalize gr y=gy at *;clear hl;go_enter func67,ntmps67;go_wp2_with fail;go_loopw [5,23,33] (fun z _ _ wr=>∃k:Nat,k<=gx.length∧z = .int .i64 ((k:Int)-1)∧(∀(j:Nat) (h1:j<gx.length) (h2:j<gy.length),k<=j->gx[j]=gy[j])∧Ext w wr) (fun z _ _ _=>(intOf z+1).toNat)
  case atStart=>exact⟨gx.length,Mn _,rfl,fun j h1 _ hj=>absurd h1 (by omega),iD _⟩
  case round =>
   obtain⟨k,hk,rfl,hz,hx⟩:=hrel;have HZ:=qh hz;have HX:=qh hx;clear hz hx;rcases MB k with h0|h0
   ·subst h0;have HY:Hid (x=y):=qh (HEQ.out (Oi HLL.out (fun j h1 h2=>HZ.out j h1 h2 (by omega))));go_wp2_with fail;go_ret;exact⟨HX.out,0,rfl,.inr (.inl ⟨rfl,HY.out⟩),by decide,by decide⟩
   ·obtain⟨j,rfl⟩:∃j,k=j+1:=⟨k-1,by omega⟩;have hj:j<gx.length:=by omega
    have hj':j<gy.length:=by have:=HLL.out;omega
    obtain⟨b,o,rfl,hbw,hcell⟩:=(HA.out.ext HX.out).at_ hj;obtain⟨b',o',rfl,hbw',hcell'⟩:=(HA'.out.ext HX.out).at_ hj';have e0:((j+1:Nat):Int)-1=(j:Int):=by omega
    rw[e0];clear e0;rcases Rl (gx[j]'hj) (gy[j]'hj') with h|h|h
    ·have HY:Hid (x<y):=qh (HLS.out j hj hj' (fun i h1 h2 hi=>HZ.out i h1 h2 (by omega)) h);generalize (gx[j]'hj)=p at *;generalize (gy[j]'hj')=q at *;go_wp2_with fail;go_quiet (fail);go_wp2_with fail;go_ret;exact⟨HX.out.drewN _, -1,rfl,.inl ⟨by decide,HY.out⟩,by decide,by decide⟩
    ·have HNX:=qh (fun i (h1:i<gx.length) (h2:i<gy.length) (hi:j<=i)=>(by
      rcases Nw j i with h' | h'
      ·exact HZ.out i h1 h2 (by omega)
      ·obtain rfl:i=j:=by omega
       exact h:gx[i]=gy[i]))
     rw[←h]at hcell';generalize (gx[j]'hj)=p at *;clear h;go_wp2_with fail;go_quiet (fail);go_wp2_with fail;go_quiet (fail);go_wp2_with fail;go_roundw
     case rel=>exact⟨j,by omega,rfl,HNX.out,HX.out.drewN _⟩
     case measure=>simp[intOf]
    ·have HY:Hid (y<x):=qh (HGT.out j hj' hj (fun i h1 h2 hi=>(HZ.out i h2 h1 (by omega)).symm) h);have hb1:¬ (gx[j]'hj)<(gy[j]'hj'):=by omega
     generalize (gx[j]'hj)=p at *;generalize (gy[j]'hj')=q at *;go_wp2_with fail;go_quiet (fail);go_wp2_with fail;go_quiet (fail);go_wp2_with fail;go_ret;exact⟨(HX.out.drewN _).drewN _,1,rfl,.inr (.inr ⟨by decide,HY.out⟩),by decide,by decide⟩
 ·have hbl:(((gr x).length:Int) != ((gr y).length:Int))=true:=by rw[Nc];omega
  have HY:Hid (((((gr x).length:Int)-(gr y).length<0)∧x<y)∨((((gr x).length:Int)-(gr y).length=0)∧x=y)∨((0<((gr x).length:Int)-(gr y).length)∧y<x)):=qh (by
   rcases Nw (gr x).length (gr y).length with h|h
   ·exact .inl ⟨by omega,gr_shorter h⟩
   ·exact .inr (.inr ⟨by omega,gr_shorter (by omega)⟩))
  generalize gr x=gx at *;generalize gr y=gy at *;clear hl;go_enter func67,ntmps67;go_wp2_with fail;go_ret;exact⟨iD _,_,rfl,HY.out,by omega,by omega⟩
theorem intCompare(x y:Nat)(A A':Option Addr)(c c':Nat)(w:World)(hA:RdU w A (gr x))(hA':RdU w A' (gr y))(hn:(gr x).length<=1000000)(hn':(gr y).length<=1000000) :
  Calls prog 67 #[.slice A (gr x).length c,.slice A' (gr y).length c'] w (wk x y w) :=
 (oL x y A A' c c' w hA hA' hn hn').mono (fun _ _ ⟨h1,r,h2,h3,_⟩=>⟨h1,r,h2,h3⟩)
theorem oneU(gs:List Nat):∀u ∈ ucells gs,u.oneCell'=true:=by
 intro u hu;obtain⟨g,_,rfl⟩:=MH.1 hu;rfl
def Gp(gs:List Nat)(w:World)(e:Ending)(w':World):Prop :=
 ∃A c,e = .returned (.slice A gs.length c)∧w'.ownsRow w.heap.size 173 1 (.slice A gs.length c) gs.length (ucells gs)∧Ext w w'
theorem Gq(gs:List Nat)(A:Option Addr)(c:Nat)(w:World)(hA:RdU w A gs)(hn:gs.length<=1000000) :
  Calls prog 211 #[.slice A gs.length c] w (Gp gs w):=by
 obtain⟨i0,hI,hz0,hz1,hz2⟩:=Ny u64Info;have HI:=qh hI;clear hI
 cases A with
 |none =>
  have h0:gs=[]:=by
   rcases MB gs.length with h|h
   ·exact My.1 h
   ·obtain⟨b,o,e,_⟩:=hA.2 h;cases e
  subst h0;clear hA;have hnil:∀W:World,(binOp .eql 110 (.slice none 0 c) (.slice none 0 0)).run prog W = .ok (.bool true) W:=fun W=>QF W _ _ _ _ _ _ _ Oc
  go_enter func211,ntmps211;go_wp2_with fail;go_ret;exact⟨none,0,rfl,⟨rfl,.inl ⟨rfl,rfl⟩⟩,iD _⟩
 |some a =>
  have hnil:∀W:World,(binOp .eql 110 (.slice (some a) gs.length c) (.slice none 0 0)).run prog W = .ok (.bool false) W:=fun W=>QF W _ _ _ _ _ _ _ Oc
  rcases MB gs.length with h0|h0
  ·have h1:gs=[]:=My.1 h0;subst h1;simp only[Ns]at hnil;clear hA h0;go_enter func211,ntmps211
   have hr:∀ty,(Builtin.append_ #[110,110] ty #[.slice (some ⟨w.heap.size,0,none⟩) 0 0,.slice (some a) 0 c]).run prog (w.alloc (.cells #[] 173)) = .ok (.slice (some ⟨w.heap.size,0,none⟩) 0 0) (w.alloc (.cells #[] 173)):=fun ty =>
    run_append_room_cells _ _ ty 173 i0 Oc HI.out w.heap.size 0 0 0 a 0 c [] (by simp) (by simp) (by simp) (Mn _) (by simp) (by simp)
   go_wp2_with (at_builtin;refine Lib.wpList_append_run _ rfl (.tmp 5) (.tmp 6) _ _ rfl _ _ rfl rfl _ _ (hr _) ?_);go_ret;exact⟨some ⟨w.heap.size,0,none⟩,0,rfl,⟨rfl,.inr ⟨w.heap.size,0,#[],rfl,Mn _,M4 w _,Mn _,by decide,rfl,rfl⟩⟩,Id _ _⟩
  ·obtain⟨b,o,e,hb,hc⟩:=hA.2 h0;injection e with e
   subst e
   have HC:Hid (∀j u,(ucells gs)[j]? = some u->(w.alloc (.cells #[] 173)).cell? ((⟨b,o,none⟩:Addr).add j)=some u):=qh (fun j u hu=>by
    rw[So];exact((Id w _).cell (p:=⟨b,o+j,none⟩) hb).trans (hc j u hu))
   have HL:Hid ((ucells gs).length=gs.length*1):=qh (by simp[ucells]);clear hc hA;go_enter func211,ntmps211;go_wp2_with (at_builtin;refine OK _ rfl (.tmp 5) (.tmp 6) 110 rfl w.heap.size 173 i0 _ 1 8 Oc HI.out hz0 hz1 hz2 rfl (by decide) _ 0 [] rfl ⟨rfl,.inr ⟨w.heap.size,0,#[],rfl,Mn _,M4 w _,Mn _,by decide,rfl,rfl⟩⟩ ⟨b,o,none⟩ gs.length c (ucells gs) rfl HL.out HC.out (oneU gs) h0 (by simp only[maxLen];omega) (by omega) (by simp) _ rfl ?_;intro g cap w' hown hgrow hat hlt);go_ret;simp only[MV,ML]at hown;exact⟨some ⟨g,0,none⟩,cap,rfl,hown,Ext.only (Id w (.cells #[] 173)) hgrow (Mn _)⟩
def mixed(f:Nat->Nat)(gs:List Nat)(k:Nat):List Nat:=(List.range k).map f++gs.drop k
theorem mixed_len(f:Nat->Nat)(gs:List Nat)(k:Nat)(h:k<=gs.length):(mixed f gs k).length=gs.length:=by simp[mixed];omega
theorem mixed_zero(f:Nat->Nat)(gs:List Nat):mixed f gs 0=gs:=by simp[mixed]
theorem mixed_at(f:Nat->Nat)(gs:List Nat)(k:Nat)(h:k<gs.length):(mixed f gs k)[k]? = some (gs[k]):=by
 unfold mixed;rw[NK (by simp)];simp[h]
theorem mixed_set(f:Nat->Nat)(gs:List Nat)(k:Nat)(h:k<gs.length):(mixed f gs k).set k (f k)=mixed f gs (k+1):=by
 unfold mixed;rw[Nx _ _ (by simp),Sw,Pp];simp only[Nb,Rm,Pq];rw[MR h,List.set_cons_zero,Mz];rfl
theorem mixed_end(f:Nat->Nat)(gs:List Nat):mixed f gs gs.length=(List.range gs.length).map f:=by simp[mixed]
def RowU(w:World)(g cap:Nat)(gs:List Nat):Prop:=∃cur,Row w g 173 1 gs.length cap (ucells gs) cur
theorem RowU.cell{w:World}{g cap:Nat}(h:RowU w g cap gs)(hk:gs[k]? = some x):w.cell? ⟨g,k,none⟩=some (.int .u64 x):=by
 obtain⟨cur,h⟩:=h;exact h.cell (by simp[ucells,hk])
theorem RowU.frozen{w:World}{g cap:Nat}(h:RowU w g cap gs)(k:Nat):w.frozen? ⟨g,k,none⟩=false:=by
 obtain⟨cur,h⟩:=h;exact h.frozen k
theorem RowU.lt{w:World}{g cap:Nat}(h:RowU w g cap gs):g<w.heap.size:=by obtain⟨cur,h⟩:=h;exact h.blk.lt
theorem RowU.reads{w:World}{g cap:Nat}(h:RowU w g cap gs):RdU w (some ⟨g,0,none⟩) gs:=by obtain⟨cur,h⟩:=h;exact h.reads
theorem RowU.caps{w:World}{g cap:Nat}(h:RowU w g cap gs):gs.length<=cap∧cap<=maxLen:=by obtain⟨cur,h⟩:=h;exact⟨h.le,h.big⟩
theorem RowU.ext{w w':World}{g cap:Nat}(h:RowU w g cap gs)(hx:Ext w w'):RowU w' g cap gs:=by obtain⟨cur,h⟩:=h;exact⟨cur,h.ext hx⟩
theorem RowU.set_{w:World}{g cap:Nat}(h:RowU w g cap gs)(k x:Nat)(_hk:k<gs.length):RowU (w.setCell ⟨g,k,none⟩ (.int .u64 x)) g cap (gs.set k x):=by
 obtain⟨cur,h⟩:=h;have h1:=h.blk.set_ k (.int .u64 x);rw[N6]at h1;refine⟨cur.set k (.int .u64 x),h1,by simp[ucells],by simpa using h.le,h.big,by simpa using h.full,?_⟩;rw[MM,Rw,h.take];simp[ucells]
def MagEnds(n:Nat)(w:World)(e:Ending)(w':World):Prop :=
 ∃A c,e = .returned (.slice A (gr n).length c)∧RdU w' A (gr n)∧Ext w w'∧(gr n).length<=c∧c<=maxLen
theorem sq(h:y<=x):cutL ((List.range (gr x).length).map (mi (at0 (gr x)) (at0 (gr y))))=gr (x-y):=by
 have hl:(gr y).length<=(gr x).length:=by
  rcases Nw (gr x).length (gr y).length with h1|h1
  ·have:=gr_shorter h1;omega
  ·exact h1
 have ha:=at0_bd (gr_lt x);have hb:=at0_bd (gr_lt y);have e1:gsum (at0 (gr x)) (gr x).length=x:=by rw[←gval_gsum _ _ (Mn _),gval_gr]
 have e2:gsum (at0 (gr y)) (gr x).length=y:=by rw[←gval_gsum _ _ hl,gval_gr]
 rw[cutL_gr (by intro g hg;obtain⟨k,_,rfl⟩:=MH.1 hg;exact mi_lt ha hb k),gval_range,minus_val ha hb (by rw[e1,e2];exact h),e1,e2]
theorem RowU.put{w:World}{g cap:Nat}(h:RowU w g cap gs)(k:Nat)(z:Int)(x:Nat)(hk:k<gs.length)(hz:z=(x:Int)):RowU (w.setCell ⟨g,k,none⟩ (.int .u64 z)) g cap (gs.set k x):=by
 subst hz;exact h.set_ k x hk
theorem RowU.step1{w:World}{g cap:Nat}{f:Nat->Nat}(h:RowU w g cap (mixed f gs k))(hk:k<gs.length)(z:Int)(hz:z=(f k:Nat)):RowU (w.setCell ⟨g,k,none⟩ (.int .u64 z)) g cap (mixed f gs (k+1)):=by
 rw[←mixed_set f gs k hk];exact h.put k z (f k) (by rw[mixed_len f gs k (by omega)];exact hk) hz
theorem RowU.step2{w:World}{g cap:Nat}{f:Nat->Nat}(h:RowU w g cap (mixed f gs k))(hk:k<gs.length)(z1 z:Int)(u:Nat)(h1:z1=(u:Int))(hz:z=(f k:Nat)):RowU ((w.setCell ⟨g,k,none⟩ (.int .u64 z1)).setCell ⟨g,k,none⟩ (.int .u64 z)) g cap (mixed f gs (k+1)):=by
 have hl:k<(mixed f gs k).length:=by rw[mixed_len f gs k (by omega)];exact hk
 have:=(h.put k z1 u hl h1).put k z (f k) (by rw[MM];exact hl) hz;rw[RN,mixed_set f gs k hk]at this;exact this
theorem intMinus(x y:Nat)(hle:y<=x)(A A':Option Addr)(c c':Nat)(w:World)(hA:RdU w A (gr x))(hA':RdU w A' (gr y))(hn:(gr x).length<=1000000)(_hn':(gr y).length<=1000000) :
  Calls prog 141 #[.slice A (gr x).length c,.slice A' (gr y).length c'] w (MagEnds (x-y) w):=by
 have HA:=qh hA;have HA':=qh hA';have HCM:=qh (sq hle);have HBX:=qh (at0_bd (gr_lt x));have HBY:=qh (at0_bd (gr_lt y));have HZX:Hid (gr x=[]->x-y=0):=qh (fun h=>by have:x=0:=gr_inj (by rw[h,gr_zero]);omega);generalize x-y=d at *;generalize gr x=gx at *;generalize gr y=gy at *;clear hA hA' hle;go_enter func141,ntmps141;go_wp2_with fail;refine(Gq gx A c _ HA.out hn).mono ?_;rintro e w1⟨A1,c1,rfl,hown,hx1⟩;rcases MB gx.length with h0|h0
 ·have h1:gx=[]:=My.1 h0;subst h1;have HD:Hid (gr d=[]):=qh (by rw[HZX.out rfl,gr_zero]);have HOW:=qh (own_cap hown);have HX1:=qh hx1;have HRD:=qh (show RdU w1 A1 [] from Reads.own hown);clear hown hx1 h0;simp only[Ns]at *;go_wp2_with fail;go_loopw [13,6,7,8] (fun i _ _ _ wr=>i = .int .i64 0∧wr=w1) (fun _ _ _ _ _=>0)
  case atStart=>exact⟨rfl,rfl⟩
  case round =>
   obtain⟨rfl,rfl⟩:=hrel;go_wp2_with fail;refine(jB [] A1 c1 _ HRD.out HOW.out.1 HOW.out.2 (by simp)).mono ?_;rintro e w9⟨rfl,rfl⟩;go_wp2_with fail;go_ret;exact⟨A1,c1,by rw[HD.out];rfl,by rw[HD.out];exact HRD.out,HX1.out,by rw[HD.out];simp,HOW.out.2⟩
 ·obtain⟨g,cap,e1,hg,hlt⟩:=hown.form h0;injection e1 with e1 _ e3
  subst e1;subst e3;obtain⟨hgb,cur,hrow⟩:=Row.of_own hown;have HROW:Hid (RowU w1 g c1 (mixed (mi (at0 gx) (at0 gy)) gx 0)):=qh (by rw[mixed_zero];exact⟨cur,hrow⟩);have HX1:=qh hx1;clear hrow hown hx1;go_wp2_with fail;go_loopw [13,6,7,8] (fun i bo _ _ wr=>∃k:Nat,k<=gx.length∧i = .int .i64 k∧bo = .int .u64 (bw (at0 gx) (at0 gy) k:Nat)∧RowU wr g c1 (mixed (mi (at0 gx) (at0 gy)) gx k)∧Ext w wr) (fun i _ _ _ _=>gx.length-(intOf i).toNat)
  case atStart=>exact⟨0,by omega,rfl,rfl,HROW.out,HX1.out⟩
  case round =>
   obtain⟨k,hk,rfl,rfl,hrow,hx⟩:=hrel;have HR:=qh hrow;have HX:=qh hx;clear hrow hx;by_cases hlt2:k<gx.length
   ·have hcell:=HR.out.cell (mixed_at (mi (at0 gx) (at0 gy)) gx k hlt2);have hfz:=HR.out.frozen k;have hax:=HBX.out k;have hby:=HBY.out k;have hbw:=bw_le (at0 gx) (at0 gy) k;have HST:=qh (mixed_set (mi (at0 gx) (at0 gy)) gx k hlt2);have HMI:Hid (mi (at0 gx) (at0 gy) k=if at0 gx k<at0 gy k+bw (at0 gx) (at0 gy) k then at0 gx k+B9-(at0 gy k+bw (at0 gx) (at0 gy) k) else at0 gx k-(at0 gy k+bw (at0 gx) (at0 gy) k)):=qh rfl;have HBW:Hid (bw (at0 gx) (at0 gy) (k+1)=if at0 gx k<at0 gy k+bw (at0 gx) (at0 gy) k then 1 else 0):=qh rfl;rw[←at0_lt hlt2]at hcell;have e9:B9=1000000000:=rfl;rw[e9]at hax hby;clear e9;by_cases hk2:k<gy.length
    ·obtain⟨b,o,rfl,hbb,hcy⟩:=(HA'.out.ext HX.out).at_ hk2;rw[←at0_lt hk2]at hcy;generalize hpa:at0 gx k=p at *;generalize hqa:at0 gy k=q at *;generalize hra:bw (at0 gx) (at0 gy) k=r at *;clear hpa hqa hra;by_cases hlt3:(p:Int)<(r:Int)+(q:Int)
     ·have HZ:Hid ((p:Int)+1000000000-((r:Int)+(q:Int))=(mi (at0 gx) (at0 gy) k:Nat)):=qh (by rw[HMI.out,Mq (by omega),show B9=1000000000 from rfl];omega);have HB1:Hid (bw (at0 gx) (at0 gy) (k+1)=1):=qh (by rw[HBW.out,Mq (by omega)]);go_wp2_with fail;exact⟨⟨k+1,by omega,by go_num,by rw[HB1.out];rfl,RowU.step2 HR.out hlt2 _ _ (p+1000000000) (by omega) HZ.out,(HX.out.setCell (p:=⟨g,k,none⟩) hgb _).setCell (p:=⟨g,k,none⟩) hgb _⟩,by simp[intOf];omega⟩
     ·have HZ:Hid ((p:Int)-((r:Int)+(q:Int))=(mi (at0 gx) (at0 gy) k:Nat)):=qh (by rw[HMI.out,Mj (by omega)];omega);have HB1:Hid (bw (at0 gx) (at0 gy) (k+1)=0):=qh (by rw[HBW.out,Mj (by omega)]);go_wp2_with fail;exact⟨⟨k+1,by omega,by go_num,by rw[HB1.out];rfl,RowU.step1 HR.out hlt2 _ HZ.out,HX.out.setCell (p:=⟨g,k,none⟩) hgb _⟩,by simp[intOf];omega⟩
    ·have hq0:at0 gy k=0:=at0_ge (by omega);rw[hq0]at HMI HBW hby;generalize hpa:at0 gx k=p at *;generalize hra:bw (at0 gx) (at0 gy) k=r at *;clear hpa hra hq0;by_cases hlt3:(p:Int)<(r:Int)
     ·have HZ:Hid ((p:Int)+1000000000-((r:Int))=(mi (at0 gx) (at0 gy) k:Nat)):=qh (by rw[HMI.out,Mq (by omega),show B9=1000000000 from rfl];omega);have HB1:Hid (bw (at0 gx) (at0 gy) (k+1)=1):=qh (by rw[HBW.out,Mq (by omega)]);go_wp2_with fail;exact⟨⟨k+1,by omega,by go_num,by rw[HB1.out];rfl,RowU.step2 HR.out hlt2 _ _ (p+1000000000) (by omega) HZ.out,(HX.out.setCell (p:=⟨g,k,none⟩) hgb _).setCell (p:=⟨g,k,none⟩) hgb _⟩,by simp[intOf];omega⟩
     ·have HZ:Hid ((p:Int)-((r:Int))=(mi (at0 gx) (at0 gy) k:Nat)):=qh (by rw[HMI.out,Mj (by omega)];omega);have HB1:Hid (bw (at0 gx) (at0 gy) (k+1)=0):=qh (by rw[HBW.out,Mj (by omega)]);go_wp2_with fail;exact⟨⟨k+1,by omega,by go_num,by rw[HB1.out];rfl,RowU.step1 HR.out hlt2 _ HZ.out,HX.out.setCell (p:=⟨g,k,none⟩) hgb _⟩,by simp[intOf];omega⟩
   ·have hkl:k=gx.length:=by omega
    have HRD:=qh (show RdU wr (some ⟨g,0,none⟩) ((List.range gx.length).map (mi (at0 gx) (at0 gy))) by have:=HR.out.reads;rw[hkl,mixed_end]at this;exact this);have HCP:=qh (show((List.range gx.length).map (mi (at0 gx) (at0 gy))).length<=c1∧c1<=maxLen by have:=HR.out.caps;rw[hkl,mixed_end]at this;exact this);have HML:Hid (∀z ∈ (List.range gx.length).map (mi (at0 gx) (at0 gy)),z<B9):=qh (by intro z hz;obtain⟨j,_,rfl⟩:=MH.1 hz;exact mi_lt HBX.out HBY.out j);have hll:((List.range gx.length).map (mi (at0 gx) (at0 gy))).length=gx.length:=by simp
    have HCUT:=qh (fun W (hW:RdU W (some ⟨g,0,none⟩) _)=>jB ((List.range gx.length).map (mi (at0 gx) (at0 gy))) (some ⟨g,0,none⟩) c1 W hW HCP.out.1 HCP.out.2 HML.out);rw[hll,HCM.out]at HCUT;have HPR:=qh (cutL_prefix ((List.range gx.length).map (mi (at0 gx) (at0 gy))));have HLE:=qh (cutL_le ((List.range gx.length).map (mi (at0 gx) (at0 gy))));rw[HCM.out]at HPR HLE;clear hll hkl;generalize (List.range gx.length).map (mi (at0 gx) (at0 gy))=fin at *;go_wp2_with fail;refine(HCUT.out _ HRD.out).mono ?_;rintro e w9⟨rfl,rfl⟩;go_wp2_with fail;go_ret;exact⟨some ⟨g,0,none⟩,c1,rfl,by rw[HPR.out];exact HRD.out.take _,HX.out,by have:=HCP.out.1;have:=HLE.out;omega,HCP.out.2⟩
end
end Go.Proofs.YtaegjkllenlfpaaGreatDoor
