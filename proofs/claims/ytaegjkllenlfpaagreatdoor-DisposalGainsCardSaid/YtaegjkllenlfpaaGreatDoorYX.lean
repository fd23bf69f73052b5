/- The seat's texts, part YX. -/
import Derived.Test.YtaegjkllenlfpaaGreatDoorY34
import Derived.Test.YtaegjkllenlfpaaGreatDoorYL
set_option maxRecDepth 100000
set_option maxHeartbeats 8000000
namespace Go.Proofs.YtaegjkllenlfpaaGreatDoor
open Go.Proofs.Tryz
variable {M k b0 pc:Nat}{z S T m:Int}{w' W:World}{A pa oa:Option Addr}{ps:List Fr}{id ins s:Bs}{os:List OptV}{cs:List Value}
section
open Go.RowKit
theorem QB.pos{L:Nat}{q:Rat}(h:QB L q):0<L:=by
 rcases MB L with h0|h0
 ·subst h0;have:=h.2;have:=q.den_pos;omega
 ·exact h0
theorem QB.mul{L:Nat}{p q:Rat}(h:QB L p)(k:QB M q):QB (L+M) (p*q):=by
 rw[Rat.mul_def',←Rat.divInt_ofNat];refine kW (by have:=h.pos;omega) ?_ ?_
 ·rw[Pi];exact eT h.1 k.1
 ·rw[NL];exact eT h.2 k.2
theorem Ap{L:Nat}(hL:0<L)(h:z.natAbs<10 ^ L):QB L (z:Rat):=⟨by simpa using h,by simp;exact SE (by omega) (by decide)⟩
theorem vZ(r:List Int):(ordR r).Pairwise (fun x y=>r[y]<=r[x]):=by
 have h:=List.pairwise_mergeSort (le:=fun x y=>!ltR r y x) (by
  intro a b c h1 h2;simp only[QE,←Oa,ltR_iff]at *;omega) (by
  intro a b;simp only[Qo,QE,←Oa,ltR_iff];omega) (List.finRange r.length)
 refine List.Pairwise.imp ?_ h;intro a b hab;simp only[QE,←Oa,ltR_iff]at hab;omega
theorem Aq{α:Type}(f:α->Int)(a b:List α):((a++b).map f).sum=(a.map f).sum+(b.map f).sum:=by simp
theorem Du{α:Type}(f:α->Int){a b:List α}(h:a.Perm b):(a.map f).sum=(b.map f).sum:=by
 induction h with
 |nil=>rfl
 |cons x _ ih=>simp[ih]
 |swap x y l=>simp;omega
 |trans _ _ ih1 ih2=>exact ih1.trans ih2
theorem uV(r:List Int):((List.finRange r.length).map (fun i=>r[i])).sum=r.sum:=by
 congr 1
 apply Oi
 ·simp
 ·intro i h1 h2;simp
theorem Dv{α:Type}(f:α->Int)(l:List α)(h:∀x ∈ l,f x=0):(l.map f).sum=0:=by
 induction l with
 |nil=>rfl
 |cons a r ih=>simp only[MQ,Nz];rw[h a (by simp),ih (fun x hx=>h x (by simp[hx]))];rfl
theorem ti{α:Type}(f:α->Int)(l:List α)(h:∀x ∈ l,0<=f x∧f x<S){i:α}(hi:i ∈ l)(h0:f i=0):(l.map f).sum<=(l.length-1)*(S-1):=by
 induction l with
 |nil=>simp at hi
 |cons a r ih =>
  have h1:=h a (by simp);have h2:=fun x hx=>h x (Nq a hx)
  have hb:=qa (S:=S) (r.map f) (fun x hx=>by obtain⟨y,hy,rfl⟩:=MH.1 hx;exact h2 y hy);rw[Nb]at hb;simp only[MQ,Nz,MG];rcases MS.1 hi with rfl|hi
  ·rw[h0];rw[Od,show((r.length:Int)+((1:Nat):Int)-1)=r.length by omega];omega
  ·have:=ih h2 hi;rw[Od,show((r.length:Int)+((1:Nat):Int)-1)=(r.length-1)+1 by omega,Qw];omega
theorem Ar{ws:List Int}(hS:0<ws.sum)(hk:k ∈ cP T ws)(hl:k<(ce T ws).length):0<(ce T ws)[k]:=by
 obtain⟨i,hi,rfl⟩:=MH.1 hk;have hr:=oQ (T:=T) hS;have hget:∀j:Fin (ce T ws).length,0<=(ce T ws)[j]∧(ce T ws)[j]<ws.sum:=fun j=>hr _ (Ml _)
 have hm:=gD (T:=T) hS;have hme:=ww (T:=T) (ws:=ws);have hord:=vZ (ce T ws);have hperm:=sA (ce T ws);have hlen:=ordR_len (ce T ws);rcases Int.lt_or_le 0 ((ce T ws)[i.val]'hl) with h|h
 ·exact h
 ·exfalso
  have h0:(ce T ws)[i]=0:=by have:=hget i;simp only[Fin.getElem_fin]at *;omega
  generalize hL:ordR (ce T ws)=L at *;have hsp:L.take (bF T ws).toNat++L.drop (bF T ws).toNat=L:=MP _ _
  have hz:∀x ∈ L.drop (bF T ws).toNat,(ce T ws)[x]=0:=by
   intro x hx;rw[←hsp,List.pairwise_append]at hord;have:=hord.2.2 i hi x hx;have:=hget x;omega
  have hs:((L.take (bF T ws).toNat).map (fun j=>(ce T ws)[j])).sum=(ce T ws).sum:=by
   have e1:=Aq (fun j=>(ce T ws)[j]) (L.take (bF T ws).toNat) (L.drop (bF T ws).toNat);rw[hsp,Dv _ _ hz,Du _ hperm,uV]at e1;omega
  have hb:=ti (S:=ws.sum) (fun j=>(ce T ws)[j]) (L.take (bF T ws).toNat) (fun x _=>hget x) hi h0;rw[hs,←hme]at hb
  have hln:((L.take (bF T ws).toNat).length:Int)=bF T ws:=by
   rw[Mu,hlen,jh];omega
  have hpos:0<bF T ws:=by
   rw[←hln];have:=List.length_pos_of_mem hi;omega
  rw[hln]at hb
  have e2:(bF T ws-1)*(ws.sum-1)=ws.sum*bF T ws-bF T ws-ws.sum+1:=by
   rw[Int.sub_mul,Int.mul_sub,Qf (bF T ws) ws.sum];omega
  omega
theorem wa{ws:List Int}(hS:0<ws.sum)(k:Nat)(hk:k<ws.length)(hk2:k<(aY T ws).length) :
  -ws.sum<(aY T ws)[k]*ws.sum-T*ws[k]∧(aY T ws)[k]*ws.sum-T*ws[k]<ws.sum:=by
 have hp:k<(bN T ws).length:=by rw[kA];exact hk
 have hr:k<(ce T ws).length:=by rw[jh];exact hk
 have hg:=lB (bN T ws) (cP T ws) mw k hp
 have e:(aY T ws)[k]=(bN T ws)[k]+if k ∈ cP T ws then 1 else 0:=by
  have:(aY T ws)[k]? = some ((aY T ws)[k]):=Mr hk2;unfold aY at this hg ⊢
  rw[hg]at this;injection this with this;exact this.symm
 have ep:(bN T ws)[k]=T*ws[k] / ws.sum:=by simp[bN]
 have er:(ce T ws)[k]=T*ws[k] % ws.sum:=by simp[ce]
 have h1:=RH (T*ws[k]) ws.sum;have h2:=Qs (T*ws[k]) (b:=ws.sum) (by omega);have h3:=Q7 (T*ws[k]) hS;rw[e,ep,Qw,Qf (T*ws[k] / ws.sum) ws.sum];by_cases h:k ∈ cP T ws
 ·have h4:=Ar hS h hr;rw[er]at h4;rw[Mq h,Int.one_mul];omega
 ·rw[Mj h,Int.zero_mul];omega
end
section
open Go.RowKit Go.Shelf
attribute [local go_sem] size_bs toList_bs
theorem pp(x:StepV):(cT x).length=6:=rfl
theorem oS.ext{w:World}{gs:List StepV}(h:oS w A gs)(he:Ext w w'):oS w' A gs:=Reads.ext h he
theorem oS.at_{w:World}{gs:List StepV}(h:oS w A gs)(hk:k<gs.length) :
  ∃b o,A=some ⟨b,o,none⟩∧b<w.heap.size∧w.cell? ⟨b,o+k*6,none⟩=some (.string (bs (gs[k]'hk).cause))∧w.cell? ⟨b,o+k*6+1,none⟩=some (.string (bs (gs[k]'hk).frm))∧w.cell? ⟨b,o+k*6+2,none⟩=some (.string (bs (gs[k]'hk).to_))∧w.cell? ⟨b,o+k*6+3,none⟩=some (.string (bs (gs[k]'hk).q)) ∧
    w.cell? ⟨b,o+k*6+4,none⟩=some (.string (bs (gs[k]'hk).made))∧w.cell? ⟨b,o+k*6+5,none⟩=some (.string (bs (gs[k]'hk).c)):=by
 obtain⟨b,o,rfl,hb⟩:=Reads.at_ h (by omega)
 have key:∀j (_:j<6),w.cell? ⟨b,o+k*6+j,none⟩=(cT (gs[k]'hk))[j]? := fun j hj=>by
  have h1:=ik cT 6 pp gs k j hk hj;have hl:j<(cT (gs[k]'hk)).length:=by rw[pp];exact hj
  rw[Mr hl]at h1 ⊢;have h2:=Reads.cell h h1;rw[←Pg]at h2;exact h2
 exact⟨b,o,rfl,hb,key 0 (by decide),key 1 (by decide),key 2 (by decide),key 3 (by decide),key 4 (by decide),key 5 (by decide)⟩
end
section
open Go.RowKit
attribute [local go_sem] size_bs toList_bs
theorem FJ(g:Nat)(a b c d:Bs)(ha:a.length<=30000)(hb:b.length<=30000)(hc:c.length<=30000)(hd:d.length<=30000) :
  xH 267 g a b c d (ofI (valI a*valI c)) (ofI (valI b*valI d)):=by
 intro w hE hM;have HE:=qh hE;have HM:=qh hM;have H1:=qh (jM a c (by omega) (by omega));have H3:=qh (jM b d (by omega) (by omega));generalize ofI (valI a*valI c)=z1 at *;generalize ofI (valI b*valI d)=z3 at *;have hq:=dI hM;have HX:Hid (Ext w w):=qh (iD w);clear hE hM ha hb hc hd;go_enter func267,ntmps267;go_wp2_with fail;replace HX:Hid (Ext w w.drew):=qh HX.out.drew
 go_region_held3 (fun w'=>w'.cell? ⟨g,0,none⟩=some tQ)
  (go_keep)
  (first
   |(go_at_call 264;((with_reducible refine(H1.out _ (HE.out.ext HX.out)).mono ?_);rintro e w1⟨rfl,hx⟩);(replace HX:=HX.qt hx);(have q1:=dI (HM.out.ext HX.out));clear hx H1)
   |(go_at_call 264;((with_reducible refine(H3.out _ (HE.out.ext HX.out)).mono ?_);rintro e w3⟨rfl,hx⟩);(replace HX:=HX.qt hx);(have q3:=dI (HM.out.ext HX.out));clear hx H3))
 all_goals
  go_wp2_with fail;go_ret2;exact⟨rfl,HX.out⟩
theorem IM(a b c d:Value)(W:World):(Instr.index 221 (.agg #[a,b,c,d]) (.int .i64 2)).run prog W = .ok c W:=by kernel_rfl
theorem FK(f h:Fr)(h1:f.num.length<=20000)(h2:f.den.length<=20000)(h3:h.num.length<=20000)(h4:h.den.length<=20000) :
  bJ 100 #[fv f,fv h] (fv (bX (ay f*ay h))):=by
 intro w hE;have HE:=qh hE;have hd1:(dn f).length<=30000:=lW f (by omega) (by omega);have hd2:(dn h).length<=30000:=lW h (by omega) (by omega);have hden:(ofI (valI (dn f)*valI (dn h))).length<=90000:=by have:=fZ hd1 hd2;omega
 have hnum:(ofI (valI f.num*valI h.num)).length<=90000:=by have:=fZ h1 h3;omega
 have HA:=qh (fun g=>sC 267 g (fun _ _=>by rfl) f h _ _ (by omega) (by omega) (FJ g f.num (dn f) h.num (dn h) (by omega) hd1 (by omega) hd2) hnum hden (by rw[valI_ofI,eN,eN];exact Int.mul_ne_zero (iJ f) (iJ h)))
 have he:Rat.divInt (valI f.num*valI h.num) (valI (dn f)*valI (dn h))=ay f*ay h:=by
  rw[eN,eN];exact(Rat.divInt_mul_divInt _ _).symm
 simp only[valI_ofI,he]at HA;generalize bX (ay f*ay h)=r at *;obtain⟨n1,e1⟩:=f;obtain⟨n2,e2⟩:=h;clear hE hd1 hd2 hden hnum he h1 h2 h3 h4;have hix:=IM;have hn1:w.heap.size≠w.heap.size+1+1:=by omega
 have hn2:w.heap.size+1+1≠w.heap.size:=by omega
 have hn3:¬ (w.heap.size=w.heap.size+1+1):=by omega
 have HB:=qh (Mf ((w.alloc (.cells #[.string (bs n1),.string (bs e1)] 26)).alloc (.cells #[.string (bs n2),.string (bs e2)] 26)) 26 #[.string ⟨#[]⟩,.string ⟨#[]⟩] (w.heap.size+1+1) (by simp));have HB2:=qh ((Mf (w.alloc (.cells #[.string (bs n1),.string (bs e1)] 26)) 26 #[.string (bs n2),.string (bs e2)] (w.heap.size+1) (by simp)).alloc (.cells #[.string ⟨#[]⟩,.string ⟨#[]⟩] 26));have HB1:=qh (((ID w 26 #[.string (bs n1),.string (bs e1)]).alloc (.cells #[.string (bs n2),.string (bs e2)] 26)).alloc (.cells #[.string ⟨#[]⟩,.string ⟨#[]⟩] 26));have HX:Hid (Ext w (((w.alloc (.cells #[.string (bs n1),.string (bs e1)] 26)).alloc (.cells #[.string (bs n2),.string (bs e2)] 26)).alloc (.cells #[.string ⟨#[]⟩,.string ⟨#[]⟩] 26))):=qh (((Id _ _).alloc _).alloc _);go_enter func100,ntmps100;go_wp2_with fail;generalize ((w.alloc (.cells #[.string (bs n1),.string (bs e1)] 26)).alloc (.cells #[.string (bs n2),.string (bs e2)] 26)).alloc (.cells #[.string ⟨#[]⟩,.string ⟨#[]⟩] 26)=W0 at *;obtain⟨a0,a1,_,_⟩:=aB HB1.out (iD W0);obtain⟨b0,b1,_,_⟩:=aB HB2.out (iD W0);obtain⟨c0,c1,d0,d1⟩:=aB HB.out (iD W0);have HD:Hid (Ext W0 W0.drew):=qh (iD W0).drew
 go_region_held3 (fun w'=>w'.cell? ⟨w.heap.size,0,none⟩=some (.string (bs n1))∧w'.cell? ⟨w.heap.size,1,none⟩=some (.string (bs e1))∧w'.cell? ⟨w.heap.size+1,0,none⟩=some (.string (bs n2))∧w'.cell? ⟨w.heap.size+1,1,none⟩=some (.string (bs e2)))
  (go_keep)
  (first
   |(go_at_call 183;((with_reducible refine(wG _).mono ?_);rintro e w1⟨g,rfl,hx,hm⟩);(replace HD:=HD.qt hx);(have HM:=qh hm);(obtain⟨a2,a3,_,_⟩:=aB HB1.out HD.out);(obtain⟨b2,b3,_,_⟩:=aB HB2.out HD.out);(obtain⟨c2,c3,d2,d3⟩:=aB HB.out HD.out);clear hx hm)
   |(go_at_call 182;((with_reducible refine(HA.out _ _ (HE.out.ext (HX.out.trans HD.out)) HM.out).mono ?_);rintro e w2⟨rfl,hx⟩);(replace HD:=HD.qt hx);(obtain⟨a2,a3,_,_⟩:=aB HB1.out HD.out);(obtain⟨b2,b3,_,_⟩:=aB HB2.out HD.out);(obtain⟨c2,c3,d2,d3⟩:=aB HB.out HD.out);clear hx))
 all_goals
  go_wp2_with fail;refine MI (ef rfl _ _ (w.heap.size+1+1) (.string (bs r.num)) (.string (bs r.den)) rfl (((HB.out.ext HD.out).set_ 0 _).set_ 1 _)) rfl ?_;exact⟨rfl,((HX.out.trans HD.out).setCell (p:=⟨w.heap.size+1+1,0,none⟩) (by show w.heap.size<=w.heap.size+1+1;omega) _).setCell (p:=⟨w.heap.size+1+1,1,none⟩) (by show w.heap.size<=w.heap.size+1+1;omega) _⟩
def pN(p:Fr)(q:Bs):Int:=bB (ay p*((valI q:Int):Rat))
theorem uW{p:Fr}{q:Bs}{L:Nat}(h0:0<L)(h1:p.num.length<=L)(h2:p.den.length<=L)(hq:q.length<=L):QB (L+L) (ay p*((valI q:Int):Rat)):=(pY h1 h2 h0).mul (Ap h0 (aG hq))
theorem Dw{L:Nat}(h0:0<L)(hL:L<=9000)(p:Fr)(q:Bs)(h1:p.num.length<=L)(h2:p.den.length<=L)(hq:q.length<=L):bJ 30 #[fv p,.string (bs q)] (.string (bs (ofI (pN p q)))):=by
 intro w hE;have HE:=qh hE;have qq:=Ap h0 (aG hq);have l1:=qq.num_len;have l2:=qq.den_len;have qv:=uW h0 h1 h2 hq;have l3:=qv.num_len;have l4:=qv.den_len;have m:=FK p (bX ((valI q:Int):Rat)) (by omega) (by omega) (by omega) (by omega);rw[lS]at m;have r:=tT (bX (ay p*((valI q:Int):Rat))) (by omega) (by omega);rw[lS,show bB (ay p*((valI q:Int):Rat))=pN p q from rfl]at r;have O:=qh (yR q (by omega));have M:=qh m;have R:=qh r;generalize ofI (pN p q)=z at *;generalize bX (ay p*((valI q:Int):Rat))=fp at *;generalize bX ((valI q:Int):Rat)=fq at *;obtain⟨n1,e1⟩:=p;clear m r qq l1 l2 l3 l4 qv hE h1 h2 hq h0 hL;have HB:=qh (ID w 26 #[.string (bs n1),.string (bs e1)]);have HX:Hid (Ext w (w.alloc (.cells #[.string (bs n1),.string (bs e1)] 26))):=qh (Id _ _);have HD:Hid (Ext w (w.alloc (.cells #[.string (bs n1),.string (bs e1)] 26)).drew):=qh HX.out.drew;have HBD:=qh HB.out.drew;go_enter func30,ntmps30;go_upto_region 1 with fail;go_cut [5] (fun p5 wx=>p5 = .string (bs z)∧Ext w wx)
 case first =>
  obtain⟨r0,r1,_,_⟩:=aB HB.out (iD _)
  go_region_held3 (fun w'=>w'.cell? ⟨w.heap.size,0,none⟩=some (.string (bs n1))∧w'.cell? ⟨w.heap.size,1,none⟩=some (.string (bs e1)))
   (go_keep)
   (first
    |(go_at_call 101;((with_reducible refine(O.out _ (HE.out.ext HD.out)).mono ?_);rintro e w4⟨rfl,hx⟩);(replace HD:=HD.qt hx);(replace HBD:=qh (HBD.out.ext hx));(obtain⟨y0,y1,_,_⟩:=aB HBD.out (iD _));clear hx O)
    |(go_at_call 100;((with_reducible refine(M.out _ (HE.out.ext HD.out)).mono ?_);rintro e w5⟨rfl,hx⟩);(replace HD:=HD.qt hx);(replace HBD:=qh (HBD.out.ext hx));(obtain⟨z0,z1,_,_⟩:=aB HBD.out (iD _));clear hx M)
    |(go_at_call 99;((with_reducible refine(R.out _ (HE.out.ext HD.out)).mono ?_);rintro e w6⟨rfl,hx⟩);(replace HD:=HD.qt hx);(replace HBD:=qh (HBD.out.ext hx));(obtain⟨x0,x1,_,_⟩:=aB HBD.out (iD _));clear hx R))
  all_goals (go_wp2_with fail;go_meet;exact⟨rfl,HD.out⟩)
 case rest =>
  obtain⟨rfl,hx⟩:=hcut;have HXE:=qh hx;clear hx;go_wp2_with fail;go_ret;exact⟨rfl,HXE.out⟩
theorem wb(x:LotV)(w:World):Calls prog 121 #[lv x] w fun e w'=>e = .returned (.bool (fA x))∧Ext w w':=by
 have HX:Hid (Ext w (w.alloc (.cells (lc x) 62))):=qh (Id _ _);have hb:=ID w 62 (lc x);obtain⟨c0,c1,c2,c3,c4,c5,c6⟩:=ap hb (iD _);have H1:=qh (ix x.q (w.alloc (.cells (lc x) 62)));have H2:=qh (ix x.c (w.alloc (.cells (lc x) 62)));have H3:=qh (ix x.u (w.alloc (.cells (lc x) 62)));rw[show decide (13<(x.q.length:Int))=jy x.q from rfl]at H1;rw[show decide (13<(x.c.length:Int))=jy x.c from rfl]at H2;rw[show decide (13<(x.u.length:Int))=jy x.u from rfl]at H3;clear hb;unfold fA
 cases e1:jy x.q;rotate_left
 ·rw[e1]at H1;clear e1;go_enter func121,ntmps121;go_wp2_with fail;refine(QK H1).mono ?_;rintro e w1⟨h1,h2⟩;subst h1;subst h2;go_wp2_with fail;go_ret;exact⟨rfl,HX.out⟩
 rw[e1]at H1;clear e1
 cases e2:jy x.c;rotate_left
 ·rw[e2]at H2;clear e2;go_enter func121,ntmps121;go_wp2_with fail;refine(QK H1).mono ?_;rintro e w1⟨h1,h2⟩;subst h1;subst h2;go_wp2_with fail;refine(QK H2).mono ?_;rintro e w1⟨h1,h2⟩;subst h1;subst h2;go_wp2_with fail;go_ret;exact⟨rfl,HX.out⟩
 rw[e2]at H2;clear e2
 cases e3:jy x.u;rotate_left
 focus rw[e3]at H3;clear e3
 rotate_left
 focus
  rw[e3]at H3;clear e3
  cases e4:decide (40<(x.id.length:Int));rotate_left
  ·go_enter func121,ntmps121;go_wp2_with fail;refine(QK H1).mono ?_;rintro e w1⟨h1,h2⟩;subst h1;subst h2;go_wp2_with fail;refine(QK H2).mono ?_;rintro e w1⟨h1,h2⟩;subst h1;subst h2;go_wp2_with fail;refine(QK H3).mono ?_;rintro e w1⟨h1,h2⟩;subst h1;subst h2;go_wp2_with fail;go_ret;exact⟨rfl,HX.out⟩
  cases e5:decide (40<(x.ins.length:Int));rotate_left
  ·go_enter func121,ntmps121;go_wp2_with fail;refine(QK H1).mono ?_;rintro e w1⟨h1,h2⟩;subst h1;subst h2;go_wp2_with fail;refine(QK H2).mono ?_;rintro e w1⟨h1,h2⟩;subst h1;subst h2;go_wp2_with fail;refine(QK H3).mono ?_;rintro e w1⟨h1,h2⟩;subst h1;subst h2;go_wp2_with fail;go_ret;exact⟨rfl,HX.out⟩
 all_goals
  go_enter func121,ntmps121;go_wp2_with fail;refine(QK H1).mono ?_;rintro e w1⟨h1,h2⟩;subst h1;subst h2;go_wp2_with fail;refine(QK H2).mono ?_;rintro e w1⟨h1,h2⟩;subst h1;subst h2;go_wp2_with fail;refine(QK H3).mono ?_;rintro e w1⟨h1,h2⟩;subst h1;subst h2;go_wp2_with fail;go_ret;exact⟨rfl,HX.out⟩
theorem Dx(ls:List LotV)(A:Option Addr)(c:Nat)(w:World)(hA:aK w A ls)(_hn:ls.length<=4611686018427387904) :
  Calls prog 50 #[.slice A ls.length c] w fun e w'=>e = .returned (.bool (cI ls))∧Ext w w':=by
 have HA:=qh hA;clear hA;by_cases h:kq ls.length=true
 ·have HG:Hid (cI ls=true):=qh (by unfold cI;rw[h];rfl);unfold kq at h;go_enter func50,ntmps50
  cases a1:decide (12<(ls.length:Int)) <;> cases a2:decide ((ls.length:Int)<999) <;> cases a3:decide (1002<(ls.length:Int)) <;> simp only[a1,a2,a3]at h
  all_goals first
   |(exact absurd h (by decide))
   |(clear h
     go_wp2_with fail;go_ret;exact⟨by rw[HG.out];rfl,iD _⟩)
 ·have HG:Hid (cI ls=ls.any fA):=qh (by unfold cI;rw[Oa]at h;rw[h];rfl);rw[Oa]at h
  have hn:ls.length<=1002:=by
   have h2:=h;simp only[kq,PW,Mi]at h2;omega
  unfold kq at h;go_enter func50,ntmps50
  cases a1:decide (12<(ls.length:Int)) <;> cases a2:decide ((ls.length:Int)<999) <;> cases a3:decide (1002<(ls.length:Int)) <;> simp only[a1,a2,a3]at h
  all_goals first
   |(exact absurd h (by decide))
   |skip
  all_goals
   clear h;go_wp2_with fail;go_loopw [3] (fun i wr=>∃k:Nat,k<=ls.length∧i = .int .i64 k∧(∀x ∈ ls.take k,fA x=false)∧Ext w wr) (fun i _=>ls.length-(intOf i).toNat)
   case atStart=>exact⟨0,by omega,rfl,by simp,iD _⟩
   case round =>
    clear a1 a2 a3;obtain⟨k,hk,rfl,hz,hx⟩:=hrel;have HZ:=qh hz;have HX:=qh hx;clear hz hx;by_cases hlt:k<ls.length
    ·obtain⟨b,o,rfl,hb,c0,c1,c2,c3,c4,c5,c6⟩:=(HA.out.ext HX.out).at_ hlt;have HC:=qh (fun W=>wb (ls[k]'hlt) W)
     cases hg:fA (ls[k]'hlt)
     ·rw[hg]at HC
      have HT:Hid (∀x ∈ ls.take (k+1),fA x=false):=qh (by
       intro x hx;rw[Mo hlt]at hx;rcases MN.1 hx with h|h
       ·exact HZ.out x h
       ·rw[Pd.1 h];exact hg)
      clear hg;generalize (ls[k]'hlt)=x at *;go_wp2_with fail;refine(HC.out _).mono ?_;rintro e w1⟨rfl,hx1⟩;replace HX:=HX.qt hx1;clear hx1;go_wp2_with fail;go_roundw
      case rel=>exact⟨k+1,by omega,by go_num,HT.out,HX.out⟩
      case measure=>simp[intOf];omega
     ·rw[hg]at HC;have HT:Hid (ls.any fA=true):=qh (List.any_eq_true.2 ⟨_,Ml hlt,hg⟩);clear hg;generalize (ls[k]'hlt)=x at *;go_wp2_with fail;refine(HC.out _).mono ?_;rintro e w1⟨rfl,hx1⟩;replace HX:=HX.qt hx1;clear hx1;go_wp2_with fail;go_ret;exact⟨by rw[HG.out,HT.out];rfl,HX.out⟩
    ·have HT:Hid (ls.any fA=false):=qh (by
      have h:=HZ.out;rw[Mv (by omega)]at h;rw[PT];intro x hx;rw[h x hx];simp)
     go_wp2_with fail;go_ret;exact⟨by rw[HG.out,HT.out];rfl,HX.out⟩
end
section
open Go.RowKit
theorem qN:∀(l:List LotV) (seen:List Bs),(∀x ∈ l,checkL x=0)->(l.map (·.id)).Nodup->(∀a ∈ l.map (·.id),a ∉ seen)->goAll seen l=0
 |[],_,_,_,_=>rfl
 |x :: r,seen,h1,h2,h3=>by
  have e1:=h1 x (by simp);have e2:=h3 x.id (by simp);rw[MQ,Oe]at h2;unfold goAll;rw[Mj (by omega),Mj e2];refine qN r _ (fun y hy=>h1 y (Nq _ hy)) h2.2 (fun a ha=>?_);rw[MN,Pd];rintro(h|h)
  ·exact h3 a (by rw[MQ];exact Nq _ ha) h
  ·subst h;exact h2.1 ha
theorem EA(a b:Rat):a<b∨b<=a:=by
 by_cases h:a<b
 ·exact .inl h
 ·exact .inr (Rat.not_lt.1 h)
theorem Au{t p a:Int}(ht:0<=t)(hp:0<=p)(ha:p<=a)(h0:0<a):0<=dt t p a∧dt t p a<=t:=by
 obtain⟨n1,n2⟩:=vN (Rat.divInt (t*p) a);have ha':(0:Rat)<(a:Rat):=by exact_mod_cast h0
 have e:Rat.divInt (t*p) a*(a:Rat)=((t*p:Int):Rat):=by
  rw[Si,Rat.div_mul_cancel (Rat.ne_of_gt ha')]
 have q0:(0:Rat)<=Rat.divInt (t*p) a:=by
  rcases EA (Rat.divInt (t*p) a) 0 with h|h
  ·have h1:Rat.divInt (t*p) a*(a:Rat)<0:=by
    have:=Sa h ha';rwa[Rat.zero_mul]at this
   rw[e]at h1;have h2:(t*p:Int)<0:=by exact_mod_cast h1
   have:=QI ht hp;omega
  ·exact h
 have q1:Rat.divInt (t*p) a<=(t:Rat):=by
  rcases EA (t:Rat) (Rat.divInt (t*p) a) with h|h
  ·have h1:=Sa h ha';rw[e,←Rat.intCast_mul]at h1;have h2:t*a<t*p:=by exact_mod_cast h1
   have:=RR ha ht;omega
  ·exact h
 unfold dt;generalize Rat.divInt (t*p) a=q at *
 have r0:(((-1:Int)):Rat)<((bB q:Int):Rat):=by
  have:(((-1:Int)):Rat) = -1:=by norm_cast
  rw[this];grind
 have r1:((bB q:Int):Rat)<(((t+1:Int)):Rat):=by
  rw[Rat.intCast_add];have:(((1:Int)):Rat)=1:=by norm_cast
  rw[this];grind
 have s0:(-1:Int)<bB q:=by exact_mod_cast r0
 have s1:bB q<t+1:=by exact_mod_cast r1
 omega
theorem uX{x:LotV}{d:Bs}(h:checkL x=0)(hd:checkI d=0)(h0:0<valI d)(h1:valI d<valI x.q):checkL (eF x d)=0∧checkL (cR x d)=0:=by
 obtain⟨o1,o2,o3,o4,o5⟩:=bg h;obtain⟨s1,s2⟩:=Au o4 (Oj h0) (Oj h1) o3
 have key:∀q c u:Bs,checkI q=0->checkI c=0->0<valI q->0<=valI c->(u=[]∨u=q)->checkL { x with q:=q,c:=c,u:=u }=0:=by
  intro q c u k1 k2 k3 k4 k5;unfold checkL at h ⊢
  have ku:checkI u=0:=by
   rcases k5 with rfl|rfl
   ·decide
   ·exact k1
  split at h
  ·simp at h
  ·rename_i g1
   rw[Mj g1];split at h
   ·simp at h
   ·rename_i g2
    rw[Mj g2];split at h
    ·simp at h
    ·rename_i g3
     rw[Mj g3,Mj (by simp only[k1,k2,ku];simp),Mj];simp only;rcases k5 with rfl|rfl <;> simp <;> omega
 refine⟨key d _ _ hd (eS _) h0 (by rw[valI_ofI];exact s1) ?_,key _ _ _ (eS _) (eS _) (by rw[valI_ofI];omega) (by rw[valI_ofI];omega) ?_⟩
 ·split <;> simp
 ·split <;> simp
theorem FL(x:LotV)(d:Bs):valI (eF x d).q+valI (cR x d).q=valI x.q∧valI (eF x d).c+valI (cR x d).c=valI x.c:=by
 constructor
 ·show valI d+valI (ofI _)=_;rw[valI_ofI];omega
 ·show valI (ofI _)+valI (ofI _)=_;rw[valI_ofI,valI_ofI];omega
theorem Dy{x y:LotV}(h:cV ps x=some y):y.id=x.id∧y.ins=x.ins∧y.acq=x.acq∧y.opn=x.opn:=by
 unfold cV at h;split at h
 ·injection h with h;rw[←h];exact⟨rfl,rfl,rfl,rfl⟩
 ·split at h
  ·cases h
  ·injection h with h;rw[←h];exact⟨rfl,rfl,rfl,rfl⟩
theorem FM(ps:List Fr)(ls:List LotV):((ls.filterMap (cV ps)).map (·.id)).Sublist (ls.map (·.id)):=by
 induction ls with
 |nil=>exact List.Sublist.refl _
 |cons x r ih =>
  rw[Ql];split
  ·exact ih.cons _
  ·rename_i y hy
   rw[MQ,MQ,(Dy hy).1];exact ih.cons_cons _
theorem IP{d:Bs}(h:gH ps id=some d):∃p ∈ ps,p.num=id∧p.den=d:=by
 unfold gH at h;obtain⟨p,h1,h2⟩:=Option.map_eq_some_iff.1 h;have h3:=List.find?_some h1;exact⟨p,Q4 h1,by simpa using h3,h2⟩
theorem Av{ls:List LotV}(hv:checkAllL ls=0)(h:PicksOK ls ps):checkAllL (aI ls ps).1=0∧∀x ∈ (aI ls ps).2,checkL x=0:=by
 have hn:=bD hv;obtain⟨hl,hvx⟩:=av hv;rw[ie ps ls hn h]
 have hcut:∀x ∈ ls,∀p ∈ ps,x.id=p.num->x.q≠p.den->checkL (eF x p.den)=0∧checkL (cR x p.den)=0:=by
  intro x hx p hp e hne;obtain⟨y,hy,e1,e2,e3⟩:=h.at_ p hp;have:=pH hn hy hx (e.trans e1.symm);subst this
  exact uX (hvx x hx) (h.den p hp) e2 (uz hvx hx (h.den p hp) e3 hne)
 constructor
 ·unfold checkAllL;rw[Mj (by have:=List.length_filterMap_le (cV ps) ls;simp only;omega)];refine qN _ [] (fun y hy=>?_) ((FM ps ls).nodup hn) (by simp);obtain⟨x,hx,hy⟩:=List.mem_filterMap.1 hy;unfold cV at hy;split at hy
  ·injection hy with hy;rw[←hy];exact hvx x hx
  ·rename_i d hd
   obtain⟨p,hp,e1,e2⟩:=IP hd;split at hy
   ·cases hy
   ·rename_i hq
    injection hy with hy
    rw[←hy,←e2];exact(hcut x hx p hp e1.symm (by rw[e2];exact hq)).2
 ·intro y hy;obtain⟨p,hp,rfl⟩:=MH.1 hy;obtain⟨x,hx,e1,_⟩:=h.at_ p hp;rw[rX hn hx e1];split
  ·exact hvx x hx
  ·rename_i hq;exact(hcut x hx p hp e1 hq).1
structure CallOK (f:FactV):Prop where
 key:isName f.key=true
 ins:isName f.ins=true
 d0 : -25567<=f.day
 d1:f.day<=84005
 lim:bU f.price false false=0
theorem FN{f:FactV}(h:cr f ps os=0)(hk:f.kind=14):CallOK f:=by
 obtain⟨sp,hsp⟩:∃sp:KSp,sp=⟨[99,97,108,108],1,[true,false,false,false,false,false,false,true,false,false,false,false,false],false,some [(7,false,false)]⟩:=⟨_,rfl⟩;have e1:dK f.kind=some sp:=by rw[hk,hsp];rfl
 have e2:sp.bits=[true,false,false,false,false,false,false,true,false,false,false,false,false]:=by rw[hsp]
 have e3:sp.nums=some [(7,false,false)]:=by rw[hsp]
 have hk0:f.kind≠0:=by rw[hk];decide
 obtain⟨h1,_,h2,h3,_,h4⟩:=uA h hk0 e1;have g0:eL f.ins=0:=ii (h4 0 (by decide)) (by rw[e2];rfl);have g7:gz f ps os sp 7=0:=ii (h4 7 (by decide)) (by rw[e2];rfl);have k7:=qJ g7 rfl rfl rfl (by rw[e3];rfl);exact { key:=h1,ins:=wV g0,d0:=h2,d1:=h3,lim:=k7 }
end
section
open Go.RowKit Go.Shelf
attribute [local go_sem] size_bs toList_bs
theorem Dz(n:Int)(hn:n<1∨7<=n)(w:World):Calls prog 76 #[.int .i64 n] w fun e w'=>e = .returned (.tuple #[.agg dR.toArray,.bool false])∧Ext w w':=by
 have B0:=qh (ID w 129 dR.toArray);have HX:Hid (Ext w (w.alloc (.cells dR.toArray 129))):=qh (Id _ _);dsimp only[dR]at B0 HX;have HN:=qh hn;clear hn;go_enter func76,ntmps76;go_wp2_with fail;refine(uF _).mono ?_;rintro e W1⟨rfl,hb1,hx1⟩;generalize (w.alloc (.cells #[.string ⟨#[]⟩,.nilFunc,.bool false] 129)).heap.size+1=G at *;replace B0:=qh ((B0.out.ext hx1).ext (Id W1 (.cells dV.toArray 192)));have B2:=qh (ID W1 192 dV.toArray);have hlt:Hid (w.heap.size<W1.heap.size):=qh (by have:=hx1.size;simp at this;omega);replace HX:=qh ((HX.out.trans hx1).trans (Id W1 (.cells dV.toArray 192)));dsimp only[dV]at B0 B2 HX;clear hb1 hx1;have hth:=kP (xs:=dV) B2.out (n:=(cO G).toArray.size) rfl;have hs2:(prog.info? 192).map (·.size)=some (cO G).toArray.size:=by kernel_rfl
 have hoc:=oB G;go_upto_region 2 with (first|refine Oy rfl 192 _ _ rfl W1.heap.size 0 (cO G).toArray rfl rfl hth hs2 hoc ?_|fail)
 replace B0:=qh (Mg B0.out (g':=W1.heap.size) (by have:=hlt.out;omega) (cO G) 0);replace HX:=qh (ext_sets (cO G) 0 _ () HX.out (PE hlt.out));clear hth hs2 hoc B2;generalize (W1.alloc _).setCells W1.heap.size 0 (cO G)=W3 at *;have O0:=qh (oC (xs:=dR) (ys:=dR) B0.out rfl);have HS:=qh (ext_sets dR 0 W3 () HX.out (Mn _));have hs4:(prog.info? 129).map (·.size)=some dR.toArray.size:=by kernel_rfl
 have hth:=kP (xs:=dR) B0.out (n:=dR.toArray.size) rfl;have hoc:dR.toArray.all (·.oneCell')=true:=by simp[dR,Value.oneCell']
 by_cases h1:n<1
 rotate_left
 focus have h2:7<=n:=by have:=HN.out;omega
 all_goals
  go_wp2_with (first|refine Oy rfl 129 _ _ rfl w.heap.size 0 dR.toArray rfl rfl hth hs4 hoc ?_|fail);refine MI (lO rfl _ _ w.heap.size dR (.bool false) rfl rfl rfl O0.out) rfl ?_;exact⟨rfl,HS.out⟩
end
section
open Go.RowKit
def dX(ls:List LotV)(ins:Bs):List Fr:=(ofL ls ins).map (fun x=>⟨x.id,x.q⟩)
theorem oH{ls:List LotV}(hall:checkAllL ls=0)(hs:∀x ∈ ls,SmallL x):PickIn ls ins (dX ls ins):=by
 have hck:=av hall;have hnd:=bD hall
 have key:∀p ∈ dX ls ins,∃x ∈ ls,x.ins=ins∧x.id=p.num∧x.q=p.den:=fun p hp=>by
  obtain⟨x,hx,rfl⟩:=MH.1 hp;obtain⟨h1,h2⟩:=cj hx;exact⟨x,h1,h2,rfl,rfl⟩
 refine⟨⟨?_,fun p hp=>?_,fun p hp=>?_⟩,fun p hp x hx e=>?_,by simp[dX],fun p hp=>?_⟩
 ·have:=jJ hnd ins;unfold dX;rw[OH];exact this
 ·obtain⟨x,hx,_,e1,e2⟩:=key p hp;have:=(bg (hck.2 x hx)).2.2.1;exact⟨x,hx,e1,by rw[←e2];exact this,by rw[e2];exact Ru _⟩
 ·obtain⟨x,hx,_,e1,e2⟩:=key p hp;rw[←e2];exact(bg (hck.2 x hx)).1
 ·obtain⟨y,hy,h1,e1,_⟩:=key p hp;have:=pH hnd hy hx (e.trans e1.symm);rw[this];exact h1
 ·obtain⟨x,hx,_,_,e2⟩:=key p hp;rw[←e2];have:=(hs x hx).2.2.1;omega
end
section
open Go.RowKit Go.Shelf
attribute [local go_sem] size_bs toList_bs
theorem DA(n:Int)(hn:n<1∨7<=n)(W:World):Calls prog 55 #[.int .i64 n] W fun e w'=>e = .returned (.tuple #[.string ⟨#[]⟩,.int .i64 7])∧Ext W w':=by
 have HF:=qh (Dz n hn W);go_enter func55,ntmps55;go_wp2_with fail;refine HF.out.mono ?_;rintro e w3⟨rfl,hx1⟩;have HX:=qh (hx1.trans (Id w3 (.cells dR.toArray 129)));dsimp only[dR]at *;clear hx1 HF;go_wp2_with fail;refine MI (Rf rfl _ _ _) rfl ?_;exact⟨rfl,HX.out⟩
abbrev zR:Value := .agg #[.slice none 0 0,.slice none 0 0,.slice none 0 0,.slice none 0 0]
theorem DB(A:Option Addr)(n c:Nat)(f:FactV)(P O:Value)(z:Int)(hz:z≠0)(kc kp:Nat)(cb pb:Array Value)(ec:∀args w,(callFunc kc args).run prog w = .ok (.enter kc args) w)
  (w:World) (hC:∀W,Ext w W->Calls prog kc cb W fun e w'=>(∃v,e = .returned (.tuple #[v,.int .i64 z]))∧Ext W w') :
  Calls prog 58 #[.slice A n c,aC f P O,.func (.func kc) #[] cb,.func (.func kp) #[] pb] w fun e w'=>e = .returned (.tuple #[zR,.int .i64 z])∧Ext w w':=by
 have HC:=qh hC;have hz2:(z != 0)=true:=by rw[Nc];exact hz
 clear hC;have HR0:Hid (Blk ((w.alloc (.cells (ag f P O) 30)).alloc (.cells #[.slice none 0 0,.slice none 0 0,.slice none 0 0,.slice none 0 0] 39)) (w.heap.size+1) rT #[.slice none 0 0,.slice none 0 0,.slice none 0 0,.slice none 0 0]):=qh (Mf _ _ _ _ (by simp));have HX0:Hid (Ext w ((w.alloc (.cells (ag f P O) 30)).alloc (.cells #[.slice none 0 0,.slice none 0 0,.slice none 0 0,.slice none 0 0] 39))):=qh ((Id _ _).alloc _);obtain⟨fk,fst,fca,fda,fki,fin,fot,fcu,ftg,fq,fam,ffe,⟨fpn,fpd⟩,⟨frn,frd⟩,⟨fsn,fsd⟩,fch⟩:=f;go_enter func58,ntmps58;go_wp2_with fail;generalize (w.alloc (.cells #[.string (bs fk),.int .i64 fst,.bool fca,.int .i64 fda,.int .i64 fki,.string (bs fin),.string (bs fot),.string (bs fcu),.string (bs ftg),.string (bs fq),.string (bs fam),.string (bs ffe),.string (bs fpn),.string (bs fpd),.string (bs frn),.string (bs frd),.string (bs fsn),.string (bs fsd),P,O,.int .i64 fch] 30)).alloc (.cells #[.slice none 0 0,.slice none 0 0,.slice none 0 0,.slice none 0 0] 39)=w0 at *;refine(HC.out _ HX0.out).mono ?_;rintro e w1⟨⟨v,rfl⟩,hx1⟩;replace HX0:=HX0.qt hx1;replace HR0:=qh (HR0.out.ext hx1);clear hx1 HC;obtain⟨r0,r1,r2,r3⟩:=iq HR0.out (iD _);have f0:=HR0.out.frozen 0;have f1:=HR0.out.frozen 1;have f2:=HR0.out.frozen 2;have f3:=HR0.out.frozen 3;go_wp2_with fail;have hB4:=lI (a := .slice none 0 0) (b := .slice none 0 0) (c := .slice none 0 0) (d := .slice none 0 0) HR0.out;refine MI (du rfl _ _ (w.heap.size+1) _ _ _ _ _ rfl rfl hB4) rfl ?_;exact⟨rfl,mH HX0.out (by omega)⟩
theorem Aw(ls:List LotV)(A:Option Addr)(c:Nat)(f:FactV)(ps:List Fr)(os:List OptV)(pa oa:Option Addr)(pc oq n:Nat)(w:World)(hE:Env w)(hA:aK w A ls)(hF:FactAt w f ps os pa oa pc)(hi:SelIn ls f ps os)(h1:1<=n)(h6:n<=6)(hq:totQ ls f.ins<valI f.qty) :
  Calls prog 13 #[.slice A ls.length c,aC f (ae pa ps.length pc) (ae oa os.length oq),.int .i64 n] w fun e w'=>e = .returned (.tuple #[zR,.int .i64 15])∧Ext w w':=by
 have l:=hi.ls n;refine(xe ls A c f ps os pa oa pc oq n w hE hA hF hi h1 h6 (fun a b c z w'=>a = .slice none 0 0∧b = .slice none 0 0∧c = .slice none 0 0∧z=15∧Ext w w') (fun a b c d z X W hX hr hb=>⟨hr.1,hr.2.1,hr.2.2.1,hr.2.2.2.1,mH hr.2.2.2.2 hX⟩) ?_).mono ?_
 ·intro X A' c' W h;have hlen:(bE ls f.ins n).length=ls.length:=i8 ls f.ins n;refine(DB A' ls.length c' f (ae pa ps.length pc) (ae oa os.length oq) 15 (by decide) 57 59 #[.pointer (some ⟨X,0,none⟩),.pointer (some ⟨X+1,0,none⟩),.pointer (some ⟨X+2,0,none⟩)] #[.pointer (some ⟨X+1,0,none⟩)] (fun _ _=>by rfl) W ?_).mono ?_
  ·intro W' hx;have h':=h.on hx;have hc:=(sV (bE ls f.ins n) f.ins f.qty n ps (hi.chs h1 h6) A' pa c' pc W' (hE.ext h'.ext) h'.rd (hF.rp.ext h'.ext)).2 (by rw[l.q];exact hq)
   have hc2:=Ez A' (bE ls f.ins n).length c' f (ae pa ps.length pc) (ae oa os.length oq) n ⟨_,_,_,rfl⟩ 15 (fun v w'=>Ext W' w') X W' h'.b0 h'.b1 h'.b2 (hc.mono (by
    rintro e w'⟨rfl,hx1⟩;exact⟨_,rfl,hx1⟩))
   refine hc2.mono ?_;rintro e w'⟨v,rfl,hx1⟩;exact⟨⟨v,rfl⟩,hx1⟩
  ·rintro e w'⟨rfl,hx⟩;exact⟨⟨none,0,0,none,0,0,none,0,0,15,rfl,rfl,rfl,rfl,rfl,h.ext.trans hx⟩,hx⟩
 ·rintro e w'⟨A1,n1,c1,B1,m1,d1,C1,k1,l1,z,rfl,e1,e2,e3,rfl,hx⟩;rw[e1,e2,e3];exact⟨rfl,hx⟩
def dY(ls:List LotV)(f:FactV)(ps:List Fr)(os:List OptV)(k:Int):Int:=if checkAllL ls≠0∨cr f ps os≠0 then 1 else if f.kind≠k then 7 else 0
theorem sZ(ls:List LotV)(A:Option Addr)(c:Nat)(f:FactV)(ps:List Fr)(os:List OptV)(pa oa:Option Addr)(pc oq:Nat)(k:Int)(w:World)(hE:Env w)(hA:aK w A ls)(hF:FactAt w f ps os pa oa pc)(hwf:(Lit.int .i64 f.kind).wf=true)(hsm:∀x ∈ ls,SmallL x)(hn:ls.length<=100000) :
  Calls prog 54 #[.slice A ls.length c,aC f (ae pa ps.length pc) (ae oa os.length oq),.int .i64 k] w fun e w'=>e = .returned (.int .i64 (dY ls f ps os k))∧Ext w w':=by
 have CA:=qh (fun W (hx:Ext w W)=>dD ls A c W (hE.ext hx) (hA.ext hx) hsm hn);have CF:=qh (fun W (hx:Ext w W)=>xd f ps os pa oa pc oq W (hF.ext hx) hwf (hE.ext hx));have HV:Hid (dY ls f ps os k=if checkAllL ls≠0∨cr f ps os≠0 then 1 else if f.kind≠k then 7 else 0):=qh rfl;have HF:=qh (ID w 30 (ag f (ae pa ps.length pc) (ae oa os.length oq)));have HX:Hid (Ext w (w.alloc (.cells (ag f (ae pa ps.length pc) (ae oa os.length oq)) 30))):=qh (Id _ _);have hs1:(prog.info? 30).map (·.size)=some (ag f (ae pa ps.length pc) (ae oa os.length oq)).toList.length:=by kernel_rfl
 clear hA hF hE hsm;generalize dY ls f ps os k=r at *;generalize checkAllL ls=e1 at *;generalize cr f ps os=e2 at *;go_enter func54,ntmps54;go_wp2_with fail;refine(CA.out _ HX.out).mono ?_;rintro e w1⟨rfl,hx1⟩;replace HX:=HX.qt hx1;replace HF:=qh (HF.out.ext hx1);clear hx1 CA;by_cases h1:e1=0;rotate_left
 ·have hv:=HV.out;rw[Mq (.inl h1)]at hv;have g1:(e1 != 0)=true:=by rw[Nc];exact h1
  subst hv;clear HV h1 CF;go_wp2_with fail;go_ret;exact⟨rfl,HX.out⟩
 subst h1;have hrg:=aL HF.out;go_wp2_with (first|refine bS (by kernel_rfl) 30 _ rfl w.heap.size 0 rfl _ _ hrg M3 rfl hs1 ?_|fail);refine(CF.out _ HX.out).mono ?_;rintro e w2⟨rfl,hx1⟩;replace HX:=HX.qt hx1;replace HF:=qh (HF.out.ext hx1);clear hx1 hrg CF;by_cases h2:e2=0;rotate_left
 ·have hv:=HV.out;rw[Mq (.inr h2)]at hv;have g1:(e2 != 0)=true:=by rw[Nc];exact h2
  subst hv;clear HV h2;go_wp2_with fail;go_ret;exact⟨rfl,HX.out⟩
 subst h2;have x4:=HF.out.cell 4;simp only[Mk,Mm,Ms]at x4;have hv:=HV.out;rw[Mj (by simp)]at hv;clear HV;by_cases h3:f.kind=k
 focus rw[Mj (by simpa using h3)]at hv;have g1:(f.kind != k)=false:=by rw[OV];exact h3
 rotate_left
 focus rw[Mq h3]at hv;have g1:(f.kind != k)=true:=by rw[Nc];exact h3
 all_goals
  subst hv;clear h3;go_wp2_with fail;go_ret;exact⟨rfl,HX.out⟩
def gP(ls:List LotV)(f:FactV)(ps:List Fr)(os:List OptV)(m:Int):Int:=if dY ls f ps os 4≠0 then dY ls f ps os 4 else if m<1∨7<=m then 7 else if totQ ls f.ins<valI f.qty then 15 else 0
theorem xg(ls:List LotV)(A:Option Addr)(c:Nat)(f:FactV)(ps:List Fr)(os:List OptV)(pa oa:Option Addr)(pc oq:Nat)(m:Int)(w:World)(hE:Env w)(hA:aK w A ls)(hF:FactAt w f ps os pa oa pc)(hwf:(Lit.int .i64 f.kind).wf=true)(hs:∀x ∈ ls,SmallL x)(hn:ls.length<=100000)(z:Int)(hz:dY ls f ps os 4≠0∧z=dY ls f ps os 4∨(dY ls f ps os 4=0∧(m<1∨7<=m)∧z=7)) :
  Calls prog 13 #[.slice A ls.length c,aC f (ae pa ps.length pc) (ae oa os.length oq),.int .i64 m] w fun e w'=>e = .returned (.tuple #[zR,.int .i64 z])∧Ext w w':=by
 have CK:=qh (fun W (hx:Ext w W)=>sZ ls A c f ps os pa oa pc oq 4 W (hE.ext hx) (hA.ext hx) (hF.ext hx) hwf hs hn);have HZ:=qh hz;have hs1:(prog.info? 30).map (·.size)=some (ag f (ae pa ps.length pc) (ae oa os.length oq)).toList.length:=by kernel_rfl
 have B0:=qh ((((ID w 22 #[.slice A ls.length c]).alloc (.cells (ag f (ae pa ps.length pc) (ae oa os.length oq)) 30)).alloc (.cells #[.int .i64 m] 3)).alloc (.cells #[.slice none 0 0,.slice none 0 0,.slice none 0 0,.slice none 0 0] rT));have B1:=qh (((Mf (w.alloc (.cells #[.slice A ls.length c] 22)) 30 (ag f (ae pa ps.length pc) (ae oa os.length oq)) (w.heap.size+1) (by simp)).alloc (.cells #[.int .i64 m] 3)).alloc (.cells #[.slice none 0 0,.slice none 0 0,.slice none 0 0,.slice none 0 0] rT));have B2:=qh ((Mf ((w.alloc (.cells #[.slice A ls.length c] 22)).alloc (.cells (ag f (ae pa ps.length pc) (ae oa os.length oq)) 30)) 3 #[.int .i64 m] (w.heap.size+2) (by simp)).alloc (.cells #[.slice none 0 0,.slice none 0 0,.slice none 0 0,.slice none 0 0] rT));have B3:=qh (Mf (((w.alloc (.cells #[.slice A ls.length c] 22)).alloc (.cells (ag f (ae pa ps.length pc) (ae oa os.length oq)) 30)).alloc (.cells #[.int .i64 m] 3)) rT #[.slice none 0 0,.slice none 0 0,.slice none 0 0,.slice none 0 0] (w.heap.size+3) (by simp));have HX:Hid (Ext w ((((w.alloc (.cells #[.slice A ls.length c] 22)).alloc (.cells (ag f (ae pa ps.length pc) (ae oa os.length oq)) 30)).alloc (.cells #[.int .i64 m] 3)).alloc (.cells #[.slice none 0 0,.slice none 0 0,.slice none 0 0,.slice none 0 0] rT))):=qh ((((Id _ _).alloc _).alloc _).alloc _);clear hE hA hF hs hwf hz;generalize dY ls f ps os 4=r at *;go_enter func13,ntmps13;go_upto_region 1 with fail;generalize ((((w.alloc (.cells #[.slice A ls.length c] 22)).alloc (.cells (ag f (ae pa ps.length pc) (ae oa os.length oq)) 30)).alloc (.cells #[.int .i64 m] 3)).alloc (.cells #[.slice none 0 0,.slice none 0 0,.slice none 0 0,.slice none 0 0] rT))=w0 at *;obtain⟨X,hX⟩:∃X,w.heap.size=X:=⟨_,rfl⟩;rw[hX]at B0 B1 B2 B3 ⊢;have q0:=boxCell B0.out;have hrg:=aL B1.out;go_wp2_with (first|refine bS (by kernel_rfl) 30 _ rfl (X+1) 0 rfl _ _ hrg M3 rfl hs1 ?_|fail);refine(CK.out _ HX.out).mono ?_;rintro e w1⟨rfl,hx1⟩;replace B0:=qh (B0.out.ext hx1);replace B1:=qh (B1.out.ext hx1);replace B2:=qh (B2.out.ext hx1);replace B3:=qh (B3.out.ext hx1);replace HX:=HX.qt hx1;clear hx1 CK q0 hrg;by_cases h1:r=0;rotate_left
 focus
  have hz:z=r:=by
   rcases HZ.out with h|h
   ·exact h.2
   ·exact absurd h.1 h1
  subst hz;have g1:(z != 0)=true:=by rw[Nc];exact h1
  clear HZ h1
 rotate_left
 focus
  have hz:(m<1∨7<=m)∧z=7:=by
   rcases HZ.out with h|h
   ·exact absurd h1 h.1
   ·exact h.2
  obtain⟨hm,rfl⟩:=hz;have CN:=qh (fun W=>DA m hm W);subst h1;clear HZ hm;have q2:=boxCell B2.out;go_wp2_with fail;refine(CN.out _).mono ?_;rintro e w2⟨rfl,hx1⟩;replace B0:=qh (B0.out.ext hx1);replace B1:=qh (B1.out.ext hx1);replace B2:=qh (B2.out.ext hx1);replace B3:=qh (B3.out.ext hx1);replace HX:=HX.qt hx1;clear hx1 CN q2
 all_goals
  obtain⟨r0,r1,r2,r3⟩:=iq B3.out (iD _);have f0:=B3.out.frozen 0;have f1:=B3.out.frozen 1;have f2:=B3.out.frozen 2;have f3:=B3.out.frozen 3;go_wp2_with fail;have hB4:=lI (a := .slice none 0 0) (b := .slice none 0 0) (c := .slice none 0 0) (d := .slice none 0 0) B3.out;refine MI (du rfl _ _ (X+1+1+1) _ _ _ _ _ rfl rfl hB4) rfl ?_;exact⟨rfl,mH HX.out (by omega)⟩
def bQ(f:Fr):Bool:=decide (13<f.num.length) || decide (13<f.den.length)
theorem js{f:Fr}(h:bQ f=false):f.num.length<=13∧f.den.length<=13:=by
 unfold bQ at h;simp at h;omega
theorem FO{f:Fr}(h:13<f.num.length):bQ f=true:=by unfold bQ;simp[h]
theorem FP{f:Fr}(h:13<f.den.length):bQ f=true:=by unfold bQ;simp[h]
def ct(a:Bs):Bool:=decide (13<(a.length:Int))
theorem bW(a:Bs):jw 110 #[.string (bs a)] (.bool (ct a)):=by
 intro w;go_enter func110,ntmps110;go_wp2_with fail;go_ret;exact⟨rfl,iD _⟩
end
section
open Go.ChangeShapes Go.WideShapes Go.ChangeAt Go.RowKit Go.Deep Go.Joins
section
variable {P:Program} {w:World} {base:Nat} {spare:Nat->Bool} {held:Bool} {H:Type} {enc:TypeId × Value->H}
theorem DE{t t0 t1 t2 t3 t4 t5 t6:TypeId}{n:Nat}{y:DataW H × List MemPlace}{f0 f1 f2 f3 f4 f5 f6:Field}(hs:P.underlying t=some (.struct #[f0,f1,f2,f3,f4,f5,f6]))(hone:oneCellFields P #[f0,f1,f2,f3,f4,f5,f6]=true)(hC:P.cellsOf t=7)
  (h0:f0.type=t0) (h1:f1.type=t1) (h2:f2.type=t2) (h3:f3.type=t3) (h4:f4.type=t4) (h5:f5.type=t5) (h6:f6.type=t6)
  (u0:P.underlying t0=some .string) (u1:P.underlying t1=some .string) (u2:P.underlying t2=some (.int .i64)) (u3:P.underlying t3=some (.int .i64)) (u4:P.underlying t4=some .string) (u5:P.underlying t5=some .string) (u6:P.underlying t6=some .string) (h:DataW.trod enc P w base spare held n t cs=some y) :
  ∃a:LotV,cs=lotCells a:=by
 obtain⟨xs,n,_,_,hlen,hl,hg⟩:=PF hs h;rw[hC]at hlen;obtain⟨o0,k0⟩:=hone_of hone 0 f0 rfl;obtain⟨o1,k1⟩:=hone_of hone 1 f1 rfl;obtain⟨o2,k2⟩:=hone_of hone 2 f2 rfl;obtain⟨o3,k3⟩:=hone_of hone 3 f3 rfl;obtain⟨o4,k4⟩:=hone_of hone 4 f4 rfl;obtain⟨o5,k5⟩:=hone_of hone 5 f5 rfl;obtain⟨o6,k6⟩:=hone_of hone 6 f6 rfl;match cs,hlen,xs,hl with
 |[c0,c1,c2,c3,c4,c5,c6],_,[y0,y1,y2,y3,y4,y5,y6],_ =>
  have g0:=hg 0 f0 rfl;rw[o0,k0,h0]at g0;have g1:=hg 1 f1 rfl;rw[o1,k1,h1]at g1;have g2:=hg 2 f2 rfl;rw[o2,k2,h2]at g2;have g3:=hg 3 f3 rfl;rw[o3,k3,h3]at g3;have g4:=hg 4 f4 rfl;rw[o4,k4,h4]at g4;have g5:=hg 5 f5 rfl;rw[o5,k5,h5]at g5;have g6:=hg 6 f6 rfl;rw[o6,k6,h6]at g6;obtain⟨s0,e0,_⟩:=MX u0 (x:=y0) (by simpa using g0);obtain⟨s1,e1,_⟩:=MX u1 (x:=y1) (by simpa using g1);obtain⟨s2,e2,_⟩:=Pm u2 (x:=y2) (by simpa using g2);obtain⟨s3,e3,_⟩:=Pm u3 (x:=y3) (by simpa using g3);obtain⟨s4,e4,_⟩:=MX u4 (x:=y4) (by simpa using g4);obtain⟨s5,e5,_⟩:=MX u5 (x:=y5) (by simpa using g5);obtain⟨s6,e6,_⟩:=MX u6 (x:=y6) (by simpa using g6);simp at e0 e1 e2 e3 e4 e5 e6;subst e0;subst e1;subst e2;subst e3;subst e4;subst e5;subst e6;exact⟨⟨L s0,L s1,s2,s3,L s4,L s5,L s6⟩,by simp[lotCells,bs_L]⟩
end
theorem open_lots{H:Type}{enc:TypeId × Value->H}{r:Reach}{base:Nat}{spare:Nat->Bool}{held:Bool}{v:Value}{d:DataW H}{p:List MemPlace}(hv:Value.okWide prog W r b0 22 v)(h:DataW.Trod enc prog W base spare held 22 v d p)
  (hw:(d.weights prog 22).all (·<=reachBytes)=true) :
  ∃(ls:List LotV) (A:Option Addr) (c:Nat),v = .slice A ls.length c∧aK W A ls∧ls.length<=c∧ls.length<=4611686018427387904:=by
 obtain⟨a,n,c,rfl⟩:=okWide_slice NS hv;obtain⟨fuel,hf⟩:=h;obtain⟨A,c',ls,e,hr,hlc,hx⟩:=ln (α:=LotV) lotCells 7 (by decide) aM NS (by kernel_rfl) (fun n cs y hy=>DE underlying62 (by kernel_rfl) (by kernel_rfl) rfl rfl rfl rfl rfl rfl rfl Nd Nd PG PG NG NG NG hy) hf;simp only[Value.cells,OX,Qx]at e;rw[e];exact⟨ls,A,c',rfl,hr,hlc,ke NS (by rw[show prog.bytesOf 62=96 by kernel_rfl];decide) hw hx⟩
end
section
open Go.RowKit Go.Shelf
attribute [local go_sem] size_bs toList_bs
theorem Ax(g:GainV):valI (dj g)=max (valI g.c-valI g.p) 0:=by
 unfold dj;split
 ·rw[show valI ([]:Bs)=0 by decide];omega
 ·rw[valI_ofI];omega
end
section
open Go.RowKit
attribute [local go_sem] size_bs toList_bs
theorem Ay(r:Fr)(g:Nat)(w:World)(hA:Blk w g 26 #[.string (bs r.num),.string (bs r.den)]) :
  Calls prog 197 #[.slice (some ⟨g,0,none⟩) 1 1] w fun e w'=>e = .returned (.bool (bQ r))∧Ext w w':=by
 have HA:=qh hA;clear hA;have HX:Hid (Ext w w):=qh (iD _);obtain⟨a0,a1,_,_⟩:=aB HA.out (iD _);by_cases h1:13<r.num.length
 focus
  have g1:decide ((13:Int)<(r.num.length:Int))=true:=by rw[MA];omega
  rw[FO h1];clear h1;go_enter func197,ntmps197;go_wp2_with fail;refine N4 1 ?_
 rotate_left
 focus
  have g1:decide ((13:Int)<(r.num.length:Int))=false:=by rw[Mi];omega
  by_cases h2:13<r.den.length
  ·have g2:decide ((13:Int)<(r.den.length:Int))=true:=by rw[MA];omega
   rw[FP h2];clear h1 h2;go_enter func197,ntmps197;go_wp2_with fail;refine N4 1 ?_;rw[NN];go_wp2_with fail
   all_goals
    go_ret;exact⟨rfl,HX.out⟩
  have g2:decide ((13:Int)<(r.den.length:Int))=false:=by rw[Mi];omega
  have e:bQ r=false:=by unfold bQ;simp;omega
  rw[e];clear h1 h2 e;go_enter func197,ntmps197;go_wp2_with fail;refine N4 2 ?_;rw[NN];go_wp2_with fail
 all_goals
  rw[NN];go_wp2_with fail
  all_goals
   go_ret;exact⟨rfl,HX.out⟩
theorem dp(r:Fr)(w:World):Calls prog 122 #[fv r] w fun e w'=>e = .returned (.bool (bQ r))∧Ext w w':=by
 obtain⟨n,d⟩:=r;have HB:=qh (ID w 26 #[.string (bs n),.string (bs d)]);have HX:Hid (Ext w (w.alloc (.cells #[.string (bs n),.string (bs d)] 26))):=qh (Id _ _);obtain⟨a0,a1,_,_⟩:=aB HB.out (iD _);have HL:=qh (Ay ⟨n,d⟩ (w.heap.size+1) ((w.alloc (.cells #[.string (bs n),.string (bs d)] 26)).alloc (.cells #[.string (bs n),.string (bs d)] 26)) (Mf _ _ _ _ (by simp)));replace HX:=qh (HX.out.alloc (.cells #[.string (bs n),.string (bs d)] 26));go_enter func122,ntmps122;go_wp2_with fail;refine HL.out.mono ?_;rintro e v1⟨rfl,hx1⟩;replace HX:=HX.qt hx1;clear hx1;go_wp2_with fail;go_ret;exact⟨rfl,HX.out⟩
section
variable (f:FactV) (P O:Value) (w:World)
theorem KY(h0:24<f.key.length):Calls prog 51 #[aC f P O] w fun e w'=>e = .returned (.bool true)∧Ext w w':=by
 have g0:decide ((24:Int)<(f.key.length:Int))=true:=by rw[MA];omega
 clear h0;have HB:=qh (ID w 30 (ag f P O));have HX:Hid (Ext w (w.alloc (.cells (ag f P O) 30))):=qh (Id _ _);go_enter Pv,Pe;obtain⟨x0,-,-,-,-,x5,x6,x7,x8,x9,x10,x11,x12,x13,x14,x15,x16,x17,x18,x19,-⟩:=aj HB.out (iD _);go_wp2_with fail;go_ret;exact⟨rfl,HX.out⟩
theorem KZ(h0:¬ 24<f.key.length)(h1:24<f.ins.length):Calls prog 51 #[aC f P O] w fun e w'=>e = .returned (.bool true)∧Ext w w':=by
 have g0:decide ((24:Int)<(f.key.length:Int))=false:=by rw[Mi];omega
 have g1:decide ((24:Int)<(f.ins.length:Int))=true:=by rw[MA];omega
 clear h0 h1;have HB:=qh (ID w 30 (ag f P O));have HX:Hid (Ext w (w.alloc (.cells (ag f P O) 30))):=qh (Id _ _);go_enter Pv,Pe;obtain⟨x0,-,-,-,-,x5,x6,x7,x8,x9,x10,x11,x12,x13,x14,x15,x16,x17,x18,x19,-⟩:=aj HB.out (iD _);go_wp2_with fail;go_ret;exact⟨rfl,HX.out⟩
theorem K0(h0:¬ 24<f.key.length)(h1:¬ 24<f.ins.length)(h2:24<f.other.length):Calls prog 51 #[aC f P O] w fun e w'=>e = .returned (.bool true)∧Ext w w':=by
 have g0:decide ((24:Int)<(f.key.length:Int))=false:=by rw[Mi];omega
 have g1:decide ((24:Int)<(f.ins.length:Int))=false:=by rw[Mi];omega
 have g2:decide ((24:Int)<(f.other.length:Int))=true:=by rw[MA];omega
 clear h0 h1 h2;have HB:=qh (ID w 30 (ag f P O));have HX:Hid (Ext w (w.alloc (.cells (ag f P O) 30))):=qh (Id _ _);go_enter Pv,Pe;obtain⟨x0,-,-,-,-,x5,x6,x7,x8,x9,x10,x11,x12,x13,x14,x15,x16,x17,x18,x19,-⟩:=aj HB.out (iD _);go_wp2_with fail;go_ret;exact⟨rfl,HX.out⟩
theorem K5(h0:¬ 24<f.key.length)(h1:¬ 24<f.ins.length)(h2:¬ 24<f.other.length)(h3:24<f.cur.length):Calls prog 51 #[aC f P O] w fun e w'=>e = .returned (.bool true)∧Ext w w':=by
 have g0:decide ((24:Int)<(f.key.length:Int))=false:=by rw[Mi];omega
 have g1:decide ((24:Int)<(f.ins.length:Int))=false:=by rw[Mi];omega
 have g2:decide ((24:Int)<(f.other.length:Int))=false:=by rw[Mi];omega
 have g3:decide ((24:Int)<(f.cur.length:Int))=true:=by rw[MA];omega
 clear h0 h1 h2 h3;have HB:=qh (ID w 30 (ag f P O));have HX:Hid (Ext w (w.alloc (.cells (ag f P O) 30))):=qh (Id _ _);go_enter Pv,Pe;obtain⟨x0,-,-,-,-,x5,x6,x7,x8,x9,x10,x11,x12,x13,x14,x15,x16,x17,x18,x19,-⟩:=aj HB.out (iD _);go_wp2_with fail;go_ret;exact⟨rfl,HX.out⟩
theorem K6(h0:¬ 24<f.key.length)(h1:¬ 24<f.ins.length)(h2:¬ 24<f.other.length)(h3:¬ 24<f.cur.length)(h4:24<f.tgt.length):Calls prog 51 #[aC f P O] w fun e w'=>e = .returned (.bool true)∧Ext w w':=by
 have g0:decide ((24:Int)<(f.key.length:Int))=false:=by rw[Mi];omega
 have g1:decide ((24:Int)<(f.ins.length:Int))=false:=by rw[Mi];omega
 have g2:decide ((24:Int)<(f.other.length:Int))=false:=by rw[Mi];omega
 have g3:decide ((24:Int)<(f.cur.length:Int))=false:=by rw[Mi];omega
 have g4:decide ((24:Int)<(f.tgt.length:Int))=true:=by rw[MA];omega
 clear h0 h1 h2 h3 h4;have HB:=qh (ID w 30 (ag f P O));have HX:Hid (Ext w (w.alloc (.cells (ag f P O) 30))):=qh (Id _ _);go_enter Pv,Pe;obtain⟨x0,-,-,-,-,x5,x6,x7,x8,x9,x10,x11,x12,x13,x14,x15,x16,x17,x18,x19,-⟩:=aj HB.out (iD _);go_wp2_with fail;go_ret;exact⟨rfl,HX.out⟩
theorem K7(h0:¬ 24<f.key.length)(h1:¬ 24<f.ins.length)(h2:¬ 24<f.other.length)(h3:¬ 24<f.cur.length)(h4:¬ 24<f.tgt.length)(h5:ct f.qty=true):Calls prog 51 #[aC f P O] w fun e w'=>e = .returned (.bool true)∧Ext w w':=by
 have g0:decide ((24:Int)<(f.key.length:Int))=false:=by rw[Mi];omega
 have g1:decide ((24:Int)<(f.ins.length:Int))=false:=by rw[Mi];omega
 have g2:decide ((24:Int)<(f.other.length:Int))=false:=by rw[Mi];omega
 have g3:decide ((24:Int)<(f.cur.length:Int))=false:=by rw[Mi];omega
 have g4:decide ((24:Int)<(f.tgt.length:Int))=false:=by rw[Mi];omega
 have c5:=bW f.qty;rw[h5]at c5;have C5:=qh c5;clear h0 h1 h2 h3 h4 h5 c5;have HB:=qh (ID w 30 (ag f P O));have HX:Hid (Ext w (w.alloc (.cells (ag f P O) 30))):=qh (Id _ _);go_enter Pv,Pe;obtain⟨x0,-,-,-,-,x5,x6,x7,x8,x9,x10,x11,x12,x13,x14,x15,x16,x17,x18,x19,-⟩:=aj HB.out (iD _);go_wp2_with fail;refine(C5.out _).mono ?_;rintro e v5⟨rfl,hx1⟩;replace HX:=HX.qt hx1;replace HB:=qh (HB.out.ext hx1);clear x0 x5 x6 x7 x8 x9 x10 x11 x12 x13 x14 x15 x16 x17 x18 x19;clear hx1 C5;obtain⟨x0,-,-,-,-,x5,x6,x7,x8,x9,x10,x11,x12,x13,x14,x15,x16,x17,x18,x19,-⟩:=aj HB.out (iD _);go_wp2_with fail;go_ret;exact⟨rfl,HX.out⟩
theorem K8(h0:¬ 24<f.key.length)(h1:¬ 24<f.ins.length)(h2:¬ 24<f.other.length)(h3:¬ 24<f.cur.length)(h4:¬ 24<f.tgt.length)(h5:ct f.qty=false)(h6:ct f.amt=true):Calls prog 51 #[aC f P O] w fun e w'=>e = .returned (.bool true)∧Ext w w':=by
 have g0:decide ((24:Int)<(f.key.length:Int))=false:=by rw[Mi];omega
 have g1:decide ((24:Int)<(f.ins.length:Int))=false:=by rw[Mi];omega
 have g2:decide ((24:Int)<(f.other.length:Int))=false:=by rw[Mi];omega
 have g3:decide ((24:Int)<(f.cur.length:Int))=false:=by rw[Mi];omega
 have g4:decide ((24:Int)<(f.tgt.length:Int))=false:=by rw[Mi];omega
 have c5:=bW f.qty;rw[h5]at c5;have C5:=qh c5;have c6:=bW f.amt;rw[h6]at c6;have C6:=qh c6;clear h0 h1 h2 h3 h4 h5 h6 c5 c6;have HB:=qh (ID w 30 (ag f P O));have HX:Hid (Ext w (w.alloc (.cells (ag f P O) 30))):=qh (Id _ _);go_enter Pv,Pe;obtain⟨x0,-,-,-,-,x5,x6,x7,x8,x9,x10,x11,x12,x13,x14,x15,x16,x17,x18,x19,-⟩:=aj HB.out (iD _);go_wp2_with fail;refine(C5.out _).mono ?_;rintro e v5⟨rfl,hx1⟩;replace HX:=HX.qt hx1;replace HB:=qh (HB.out.ext hx1);clear x0 x5 x6 x7 x8 x9 x10 x11 x12 x13 x14 x15 x16 x17 x18 x19;clear hx1 C5;obtain⟨x0,-,-,-,-,x5,x6,x7,x8,x9,x10,x11,x12,x13,x14,x15,x16,x17,x18,x19,-⟩:=aj HB.out (iD _);go_wp2_with fail;refine(C6.out _).mono ?_;rintro e v6⟨rfl,hx1⟩;replace HX:=HX.qt hx1;replace HB:=qh (HB.out.ext hx1);clear x0 x5 x6 x7 x8 x9 x10 x11 x12 x13 x14 x15 x16 x17 x18 x19;clear hx1 C6;obtain⟨x0,-,-,-,-,x5,x6,x7,x8,x9,x10,x11,x12,x13,x14,x15,x16,x17,x18,x19,-⟩:=aj HB.out (iD _);go_wp2_with fail;go_ret;exact⟨rfl,HX.out⟩
theorem K9(h0:¬ 24<f.key.length)(h1:¬ 24<f.ins.length)(h2:¬ 24<f.other.length)(h3:¬ 24<f.cur.length)(h4:¬ 24<f.tgt.length)(h5:ct f.qty=false)(h6:ct f.amt=false)(h7:ct f.fee=true):Calls prog 51 #[aC f P O] w fun e w'=>e = .returned (.bool true)∧Ext w w':=by
 have g0:decide ((24:Int)<(f.key.length:Int))=false:=by rw[Mi];omega
 have g1:decide ((24:Int)<(f.ins.length:Int))=false:=by rw[Mi];omega
 have g2:decide ((24:Int)<(f.other.length:Int))=false:=by rw[Mi];omega
 have g3:decide ((24:Int)<(f.cur.length:Int))=false:=by rw[Mi];omega
 have g4:decide ((24:Int)<(f.tgt.length:Int))=false:=by rw[Mi];omega
 have c5:=bW f.qty;rw[h5]at c5;have C5:=qh c5;have c6:=bW f.amt;rw[h6]at c6;have C6:=qh c6;have c7:=bW f.fee;rw[h7]at c7;have C7:=qh c7;clear h0 h1 h2 h3 h4 h5 h6 h7 c5 c6 c7;have HB:=qh (ID w 30 (ag f P O));have HX:Hid (Ext w (w.alloc (.cells (ag f P O) 30))):=qh (Id _ _);go_enter Pv,Pe;obtain⟨x0,-,-,-,-,x5,x6,x7,x8,x9,x10,x11,x12,x13,x14,x15,x16,x17,x18,x19,-⟩:=aj HB.out (iD _);go_wp2_with fail;refine(C5.out _).mono ?_;rintro e v5⟨rfl,hx1⟩;replace HX:=HX.qt hx1;replace HB:=qh (HB.out.ext hx1);clear x0 x5 x6 x7 x8 x9 x10 x11 x12 x13 x14 x15 x16 x17 x18 x19;clear hx1 C5;obtain⟨x0,-,-,-,-,x5,x6,x7,x8,x9,x10,x11,x12,x13,x14,x15,x16,x17,x18,x19,-⟩:=aj HB.out (iD _);go_wp2_with fail;refine(C6.out _).mono ?_;rintro e v6⟨rfl,hx1⟩;replace HX:=HX.qt hx1;replace HB:=qh (HB.out.ext hx1);clear x0 x5 x6 x7 x8 x9 x10 x11 x12 x13 x14 x15 x16 x17 x18 x19;clear hx1 C6;obtain⟨x0,-,-,-,-,x5,x6,x7,x8,x9,x10,x11,x12,x13,x14,x15,x16,x17,x18,x19,-⟩:=aj HB.out (iD _);go_wp2_with fail;refine(C7.out _).mono ?_;rintro e v7⟨rfl,hx1⟩;replace HX:=HX.qt hx1;replace HB:=qh (HB.out.ext hx1);clear x0 x5 x6 x7 x8 x9 x10 x11 x12 x13 x14 x15 x16 x17 x18 x19;clear hx1 C7;obtain⟨x0,-,-,-,-,x5,x6,x7,x8,x9,x10,x11,x12,x13,x14,x15,x16,x17,x18,x19,-⟩:=aj HB.out (iD _);go_wp2_with fail;go_ret;exact⟨rfl,HX.out⟩
theorem Lb(h0:¬ 24<f.key.length)(h1:¬ 24<f.ins.length)(h2:¬ 24<f.other.length)(h3:¬ 24<f.cur.length)(h4:¬ 24<f.tgt.length)(h5:ct f.qty=false)(h6:ct f.amt=false)(h7:ct f.fee=false)(h8:bQ f.price=true):Calls prog 51 #[aC f P O] w fun e w'=>e = .returned (.bool true)∧Ext w w':=by
 have g0:decide ((24:Int)<(f.key.length:Int))=false:=by rw[Mi];omega
 have g1:decide ((24:Int)<(f.ins.length:Int))=false:=by rw[Mi];omega
 have g2:decide ((24:Int)<(f.other.length:Int))=false:=by rw[Mi];omega
 have g3:decide ((24:Int)<(f.cur.length:Int))=false:=by rw[Mi];omega
 have g4:decide ((24:Int)<(f.tgt.length:Int))=false:=by rw[Mi];omega
 have c5:=bW f.qty;rw[h5]at c5;have C5:=qh c5;have c6:=bW f.amt;rw[h6]at c6;have C6:=qh c6;have c7:=bW f.fee;rw[h7]at c7;have C7:=qh c7;have c8:=fun W=>dp f.price W
 simp only[h8]at c8;have C8:=qh c8;clear h0 h1 h2 h3 h4 h5 h6 h7 h8 c5 c6 c7 c8;have HB:=qh (ID w 30 (ag f P O));have HX:Hid (Ext w (w.alloc (.cells (ag f P O) 30))):=qh (Id _ _);go_enter Pv,Pe;obtain⟨x0,-,-,-,-,x5,x6,x7,x8,x9,x10,x11,x12,x13,x14,x15,x16,x17,x18,x19,-⟩:=aj HB.out (iD _);go_wp2_with fail;refine(C5.out _).mono ?_;rintro e v5⟨rfl,hx1⟩;replace HX:=HX.qt hx1;replace HB:=qh (HB.out.ext hx1);clear x0 x5 x6 x7 x8 x9 x10 x11 x12 x13 x14 x15 x16 x17 x18 x19;clear hx1 C5;obtain⟨x0,-,-,-,-,x5,x6,x7,x8,x9,x10,x11,x12,x13,x14,x15,x16,x17,x18,x19,-⟩:=aj HB.out (iD _);go_wp2_with fail;refine(C6.out _).mono ?_;rintro e v6⟨rfl,hx1⟩;replace HX:=HX.qt hx1;replace HB:=qh (HB.out.ext hx1);clear x0 x5 x6 x7 x8 x9 x10 x11 x12 x13 x14 x15 x16 x17 x18 x19;clear hx1 C6;obtain⟨x0,-,-,-,-,x5,x6,x7,x8,x9,x10,x11,x12,x13,x14,x15,x16,x17,x18,x19,-⟩:=aj HB.out (iD _);go_wp2_with fail;refine(C7.out _).mono ?_;rintro e v7⟨rfl,hx1⟩;replace HX:=HX.qt hx1;replace HB:=qh (HB.out.ext hx1);clear x0 x5 x6 x7 x8 x9 x10 x11 x12 x13 x14 x15 x16 x17 x18 x19;clear hx1 C7;obtain⟨x0,-,-,-,-,x5,x6,x7,x8,x9,x10,x11,x12,x13,x14,x15,x16,x17,x18,x19,-⟩:=aj HB.out (iD _);go_wp2_with fail;refine(C8.out _).mono ?_;rintro e v8⟨rfl,hx1⟩;replace HX:=HX.qt hx1;replace HB:=qh (HB.out.ext hx1);clear x0 x5 x6 x7 x8 x9 x10 x11 x12 x13 x14 x15 x16 x17 x18 x19;clear hx1 C8;obtain⟨x0,-,-,-,-,x5,x6,x7,x8,x9,x10,x11,x12,x13,x14,x15,x16,x17,x18,x19,-⟩:=aj HB.out (iD _);go_wp2_with fail;go_ret;exact⟨rfl,HX.out⟩
theorem Lc(h0:¬ 24<f.key.length)(h1:¬ 24<f.ins.length)(h2:¬ 24<f.other.length)(h3:¬ 24<f.cur.length)(h4:¬ 24<f.tgt.length)(h5:ct f.qty=false)(h6:ct f.amt=false)(h7:ct f.fee=false)(h8:bQ f.price=false)(h9:bQ f.ratio=true):Calls prog 51 #[aC f P O] w fun e w'=>e = .returned (.bool true)∧Ext w w':=by
 have g0:decide ((24:Int)<(f.key.length:Int))=false:=by rw[Mi];omega
 have g1:decide ((24:Int)<(f.ins.length:Int))=false:=by rw[Mi];omega
 have g2:decide ((24:Int)<(f.other.length:Int))=false:=by rw[Mi];omega
 have g3:decide ((24:Int)<(f.cur.length:Int))=false:=by rw[Mi];omega
 have g4:decide ((24:Int)<(f.tgt.length:Int))=false:=by rw[Mi];omega
 have c5:=bW f.qty;rw[h5]at c5;have C5:=qh c5;have c6:=bW f.amt;rw[h6]at c6;have C6:=qh c6;have c7:=bW f.fee;rw[h7]at c7;have C7:=qh c7;have c8:=fun W=>dp f.price W
 simp only[h8]at c8;have C8:=qh c8;have c9:=fun W=>dp f.ratio W
 simp only[h9]at c9;have C9:=qh c9;clear h0 h1 h2 h3 h4 h5 h6 h7 h8 h9 c5 c6 c7 c8 c9;have HB:=qh (ID w 30 (ag f P O));have HX:Hid (Ext w (w.alloc (.cells (ag f P O) 30))):=qh (Id _ _);go_enter Pv,Pe;obtain⟨x0,-,-,-,-,x5,x6,x7,x8,x9,x10,x11,x12,x13,x14,x15,x16,x17,x18,x19,-⟩:=aj HB.out (iD _);go_wp2_with fail;refine(C5.out _).mono ?_;rintro e v5⟨rfl,hx1⟩;replace HX:=HX.qt hx1;replace HB:=qh (HB.out.ext hx1);clear x0 x5 x6 x7 x8 x9 x10 x11 x12 x13 x14 x15 x16 x17 x18 x19;clear hx1 C5;obtain⟨x0,-,-,-,-,x5,x6,x7,x8,x9,x10,x11,x12,x13,x14,x15,x16,x17,x18,x19,-⟩:=aj HB.out (iD _);go_wp2_with fail;refine(C6.out _).mono ?_;rintro e v6⟨rfl,hx1⟩;replace HX:=HX.qt hx1;replace HB:=qh (HB.out.ext hx1);clear x0 x5 x6 x7 x8 x9 x10 x11 x12 x13 x14 x15 x16 x17 x18 x19;clear hx1 C6;obtain⟨x0,-,-,-,-,x5,x6,x7,x8,x9,x10,x11,x12,x13,x14,x15,x16,x17,x18,x19,-⟩:=aj HB.out (iD _);go_wp2_with fail;refine(C7.out _).mono ?_;rintro e v7⟨rfl,hx1⟩;replace HX:=HX.qt hx1;replace HB:=qh (HB.out.ext hx1);clear x0 x5 x6 x7 x8 x9 x10 x11 x12 x13 x14 x15 x16 x17 x18 x19;clear hx1 C7;obtain⟨x0,-,-,-,-,x5,x6,x7,x8,x9,x10,x11,x12,x13,x14,x15,x16,x17,x18,x19,-⟩:=aj HB.out (iD _);go_wp2_with fail;refine(C8.out _).mono ?_;rintro e v8⟨rfl,hx1⟩;replace HX:=HX.qt hx1;replace HB:=qh (HB.out.ext hx1);clear x0 x5 x6 x7 x8 x9 x10 x11 x12 x13 x14 x15 x16 x17 x18 x19;clear hx1 C8;obtain⟨x0,-,-,-,-,x5,x6,x7,x8,x9,x10,x11,x12,x13,x14,x15,x16,x17,x18,x19,-⟩:=aj HB.out (iD _);go_wp2_with fail;refine(C9.out _).mono ?_;rintro e v9⟨rfl,hx1⟩;replace HX:=HX.qt hx1;replace HB:=qh (HB.out.ext hx1);clear x0 x5 x6 x7 x8 x9 x10 x11 x12 x13 x14 x15 x16 x17 x18 x19;clear hx1 C9;obtain⟨x0,-,-,-,-,x5,x6,x7,x8,x9,x10,x11,x12,x13,x14,x15,x16,x17,x18,x19,-⟩:=aj HB.out (iD _);go_wp2_with fail;go_ret;exact⟨rfl,HX.out⟩
theorem IQ(h0:¬ 24<f.key.length)(h1:¬ 24<f.ins.length)(h2:¬ 24<f.other.length)(h3:¬ 24<f.cur.length)(h4:¬ 24<f.tgt.length)(h5:ct f.qty=false)(h6:ct f.amt=false)(h7:ct f.fee=false)(h8:bQ f.price=false)(h9:bQ f.ratio=false)(h10:bQ f.share=true):Calls prog 51 #[aC f P O] w fun e w'=>e = .returned (.bool true)∧Ext w w':=by
 have g0:decide ((24:Int)<(f.key.length:Int))=false:=by rw[Mi];omega
 have g1:decide ((24:Int)<(f.ins.length:Int))=false:=by rw[Mi];omega
 have g2:decide ((24:Int)<(f.other.length:Int))=false:=by rw[Mi];omega
 have g3:decide ((24:Int)<(f.cur.length:Int))=false:=by rw[Mi];omega
 have g4:decide ((24:Int)<(f.tgt.length:Int))=false:=by rw[Mi];omega
 have c5:=bW f.qty;rw[h5]at c5;have C5:=qh c5;have c6:=bW f.amt;rw[h6]at c6;have C6:=qh c6;have c7:=bW f.fee;rw[h7]at c7;have C7:=qh c7;have c8:=fun W=>dp f.price W
 simp only[h8]at c8;have C8:=qh c8;have c9:=fun W=>dp f.ratio W
 simp only[h9]at c9;have C9:=qh c9;have c10:=fun W=>dp f.share W
 simp only[h10]at c10;have C10:=qh c10;clear h0 h1 h2 h3 h4 h5 h6 h7 h8 h9 h10 c5 c6 c7 c8 c9 c10;have HB:=qh (ID w 30 (ag f P O));have HX:Hid (Ext w (w.alloc (.cells (ag f P O) 30))):=qh (Id _ _);go_enter Pv,Pe;obtain⟨x0,-,-,-,-,x5,x6,x7,x8,x9,x10,x11,x12,x13,x14,x15,x16,x17,x18,x19,-⟩:=aj HB.out (iD _);go_wp2_with fail;refine(C5.out _).mono ?_;rintro e v5⟨rfl,hx1⟩;replace HX:=HX.qt hx1;replace HB:=qh (HB.out.ext hx1);clear x0 x5 x6 x7 x8 x9 x10 x11 x12 x13 x14 x15 x16 x17 x18 x19;clear hx1 C5;obtain⟨x0,-,-,-,-,x5,x6,x7,x8,x9,x10,x11,x12,x13,x14,x15,x16,x17,x18,x19,-⟩:=aj HB.out (iD _);go_wp2_with fail;refine(C6.out _).mono ?_;rintro e v6⟨rfl,hx1⟩;replace HX:=HX.qt hx1;replace HB:=qh (HB.out.ext hx1);clear x0 x5 x6 x7 x8 x9 x10 x11 x12 x13 x14 x15 x16 x17 x18 x19;clear hx1 C6;obtain⟨x0,-,-,-,-,x5,x6,x7,x8,x9,x10,x11,x12,x13,x14,x15,x16,x17,x18,x19,-⟩:=aj HB.out (iD _);go_wp2_with fail;refine(C7.out _).mono ?_;rintro e v7⟨rfl,hx1⟩;replace HX:=HX.qt hx1;replace HB:=qh (HB.out.ext hx1);clear x0 x5 x6 x7 x8 x9 x10 x11 x12 x13 x14 x15 x16 x17 x18 x19;clear hx1 C7;obtain⟨x0,-,-,-,-,x5,x6,x7,x8,x9,x10,x11,x12,x13,x14,x15,x16,x17,x18,x19,-⟩:=aj HB.out (iD _);go_wp2_with fail;refine(C8.out _).mono ?_;rintro e v8⟨rfl,hx1⟩;replace HX:=HX.qt hx1;replace HB:=qh (HB.out.ext hx1);clear x0 x5 x6 x7 x8 x9 x10 x11 x12 x13 x14 x15 x16 x17 x18 x19;clear hx1 C8;obtain⟨x0,-,-,-,-,x5,x6,x7,x8,x9,x10,x11,x12,x13,x14,x15,x16,x17,x18,x19,-⟩:=aj HB.out (iD _);go_wp2_with fail;refine(C9.out _).mono ?_;rintro e v9⟨rfl,hx1⟩;replace HX:=HX.qt hx1;replace HB:=qh (HB.out.ext hx1);clear x0 x5 x6 x7 x8 x9 x10 x11 x12 x13 x14 x15 x16 x17 x18 x19;clear hx1 C9;obtain⟨x0,-,-,-,-,x5,x6,x7,x8,x9,x10,x11,x12,x13,x14,x15,x16,x17,x18,x19,-⟩:=aj HB.out (iD _);go_wp2_with fail;refine(C10.out _).mono ?_;rintro e v10⟨rfl,hx1⟩;replace HX:=HX.qt hx1;replace HB:=qh (HB.out.ext hx1);clear x0 x5 x6 x7 x8 x9 x10 x11 x12 x13 x14 x15 x16 x17 x18 x19;clear hx1 C10;obtain⟨x0,-,-,-,-,x5,x6,x7,x8,x9,x10,x11,x12,x13,x14,x15,x16,x17,x18,x19,-⟩:=aj HB.out (iD _);go_wp2_with fail;go_ret;exact⟨rfl,HX.out⟩
end
structure GreatNo (f:FactV) (ps:List Fr) (os:List OptV):Prop where
 key:f.key.length<=24
 ins:f.ins.length<=24
 other:f.other.length<=24
 cur:f.cur.length<=24
 tgt:f.tgt.length<=24
 qty:f.qty.length<=13
 amt:f.amt.length<=13
 fee:f.fee.length<=13
 pr:f.price.num.length<=13∧f.price.den.length<=13
 ra:f.ratio.num.length<=13∧f.ratio.den.length<=13
 sh:f.share.num.length<=13∧f.share.den.length<=13
 np:ps.length<=66
 ps:∀p ∈ ps,p.num.length<=30∧p.den.length<=13
 no:os.length<=10
 os:∀o ∈ os,kX 24 o
theorem mT(h:ct s=false):s.length<=13:=by
 unfold ct at h;simp at h;omega
def nJ(f:FactV)(ps:List Fr)(os:List OptV)(w:World)(e:Ending)(w':World):Prop:=(∃b,e = .returned (.bool b)∧(b=false->GreatNo f ps os))∧Ext w w'
theorem fU{f:FactV}{w:World}(hx:Ext w w'):nJ f ps os w (.returned (.bool true)) w':=⟨⟨true,rfl,fun h=>by cases h⟩,hx⟩
theorem dh{f:FactV}{w:World}{e:Ending}(h:e = .returned (.bool true)∧Ext w w'):nJ f ps os w e w':=by
 obtain⟨rfl,hx⟩:=h;exact fU hx
theorem FQ(f:FactV)(ps:List Fr)(os:List OptV)(pa oa:Option Addr)(pc oq:Nat)(w:World)(hP:eH w pa ps)(hO:nB w oa os)(hn:ps.length<=4611686018427387904)(hm:os.length<=4611686018427387904) :
  Calls prog 51 #[aC f (ae pa ps.length pc) (ae oa os.length oq)] w (nJ f ps os w):=by
 by_cases h0:24<f.key.length
 ·exact(KY f _ _ w  h0).mono fun _ _ h=>dh h
 by_cases h1:24<f.ins.length
 ·exact(KZ f _ _ w h0 h1).mono fun _ _ h=>dh h
 by_cases h2:24<f.other.length
 ·exact(K0 f _ _ w h0 h1 h2).mono fun _ _ h=>dh h
 by_cases h3:24<f.cur.length
 ·exact(K5 f _ _ w h0 h1 h2 h3).mono fun _ _ h=>dh h
 by_cases h4:24<f.tgt.length
 ·exact(K6 f _ _ w h0 h1 h2 h3 h4).mono fun _ _ h=>dh h
 by_cases h5:ct f.qty=true
 ·exact(K7 f _ _ w h0 h1 h2 h3 h4 h5).mono fun _ _ h=>dh h
 by_cases h6:ct f.amt=true
 ·exact(K8 f _ _ w h0 h1 h2 h3 h4 (by simpa using h5) h6).mono fun _ _ h=>dh h
 by_cases h7:ct f.fee=true
 ·exact(K9 f _ _ w h0 h1 h2 h3 h4 (by simpa using h5) (by simpa using h6) h7).mono fun _ _ h=>dh h
 by_cases h8:bQ f.price=true
 ·exact(Lb f _ _ w h0 h1 h2 h3 h4 (by simpa using h5) (by simpa using h6) (by simpa using h7) h8).mono fun _ _ h=>dh h
 by_cases h9:bQ f.ratio=true
 ·exact(Lc f _ _ w h0 h1 h2 h3 h4 (by simpa using h5) (by simpa using h6) (by simpa using h7) (by simpa using h8) h9).mono fun _ _ h=>dh h
 by_cases h10:bQ f.share=true
 ·exact(IQ f _ _ w h0 h1 h2 h3 h4 (by simpa using h5) (by simpa using h6) (by simpa using h7) (by simpa using h8) (by simpa using h9) h10).mono fun _ _ h=>dh h
 replace h5:ct f.qty=false:=by simpa using h5
 replace h6:ct f.amt=false:=by simpa using h6
 replace h7:ct f.fee=false:=by simpa using h7
 replace h8:bQ f.price=false:=by simpa using h8
 replace h9:bQ f.ratio=false:=by simpa using h9
 replace h10:bQ f.share=false:=by simpa using h10
 have HG:Hid ((ps.length<=66∧∀p ∈ ps,p.num.length<=30∧p.den.length<=13)->(os.length<=10∧∀o ∈ os,kX 24 o)->GreatNo f ps os):=qh (fun a b=>⟨by omega,by omega,by omega,by omega,by omega,mT h5,mT h6,mT h7,js h8,js h9,js h10,a.1,a.2,b.1,b.2⟩);have HP:=qh hP;have HO:=qh hO;clear hP hO;have g0:decide ((24:Int)<(f.key.length:Int))=false:=by rw[Mi];omega
 have g1:decide ((24:Int)<(f.ins.length:Int))=false:=by rw[Mi];omega
 have g2:decide ((24:Int)<(f.other.length:Int))=false:=by rw[Mi];omega
 have g3:decide ((24:Int)<(f.cur.length:Int))=false:=by rw[Mi];omega
 have g4:decide ((24:Int)<(f.tgt.length:Int))=false:=by rw[Mi];omega
 have c5:=bW f.qty;rw[h5]at c5;have C5:=qh c5;have c6:=bW f.amt;rw[h6]at c6;have C6:=qh c6;have c7:=bW f.fee;rw[h7]at c7;have C7:=qh c7;have c8:=fun W=>dp f.price W
 simp only[h8]at c8;have C8:=qh c8;have c9:=fun W=>dp f.ratio W
 simp only[h9]at c9;have C9:=qh c9;have c10:=fun W=>dp f.share W
 simp only[h10]at c10;have C10:=qh c10;clear h0 h1 h2 h3 h4 h5 h6 h7 h8 h9 h10 c5 c6 c7 c8 c9 c10;have HB:=qh (ID w 30 (ag f (ae pa ps.length pc) (ae oa os.length oq)));have HX:Hid (Ext w (w.alloc (.cells (ag f (ae pa ps.length pc) (ae oa os.length oq)) 30))):=qh (Id _ _);go_enter Pv,Pe;obtain⟨x0,-,-,-,-,x5,x6,x7,x8,x9,x10,x11,x12,x13,x14,x15,x16,x17,x18,x19,-⟩:=aj HB.out (iD _);go_wp2_with fail;refine(C5.out _).mono ?_;rintro e v5⟨rfl,hx1⟩;replace HX:=HX.qt hx1;replace HB:=qh (HB.out.ext hx1);clear x0 x5 x6 x7 x8 x9 x10 x11 x12 x13 x14 x15 x16 x17 x18 x19;clear hx1 C5;obtain⟨x0,-,-,-,-,x5,x6,x7,x8,x9,x10,x11,x12,x13,x14,x15,x16,x17,x18,x19,-⟩:=aj HB.out (iD _);go_wp2_with fail;refine(C6.out _).mono ?_;rintro e v6⟨rfl,hx1⟩;replace HX:=HX.qt hx1;replace HB:=qh (HB.out.ext hx1);clear x0 x5 x6 x7 x8 x9 x10 x11 x12 x13 x14 x15 x16 x17 x18 x19;clear hx1 C6;obtain⟨x0,-,-,-,-,x5,x6,x7,x8,x9,x10,x11,x12,x13,x14,x15,x16,x17,x18,x19,-⟩:=aj HB.out (iD _);go_wp2_with fail;refine(C7.out _).mono ?_;rintro e v7⟨rfl,hx1⟩;replace HX:=HX.qt hx1;replace HB:=qh (HB.out.ext hx1);clear x0 x5 x6 x7 x8 x9 x10 x11 x12 x13 x14 x15 x16 x17 x18 x19;clear hx1 C7;obtain⟨x0,-,-,-,-,x5,x6,x7,x8,x9,x10,x11,x12,x13,x14,x15,x16,x17,x18,x19,-⟩:=aj HB.out (iD _);go_wp2_with fail;refine(C8.out _).mono ?_;rintro e v8⟨rfl,hx1⟩;replace HX:=HX.qt hx1;replace HB:=qh (HB.out.ext hx1);clear x0 x5 x6 x7 x8 x9 x10 x11 x12 x13 x14 x15 x16 x17 x18 x19;clear hx1 C8;obtain⟨x0,-,-,-,-,x5,x6,x7,x8,x9,x10,x11,x12,x13,x14,x15,x16,x17,x18,x19,-⟩:=aj HB.out (iD _);go_wp2_with fail;refine(C9.out _).mono ?_;rintro e v9⟨rfl,hx1⟩;replace HX:=HX.qt hx1;replace HB:=qh (HB.out.ext hx1);clear x0 x5 x6 x7 x8 x9 x10 x11 x12 x13 x14 x15 x16 x17 x18 x19;clear hx1 C9;obtain⟨x0,-,-,-,-,x5,x6,x7,x8,x9,x10,x11,x12,x13,x14,x15,x16,x17,x18,x19,-⟩:=aj HB.out (iD _);go_wp2_with fail;refine(C10.out _).mono ?_;rintro e v10⟨rfl,hx1⟩;replace HX:=HX.qt hx1;replace HB:=qh (HB.out.ext hx1);clear x0 x5 x6 x7 x8 x9 x10 x11 x12 x13 x14 x15 x16 x17 x18 x19;clear hx1 C10;obtain⟨-,-,-,-,-,-,-,-,-,-,-,-,-,-,-,-,-,-,x18,x19,-⟩:=aj HB.out (iD _);obtain hN|hN|hN|hN:ps.length<=4∨(4<ps.length∧ps.length<=64)∨(64<ps.length∧ps.length<=66)∨66<ps.length:=by omega
 all_goals obtain hM|hM|hM|hM:os.length<=3∨(3<os.length∧os.length<=8)∨(8<os.length∧os.length<=10)∨10<os.length:=by omega
 all_goals
  first|have p4:decide ((4:Int)<(ps.length:Int))=true:=by rw[MA];omega|have p4:decide ((4:Int)<(ps.length:Int))=false:=by rw[Mi];omega
  first|have p64:decide ((ps.length:Int)<=64)=true:=by rw[MA];omega|have p64:decide ((ps.length:Int)<=64)=false:=by rw[Mi];omega
  first|have p66:decide ((66:Int)<(ps.length:Int))=true:=by rw[MA];omega|have p66:decide ((66:Int)<(ps.length:Int))=false:=by rw[Mi];omega
  first|have q3:decide ((3:Int)<(os.length:Int))=true:=by rw[MA];omega|have q3:decide ((3:Int)<(os.length:Int))=false:=by rw[Mi];omega
  first|have q8:decide ((os.length:Int)<=8)=true:=by rw[MA];omega|have q8:decide ((os.length:Int)<=8)=false:=by rw[Mi];omega
  first|have q10:decide ((10:Int)<(os.length:Int))=true:=by rw[MA];omega|have q10:decide ((10:Int)<(os.length:Int))=false:=by rw[Mi];omega
  go_wp2_with fail;try (go_ret;exact fU HX.out)
 all_goals
  have hN66:Hid (ps.length<=66):=qh (by omega);have hM10:Hid (os.length<=10):=qh (by omega);clear p4 p64 p66 q3 q8 q10 hN hM x18 x19;go_loopw [3] (fun i wr=>∃k:Nat,k<=ps.length∧i = .int .i64 k∧(∀x ∈ ps.take k,x.num.length<=30∧x.den.length<=13)∧Ext w wr∧Blk wr w.heap.size 30 (ag f (ae pa ps.length pc) (ae oa os.length oq))) (fun i _=>ps.length-(intOf i).toNat)
  case atStart=>exact⟨0,by omega,rfl,by simp,HX.out,HB.out⟩
  case round =>
   clear HX HB;obtain⟨k,hk,rfl,hz,hx,hb⟩:=hrel;have HX:=qh hx;have HB:=qh hb;have HZ:=qh hz;clear hx hb hz;obtain⟨-,-,-,-,-,-,-,-,-,-,-,-,-,-,-,-,-,-,x18,x19,-⟩:=aj HB.out (iD _);by_cases hlt:k<ps.length
   ·obtain⟨b,o,rfl,hb,c0,c1⟩:=(HP.out.ext HX.out).at_ hlt;have hki:(k:Int)<(ps.length:Int):=by omega
    have hk0:(0:Int)<=(k:Int):=by omega
    have HNx:Hid (((ps[k]'hlt).num.length<=30∧(ps[k]'hlt).den.length<=13)->∀x ∈ ps.take (k+1),x.num.length<=30∧x.den.length<=13):=qh (fun h x hx=>by
     rw[Mo hlt]at hx;rcases MN.1 hx with hx|hx
     ·exact HZ.out x hx
     ·rw[Pd]at hx;rw[hx];exact h)
    generalize ps[k]'hlt=y at *;obtain⟨lt,qt⟩:=y;dsimp only at c0 c1 HNx;by_cases hl:30<lt.length
    ·have g:decide ((30:Int)<(lt.length:Int))=true:=by rw[MA];omega
     clear HNx HG HP HO;go_wp2_with fail;go_ret;exact fU HX.out
    have g:decide ((30:Int)<(lt.length:Int))=false:=by rw[Mi];omega
    have LG:=qh (bW qt);have hll:Hid (lt.length<=30):=qh (by omega);have hqq:=qh (fun h:ct qt=false=>mT h);generalize ct qt=lq at *;clear hl;go_wp2_with fail;refine(LG.out _).mono ?_;rintro e v5⟨rfl,hx1⟩;replace HX:=HX.qt hx1;replace HB:=qh (HB.out.ext hx1);clear hx1 c0 c1 x18 x19 hb
    cases lq
    ·have hz1:=qh (HNx.out ⟨hll.out,hqq.out (by trivial)⟩);clear HNx hll hqq LG;go_wp2_with fail;exact⟨⟨k+1,by omega,by go_num,hz1.out,HX.out,HB.out⟩,by simp[intOf];omega⟩
    ·clear HNx hll hqq LG HG HP HO;go_wp2_with fail;go_ret;exact fU HX.out
   ·have hke:k=ps.length:=by omega
    subst hke;have HP2:=qh HZ.out;rw[MK]at HP2;replace HG:=qh (HG.out ⟨hN66.out,HP2.out⟩);have hki:¬ ((ps.length:Int)<(ps.length:Int)):=by omega
    clear hlt hk HZ HP2 HP hN66;go_wp2_with fail;clear x18 x19;go_loopw [4,5] (fun i _ wr=>∃k:Nat,k<=os.length∧i = .int .i64 k∧(∀x ∈ os.take k,kX 24 x)∧Ext w wr∧Blk wr w.heap.size 30 (ag f (ae pa ps.length pc) (ae oa os.length oq))) (fun i _ _=>os.length-(intOf i).toNat)
    case atStart=>exact⟨0,by omega,rfl,by simp,HX.out,HB.out⟩
    case round =>
     clear HX HB;obtain⟨k,hk,rfl,hz,hx,hb⟩:=hrel;have HX:=qh hx;have HB:=qh hb;have HZ:=qh hz;clear hx hb hz;obtain⟨-,-,-,-,-,-,-,-,-,-,-,-,-,-,-,-,-,-,x18,x19,-⟩:=aj HB.out (iD _);by_cases hlt:k<os.length
     ·obtain⟨b,o,rfl,hb,c0,c1,c2,c3,c4,c5,c6⟩:=(HO.out.ext HX.out).at_ hlt;have hki:(k:Int)<(os.length:Int):=by omega
      have hk0:(0:Int)<=(k:Int):=by omega
      have HNx:Hid (kX 24 (os[k]'hlt)->∀x ∈ os.take (k+1),kX 24 x):=qh (fun h x hx=>by
       rw[Mo hlt]at hx;rcases MN.1 hx with hx|hx
       ·exact HZ.out x hx
       ·rw[Pd]at hx;rw[hx];exact h)
      generalize os[k]'hlt=y at *;obtain⟨ot,⟨rn,rd⟩,⟨pn,pd⟩,⟨vn,vd⟩⟩:=y;dsimp only at c0 c1 c2 c3 c4 c5 c6;have HOB:=qh (ID wr 154 (oc ⟨ot,⟨rn,rd⟩,⟨pn,pd⟩,⟨vn,vd⟩⟩));replace HX:=qh (HX.out.alloc (.cells (oc ⟨ot,⟨rn,rd⟩,⟨pn,pd⟩,⟨vn,vd⟩⟩) 154));replace HB:=qh (HB.out.alloc (.cells (oc ⟨ot,⟨rn,rd⟩,⟨pn,pd⟩,⟨vn,vd⟩⟩) 154));obtain⟨r0,r1,r2,r3,r4,r5,r6⟩:=lX HOB.out (iD _);by_cases hl:24<ot.length
      ·have g:decide ((24:Int)<(ot.length:Int))=true:=by rw[MA];omega
       clear HNx HG HO;go_wp2_with fail;go_ret;exact fU HX.out
      have g:decide ((24:Int)<(ot.length:Int))=false:=by rw[Mi];omega
      have hll:Hid (ot.length<=24):=qh (by omega);have L1:=qh (fun W=>dp ⟨rn,rd⟩ W);have L2:=qh (fun W=>dp ⟨pn,pd⟩ W);have L3:=qh (fun W=>dp ⟨vn,vd⟩ W)
      have hF:Hid (bQ ⟨rn,rd⟩=false->bQ ⟨pn,pd⟩=false->bQ ⟨vn,vd⟩=false->kX 24 ⟨ot,⟨rn,rd⟩,⟨pn,pd⟩,⟨vn,vd⟩⟩):=qh (fun a b c=>by
       have a':=js a;have b':=js b;have c':=js c;have d':=hll.out;dsimp only at a' b' c';exact⟨by dsimp only;omega,by dsimp only;omega,by dsimp only;omega,by dsimp only;omega,by dsimp only;omega,by dsimp only;omega,by dsimp only;omega⟩)
      generalize bQ ⟨rn,rd⟩=l1 at *;generalize bQ ⟨pn,pd⟩=l2 at *;generalize bQ ⟨vn,vd⟩=l3 at *;clear hl hll;go_wp2_with fail;refine(L1.out _).mono ?_;rintro e v5⟨rfl,hx1⟩;replace HX:=HX.qt hx1;replace HB:=qh (HB.out.ext hx1);replace HOB:=qh (HOB.out.ext hx1);clear hx1 c0 c1 c2 c3 c4 c5 c6 x18 x19 hb r0 r1 r2 r3 r4 r5 r6 L1
      cases l1;rotate_left
      ·clear HNx HG HO hF L2 L3;go_wp2_with fail;go_ret;exact fU HX.out
      obtain⟨r0,r1,r2,r3,r4,r5,r6⟩:=lX HOB.out (iD _);go_wp2_with fail;refine(L2.out _).mono ?_;rintro e v6⟨rfl,hx1⟩;replace HX:=HX.qt hx1;replace HB:=qh (HB.out.ext hx1);replace HOB:=qh (HOB.out.ext hx1);clear hx1 r0 r1 r2 r3 r4 r5 r6 L2
      cases l2;rotate_left
      ·clear HNx HG HO hF L3;go_wp2_with fail;go_ret;exact fU HX.out
      obtain⟨r0,r1,r2,r3,r4,r5,r6⟩:=lX HOB.out (iD _);go_wp2_with fail;refine(L3.out _).mono ?_;rintro e v7⟨rfl,hx1⟩;replace HX:=HX.qt hx1;replace HB:=qh (HB.out.ext hx1);clear hx1 r0 r1 r2 r3 r4 r5 r6 L3 HOB
      cases l3;rotate_left
      ·clear HNx HG HO hF;go_wp2_with fail;go_ret;exact fU HX.out
      have hz1:=qh (HNx.out (hF.out (by trivial) (by trivial) (by trivial)));clear HNx hF;go_wp2_with fail;exact⟨⟨k+1,by omega,by go_num,hz1.out,HX.out,HB.out⟩,by simp[intOf];omega⟩
     ·have hke:k=os.length:=by omega
      subst hke;have HP2:=qh HZ.out;rw[MK]at HP2;replace HG:=qh (HG.out ⟨hM10.out,HP2.out⟩);have hki:¬ ((os.length:Int)<(os.length:Int)):=by omega
      clear hlt hk HZ HP2 HO hM10;go_wp2_with fail;go_ret;exact⟨⟨false,rfl,fun _=>HG.out⟩,HX.out⟩
def IR(ls:List LotV)(f:FactV)(ps:List Fr)(os:List OptV)(w:World)(e:Ending)(w':World):Prop:=(∃b,e = .returned (.bool b)∧(b=false->cI ls=false∧GreatNo f ps os))∧Ext w w'
theorem FU(ls:List LotV)(A:Option Addr)(c:Nat)(f:FactV)(ps:List Fr)(os:List OptV)(pa oa:Option Addr)(pc oq:Nat)(w:World)(hA:aK w A ls)(hP:eH w pa ps)(hO:nB w oa os)(hn:ps.length<=4611686018427387904)(hm:os.length<=4611686018427387904)(hl:ls.length<=4611686018427387904) :
  Calls prog 10 #[.slice A ls.length c,aC f (ae pa ps.length pc) (ae oa os.length oq)] w (IR ls f ps os w):=by
 have HB:=qh (ID w 30 (ag f (ae pa ps.length pc) (ae oa os.length oq)));have HX:Hid (Ext w (w.alloc (.cells (ag f (ae pa ps.length pc) (ae oa os.length oq)) 30))):=qh (Id _ _);have RG:=qh (Dx ls A c _ (hA.ext HX.out) (by omega));have FG:=qh (fun W (hx:Ext w W)=>FQ f ps os pa oa pc oq W (hP.ext hx) (hO.ext hx) hn hm);have hs1:(prog.info? 30).map (·.size)=some (ag f (ae pa ps.length pc) (ae oa os.length oq)).toList.length:=by kernel_rfl
 have HGA:=qh (fun h:cI ls=false=>h);generalize hga:cI ls=ga at *;have HG0:=qh hga;clear hga HGA;clear hA hP hO;go_enter func10,ntmps10;go_wp2_with fail;refine RG.out.mono ?_;rintro e v1⟨rfl,hx1⟩;replace HX:=HX.qt hx1;replace HB:=qh (HB.out.ext hx1);clear hx1 RG;have hrg:=aL HB.out
 cases ga
 ·go_wp2_with (first|refine bS (by kernel_rfl) 30 _ rfl w.heap.size 0 rfl _ _ hrg M3 rfl hs1 ?_|fail);refine(FG.out _ HX.out).mono ?_;rintro e v2⟨⟨b,rfl,hb⟩,hx1⟩;replace HX:=HX.qt hx1;have hb2:=qh (fun h=>MC HG0.out (hb h));clear hx1 hb hrg
  cases b
  ·go_wp2_with fail;go_ret;exact⟨⟨false,rfl,fun _=>hb2.out (by trivial)⟩,HX.out⟩
  ·go_wp2_with fail;go_ret;exact⟨⟨true,rfl,fun h=>by cases h⟩,HX.out⟩
 ·clear hrg;go_wp2_with fail;go_ret;exact⟨⟨true,rfl,fun h=>by cases h⟩,HX.out⟩
structure LawIn (w:World) (ls:List LotV) (A:Option Addr) (f:FactV) (ps:List Fr) (os:List OptV) (pa oa:Option Addr) (pc:Nat):Prop where
 la:aK w A ls
 rp:eH w pa ps
 cp:ps.length<=pc
 ro:nB w oa os
 wf:(Lit.int .i64 f.kind).wf=true
 nl:ls.length<=4611686018427387904
 np:ps.length<=4611686018427387904
 no:os.length<=4611686018427387904
theorem LawIn.fact{w:World}{ls:List LotV}{f:FactV}(h:LawIn w ls A f ps os pa oa pc)(n:GreatNo f ps os):FactAt w f ps os pa oa pc:=by
 obtain⟨n0,n1,n2,n3,n4,n5,n6,n7,n8,n9,n10,n11,n12,n13,n14⟩:=n;refine⟨⟨by omega,by omega,by omega,by omega,by omega,by omega,by omega,by omega,by omega,by omega,by omega,by omega,by omega,by omega⟩,h.rp,fun p hp=>?_,by omega,h.cp,h.ro,fun o ho=>?_,by omega⟩
 ·have:=n12 p hp;omega
 ·obtain⟨s0,s1,s2,s3,s4,s5,s6⟩:=n14 o ho;exact⟨by omega,by omega,by omega,by omega,by omega,by omega,by omega⟩
end
section
open Go.RowKit Go.Shelf
attribute [local go_sem] size_bs toList_bs
structure SellGo (ls:List LotV) (f:FactV) (ps:List Fr) (os:List OptV) (m:Int):Prop where
 inn:SelIn ls f ps os
 n1:1<=m.toNat
 n6:m.toNat<=6
 m_:((m.toNat:Nat):Int)=m
 q:valI f.qty<=totQ ls f.ins
theorem mU(ls:List LotV)(f:FactV)(ps:List Fr)(os:List OptV)(k:Int):(checkAllL ls≠0∨cr f ps os≠0)∧dY ls f ps os k=1∨(checkAllL ls=0∧cr f ps os=0∧f.kind≠k∧dY ls f ps os k=7)∨(checkAllL ls=0∧cr f ps os=0∧f.kind=k∧dY ls f ps os k=0):=by
 unfold dY;by_cases h1:checkAllL ls≠0∨cr f ps os≠0
 ·rw[Mq h1];exact .inl ⟨h1,rfl⟩
 ·rw[Mj h1]
  have a:checkAllL ls=0:=by
   by_cases h:checkAllL ls=0
   ·exact h
   ·exact absurd (.inl h) h1
  have b:cr f ps os=0:=by
   by_cases h:cr f ps os=0
   ·exact h
   ·exact absurd (.inr h) h1
  by_cases h2:f.kind=k
  ·rw[Mj (by simpa using h2)];exact .inr (.inr ⟨a,b,h2,rfl⟩)
  ·rw[Mq h2];exact .inr (.inl ⟨a,b,h2,rfl⟩)
theorem DF{ls:List LotV}{f:FactV}(hG:cI ls=false)(h:gP ls f ps os m=0):SellGo ls f ps os m:=by
 unfold gP at h;split at h
 ·rename_i h1;exact absurd h h1
 rename_i h1
 split at h
 ·exact absurd h (by decide)
 rename_i h2
 split at h
 ·exact absurd h (by decide)
 rename_i h3
 have h1':dY ls f ps os 4=0:=by
  by_cases g:dY ls f ps os 4=0
  ·exact g
  ·exact absurd g h1
 rcases mU ls f ps os 4 with ⟨_,e⟩ | ⟨_,_,_,e⟩ | ⟨a,b,c,_⟩
 ·rw[e]at h1';exact absurd h1' (by decide)
 ·rw[e]at h1';exact absurd h1' (by decide)
 ·exact⟨⟨hG,a,b,c⟩,by omega,by omega,by omega,by omega⟩
theorem IT(ls:List LotV)(A:Option Addr)(c:Nat)(f:FactV)(ps:List Fr)(os:List OptV)(pa oa:Option Addr)(pc oq:Nat)(m:Int)(w:World)(hE:Env w)(hA:aK w A ls)(hF:FactAt w f ps os pa oa pc)(hwf:(Lit.int .i64 f.kind).wf=true)(hG:cI ls=false)(h:gP ls f ps os m≠0) :
  Calls prog 13 #[.slice A ls.length c,aC f (ae pa ps.length pc) (ae oa os.length oq),.int .i64 m] w fun e w'=>e = .returned (.tuple #[zR,.int .i64 (gP ls f ps os m)])∧Ext w w':=by
 have hs:=dG hG;have hn:ls.length<=100000:=by have:=(fD hG).1;omega
 by_cases h1:dY ls f ps os 4=0;rotate_left
 ·refine xg ls A c f ps os pa oa pc oq m w hE hA hF hwf hs hn _ (.inl ⟨h1,?_⟩);unfold gP;rw[Mq h1]
 by_cases h2:m<1∨7<=m
 ·refine xg ls A c f ps os pa oa pc oq m w hE hA hF hwf hs hn _ (.inr ⟨h1,h2,?_⟩);unfold gP;rw[Mj (by simpa using h1),Mq h2]
 ·have h3:totQ ls f.ins<valI f.qty:=by
   refine Int.not_le.1 fun g=>h ?_
   unfold gP;rw[Mj (by simpa using h1),Mj h2,Mj (by omega)]
  have e:gP ls f ps os m=15:=by
   unfold gP;rw[Mj (by simpa using h1),Mj h2,Mq h3]
  rcases mU ls f ps os 4 with ⟨_,e1⟩ | ⟨_,_,_,e1⟩ | ⟨a,b,c',e1⟩
  ·rw[e1]at h1;exact absurd h1 (by decide)
  ·rw[e1]at h1;exact absurd h1 (by decide)
  ·have hm:((m.toNat:Nat):Int)=m:=by omega
   have hh:=Aw ls A c f ps os pa oa pc oq m.toNat w hE hA hF ⟨hG,a,b,c'⟩ (by omega) (by omega) h3;rw[hm]at hh;rw[e];exact hh
theorem FW(ls:List LotV)(A:Option Addr)(c:Nat)(f:FactV)(ps:List Fr)(os:List OptV)(pa oa:Option Addr)(pc oq:Nat)(m:Int)(w:World)(hE:Env w)(hA:aK w A ls)(hF:FactAt w f ps os pa oa pc)(h:SellGo ls f ps os m) :
  Calls prog 13 #[.slice A ls.length c,aC f (ae pa ps.length pc) (ae oa os.length oq),.int .i64 m] w (gu (ij ls f m.toNat ps) (cM ls f m.toNat ps) (kw ls f m.toNat ps) w):=by
 have hh:=uT ls A c f ps os pa oa pc oq m.toNat w hE hA hF h.inn h.n1 h.n6 h.q;rw[h.m_]at hh;exact hh
def pO(ls:List LotV)(ins:Bs):List LotV:=ls.filter (fun x=>decide (x.ins≠ins))
end
section
open Go.ChangeShapes Go.WideShapes Go.ChangeAt Go.RowKit Go.Deep Go.Joins
instance:Inhabited OptV:=⟨⟨[],⟨[],[]⟩,⟨[],[]⟩,⟨[],[]⟩⟩⟩
section
variable {w:World} {base:Nat} {spare:Nat->Bool} {held:Bool} {H:Type} {enc:TypeId × Value->H}
theorem iE{n:Nat}{y:DataW H × List MemPlace}(h:DataW.trod enc prog w base spare held n 26 cs=some y):∃f:Fr,cs=[.string (bs f.num),.string (bs f.den)]:=by
 obtain⟨xs,n,_,_,hlen,hl,hg⟩:=PF underlying26 h;rw[show prog.cellsOf 26=2 by kernel_rfl]at hlen;have hc:prog.cellsOf 24=1:=by kernel_rfl
 match cs,hlen,xs,hl with
 |[c0,c1],_,[y0,y1],_ =>
  have g0:DataW.trod enc prog w base spare held n 24 (([c0,c1].drop 0).take (prog.cellsOf 24))=some y0:=hg 0 _ rfl;have g1:DataW.trod enc prog w base spare held n 24 (([c0,c1].drop 1).take (prog.cellsOf 24))=some y1:=hg 1 _ rfl;rw[hc]at g0 g1;obtain⟨s0,e0,_⟩:=MX NG (x:=y0) (by simpa using g0);obtain⟨s1,e1,_⟩:=MX NG (x:=y1) (by simpa using g1);simp at e0 e1;subst e0;subst e1;exact⟨⟨L s0,L s1⟩,by simp[bs_L]⟩
theorem wd{n:Nat}{y:DataW H × List MemPlace}(h:DataW.trod enc prog w base spare held n 154 cs=some y):∃o:OptV,cs=fO o:=by
 obtain⟨xs,n,_,_,hlen,hl,hg⟩:=PF underlying154 h;rw[show prog.cellsOf 154=7 by kernel_rfl]at hlen;have hc:prog.cellsOf 9=1:=by kernel_rfl
 have hf:prog.cellsOf 26=2:=by kernel_rfl
 match cs,hlen,xs,hl with
 |[c0,c1,c2,c3,c4,c5,c6],_,[y0,y1,y2,y3],_ =>
  have g0:DataW.trod enc prog w base spare held n 9 (([c0,c1,c2,c3,c4,c5,c6].drop 0).take (prog.cellsOf 9))=some y0:=hg 0 _ rfl;have g1:DataW.trod enc prog w base spare held n 26 (([c0,c1,c2,c3,c4,c5,c6].drop 1).take (prog.cellsOf 26))=some y1:=hg 1 _ rfl;have g2:DataW.trod enc prog w base spare held n 26 (([c0,c1,c2,c3,c4,c5,c6].drop 3).take (prog.cellsOf 26))=some y2:=hg 2 _ rfl;have g3:DataW.trod enc prog w base spare held n 26 (([c0,c1,c2,c3,c4,c5,c6].drop 5).take (prog.cellsOf 26))=some y3:=hg 3 _ rfl;rw[hc]at g0;rw[hf]at g1 g2 g3;obtain⟨s0,e0,_⟩:=MX Nd (x:=y0) (by simpa using g0);obtain⟨f1,e1⟩:=iE (y:=y1) (by simpa using g1);obtain⟨f2,e2⟩:=iE (y:=y2) (by simpa using g2);obtain⟨f3,e3⟩:=iE (y:=y3) (by simpa using g3);simp at e0 e1 e2 e3;obtain⟨rfl,rfl⟩:=e1;obtain⟨rfl,rfl⟩:=e2;obtain⟨rfl,rfl⟩:=e3;subst e0;exact⟨⟨L s0,f1,f2,f3⟩,by simp[fO,bs_L]⟩
end
instance:Inhabited Fr:=⟨⟨[],[]⟩⟩
structure FactIn (w:World) (f:FactV) (ps:List Fr) (os:List OptV) (pa oa:Option Addr) (pc oq:Nat):Prop where
 rp:eH w pa ps
 cp:ps.length<=pc
 ro:nB w oa os
 co:os.length<=oq
 wf:(Lit.int .i64 f.kind).wf=true
 np:ps.length<=4611686018427387904
 no:os.length<=4611686018427387904
section
variable {w:World} {base:Nat} {spare:Nat->Bool} {held:Bool} {H:Type} {enc:TypeId × Value->H}
theorem Az{n:Nat}{y:DataW H × List MemPlace}(h:DataW.trod enc prog w base spare held n 124 cs=some y):∃f:Fr,cs=bC f:=by
 obtain⟨xs,n,_,_,hlen,hl,hg⟩:=PF underlying124 h;rw[show prog.cellsOf 124=2 by kernel_rfl]at hlen;have hc:prog.cellsOf 24=1:=by kernel_rfl
 have hs:prog.cellsOf 9=1:=by kernel_rfl
 match cs,hlen,xs,hl with
 |[c0,c1],_,[y0,y1],_ =>
  have g0:DataW.trod enc prog w base spare held n 9 (([c0,c1].drop 0).take (prog.cellsOf 9))=some y0:=hg 0 _ rfl;have g1:DataW.trod enc prog w base spare held n 24 (([c0,c1].drop 1).take (prog.cellsOf 24))=some y1:=hg 1 _ rfl;rw[hs]at g0;rw[hc]at g1;obtain⟨s0,e0,_⟩:=MX Nd (x:=y0) (by simpa using g0);obtain⟨s1,e1,_⟩:=MX NG (x:=y1) (by simpa using g1);simp at e0 e1;subst e0;subst e1;exact⟨⟨L s0,L s1⟩,by simp[bC,bs_L]⟩
theorem AA{n:Nat}{y:DataW H × List MemPlace}(h:DataW.trod enc prog w base spare held n 30 cs=some y)(hw:(y.1.weights prog 30).all (·<=reachBytes)=true):∃(f:FactV) (ps:List Fr) (os:List OptV) (pa oa:Option Addr) (pc oq:Nat),cs=(ag f (ae pa ps.length pc) (ae oa os.length oq)).toList∧FactIn w f ps os pa oa pc oq:=by
 obtain⟨xs,n,_,hy,hlen,hl,hg⟩:=PF M3 h;rw[show prog.cellsOf 30=21 by kernel_rfl]at hlen;have ht0:prog.cellsOf 9=1:=by kernel_rfl
 have ht1:prog.cellsOf 3=1:=by kernel_rfl
 have ht2:prog.cellsOf 4=1:=by kernel_rfl
 have ht3:prog.cellsOf 23=1:=by kernel_rfl
 have ht4:prog.cellsOf 24=1:=by kernel_rfl
 have ht5:prog.cellsOf 26=2:=by kernel_rfl
 have ht6:prog.cellsOf 27=1:=by kernel_rfl
 have ht7:prog.cellsOf 28=1:=by kernel_rfl
 match cs,hlen,xs,hl with
 |[c0,c1,c2,c3,c4,c5,c6,c7,c8,c9,c10,c11,c12,c13,c14,c15,c16,c17,c18,c19,c20],_,[y0,y1,y2,y3,y4,y5,y6,y7,y8,y9,y10,y11,y12,y13,y14,y15,y16,y17],_ =>
  have g0:DataW.trod enc prog w base spare held n 9 (([c0,c1,c2,c3,c4,c5,c6,c7,c8,c9,c10,c11,c12,c13,c14,c15,c16,c17,c18,c19,c20].drop 0).take (prog.cellsOf 9))=some y0:=hg 0 _ rfl;rw[ht0]at g0;have g1:DataW.trod enc prog w base spare held n 3 (([c0,c1,c2,c3,c4,c5,c6,c7,c8,c9,c10,c11,c12,c13,c14,c15,c16,c17,c18,c19,c20].drop 1).take (prog.cellsOf 3))=some y1:=hg 1 _ rfl;rw[ht1]at g1;have g2:DataW.trod enc prog w base spare held n 4 (([c0,c1,c2,c3,c4,c5,c6,c7,c8,c9,c10,c11,c12,c13,c14,c15,c16,c17,c18,c19,c20].drop 2).take (prog.cellsOf 4))=some y2:=hg 2 _ rfl;rw[ht2]at g2;have g3:DataW.trod enc prog w base spare held n 23 (([c0,c1,c2,c3,c4,c5,c6,c7,c8,c9,c10,c11,c12,c13,c14,c15,c16,c17,c18,c19,c20].drop 3).take (prog.cellsOf 23))=some y3:=hg 3 _ rfl;rw[ht3]at g3;have g4:DataW.trod enc prog w base spare held n 3 (([c0,c1,c2,c3,c4,c5,c6,c7,c8,c9,c10,c11,c12,c13,c14,c15,c16,c17,c18,c19,c20].drop 4).take (prog.cellsOf 3))=some y4:=hg 4 _ rfl;rw[ht1]at g4;have g5:DataW.trod enc prog w base spare held n 9 (([c0,c1,c2,c3,c4,c5,c6,c7,c8,c9,c10,c11,c12,c13,c14,c15,c16,c17,c18,c19,c20].drop 5).take (prog.cellsOf 9))=some y5:=hg 5 _ rfl;rw[ht0]at g5;have g6:DataW.trod enc prog w base spare held n 9 (([c0,c1,c2,c3,c4,c5,c6,c7,c8,c9,c10,c11,c12,c13,c14,c15,c16,c17,c18,c19,c20].drop 6).take (prog.cellsOf 9))=some y6:=hg 6 _ rfl;rw[ht0]at g6;have g7:DataW.trod enc prog w base spare held n 9 (([c0,c1,c2,c3,c4,c5,c6,c7,c8,c9,c10,c11,c12,c13,c14,c15,c16,c17,c18,c19,c20].drop 7).take (prog.cellsOf 9))=some y7:=hg 7 _ rfl;rw[ht0]at g7;have g8:DataW.trod enc prog w base spare held n 9 (([c0,c1,c2,c3,c4,c5,c6,c7,c8,c9,c10,c11,c12,c13,c14,c15,c16,c17,c18,c19,c20].drop 8).take (prog.cellsOf 9))=some y8:=hg 8 _ rfl;rw[ht0]at g8;have g9:DataW.trod enc prog w base spare held n 24 (([c0,c1,c2,c3,c4,c5,c6,c7,c8,c9,c10,c11,c12,c13,c14,c15,c16,c17,c18,c19,c20].drop 9).take (prog.cellsOf 24))=some y9:=hg 9 _ rfl;rw[ht4]at g9;have g10:DataW.trod enc prog w base spare held n 24 (([c0,c1,c2,c3,c4,c5,c6,c7,c8,c9,c10,c11,c12,c13,c14,c15,c16,c17,c18,c19,c20].drop 10).take (prog.cellsOf 24))=some y10:=hg 10 _ rfl;rw[ht4]at g10;have g11:DataW.trod enc prog w base spare held n 24 (([c0,c1,c2,c3,c4,c5,c6,c7,c8,c9,c10,c11,c12,c13,c14,c15,c16,c17,c18,c19,c20].drop 11).take (prog.cellsOf 24))=some y11:=hg 11 _ rfl;rw[ht4]at g11;have g12:DataW.trod enc prog w base spare held n 26 (([c0,c1,c2,c3,c4,c5,c6,c7,c8,c9,c10,c11,c12,c13,c14,c15,c16,c17,c18,c19,c20].drop 12).take (prog.cellsOf 26))=some y12:=hg 12 _ rfl;rw[ht5]at g12;have g13:DataW.trod enc prog w base spare held n 26 (([c0,c1,c2,c3,c4,c5,c6,c7,c8,c9,c10,c11,c12,c13,c14,c15,c16,c17,c18,c19,c20].drop 14).take (prog.cellsOf 26))=some y13:=hg 13 _ rfl;rw[ht5]at g13;have g14:DataW.trod enc prog w base spare held n 26 (([c0,c1,c2,c3,c4,c5,c6,c7,c8,c9,c10,c11,c12,c13,c14,c15,c16,c17,c18,c19,c20].drop 16).take (prog.cellsOf 26))=some y14:=hg 14 _ rfl;rw[ht5]at g14;have g15:DataW.trod enc prog w base spare held n 27 (([c0,c1,c2,c3,c4,c5,c6,c7,c8,c9,c10,c11,c12,c13,c14,c15,c16,c17,c18,c19,c20].drop 18).take (prog.cellsOf 27))=some y15:=hg 15 _ rfl;rw[ht6]at g15;have g16:DataW.trod enc prog w base spare held n 28 (([c0,c1,c2,c3,c4,c5,c6,c7,c8,c9,c10,c11,c12,c13,c14,c15,c16,c17,c18,c19,c20].drop 19).take (prog.cellsOf 28))=some y16:=hg 16 _ rfl;rw[ht7]at g16;have g17:DataW.trod enc prog w base spare held n 3 (([c0,c1,c2,c3,c4,c5,c6,c7,c8,c9,c10,c11,c12,c13,c14,c15,c16,c17,c18,c19,c20].drop 20).take (prog.cellsOf 3))=some y17:=hg 17 _ rfl;rw[ht1]at g17;clear hg;rw[hy]at hw;simp only[MQ,Qh,DataW.weights,M3,DataW.weightsEach,OI,MJ]at hw;obtain⟨_,_,_,_,_,_,_,_,_,_,_,_,_,_,_,hwp,hwo,_⟩:=hw;replace g0:DataW.trod enc prog w base spare held n 9 [c0]=some y0:=g0;obtain⟨s0,e0,_⟩:=MX Nd g0;injection e0 with e0 _
  subst e0;replace g1:DataW.trod enc prog w base spare held n 3 [c1]=some y1:=g1;obtain⟨s1,e1,_,w1⟩:=Pm Pw g1;injection e1 with e1 _
  subst e1;replace g2:DataW.trod enc prog w base spare held n 4 [c2]=some y2:=g2;obtain⟨s2,e2,_⟩:=DataW.trod_bool underlying4 g2;injection e2 with e2 _
  subst e2;replace g3:DataW.trod enc prog w base spare held n 23 [c3]=some y3:=g3;obtain⟨s3,e3,_,w3⟩:=Pm PG g3;injection e3 with e3 _
  subst e3;replace g4:DataW.trod enc prog w base spare held n 3 [c4]=some y4:=g4;obtain⟨s4,e4,_,w4⟩:=Pm Pw g4;injection e4 with e4 _
  subst e4;replace g5:DataW.trod enc prog w base spare held n 9 [c5]=some y5:=g5;obtain⟨s5,e5,_⟩:=MX Nd g5;injection e5 with e5 _
  subst e5;replace g6:DataW.trod enc prog w base spare held n 9 [c6]=some y6:=g6;obtain⟨s6,e6,_⟩:=MX Nd g6;injection e6 with e6 _
  subst e6;replace g7:DataW.trod enc prog w base spare held n 9 [c7]=some y7:=g7;obtain⟨s7,e7,_⟩:=MX Nd g7;injection e7 with e7 _
  subst e7;replace g8:DataW.trod enc prog w base spare held n 9 [c8]=some y8:=g8;obtain⟨s8,e8,_⟩:=MX Nd g8;injection e8 with e8 _
  subst e8;replace g9:DataW.trod enc prog w base spare held n 24 [c9]=some y9:=g9;obtain⟨s9,e9,_⟩:=MX NG g9;injection e9 with e9 _
  subst e9;replace g10:DataW.trod enc prog w base spare held n 24 [c10]=some y10:=g10;obtain⟨s10,e10,_⟩:=MX NG g10;injection e10 with e10 _
  subst e10;replace g11:DataW.trod enc prog w base spare held n 24 [c11]=some y11:=g11;obtain⟨s11,e11,_⟩:=MX NG g11;injection e11 with e11 _
  subst e11;replace g12:DataW.trod enc prog w base spare held n 26 [c12,c13]=some y12:=g12;obtain⟨s12,e12⟩:=iE g12;injection e12 with e12a e12b
  injection e12b with e12b _
  subst e12a;subst e12b;replace g13:DataW.trod enc prog w base spare held n 26 [c14,c15]=some y13:=g13;obtain⟨s13,e13⟩:=iE g13;injection e13 with e13a e13b
  injection e13b with e13b _
  subst e13a;subst e13b;replace g14:DataW.trod enc prog w base spare held n 26 [c16,c17]=some y14:=g14;obtain⟨s14,e14⟩:=iE g14;injection e14 with e14a e14b
  injection e14b with e14b _
  subst e14a;subst e14b;replace g15:DataW.trod enc prog w base spare held n 27 [c18]=some y15:=g15;obtain⟨pa,pc,ps,e15,hp,hpc,hpl⟩:=ln (α:=Fr) bC 2 (by decide) dF Rq (by kernel_rfl) (fun n cs y hy=>Az hy) g15;injection e15 with e15 _
  subst e15;replace g16:DataW.trod enc prog w base spare held n 28 [c19]=some y16:=g16;obtain⟨oa,oq,os,e16,ho,hoq,hol⟩:=ln (α:=OptV) fO 7 (by decide) kK underlying28 (by kernel_rfl) (fun n cs y hy=>wd hy) g16;injection e16 with e16 _
  subst e16;replace g17:DataW.trod enc prog w base spare held n 3 [c20]=some y17:=g17;obtain⟨s17,e17,_,w17⟩:=Pm Pw g17;injection e17 with e17 _
  subst e17;exact⟨⟨L s0,s1,s2,s3,s4,L s5,L s6,L s7,L s8,L s9,L s10,L s11,s12,s13,s14,s17⟩,ps,os,pa,oa,pc,oq,by simp[bs_L,ae],⟨hp,hpc,ho,hoq,w4,ke Rq (by rw[show prog.bytesOf 124=32 by kernel_rfl];decide) hwp hpl,ke underlying28 (by rw[show prog.bytesOf 154=112 by kernel_rfl];decide) hwo hol⟩⟩
end
theorem open_fact1{H:Type}{enc:TypeId × Value->H}{r:Reach}{base:Nat}{spare:Nat->Bool}{held:Bool}{v:Value}{d:DataW H}{p:List MemPlace}(hv:Value.okWide prog W r b0 30 v)(h:DataW.Trod enc prog W base spare held 30 v d p)(hw:(d.weights prog 30).all (·<=reachBytes)=true) :
  ∃(f:FactV) (ps:List Fr) (os:List OptV) (pa oa:Option Addr) (pc oq:Nat),v=aC f (ae pa ps.length pc) (ae oa os.length oq)∧FactIn W f ps os pa oa pc oq:=by
 obtain⟨cs,rfl,_⟩:=okWide_struct M3 hv;obtain⟨fuel,hf⟩:=h;obtain⟨f,ps,os,pa,oa,pc,oq,e,hF⟩:=AA hf hw;simp only[Value.cells]at e;exact⟨f,ps,os,pa,oa,pc,oq,M6 Value.agg (Array.toList_inj.1 e),hF⟩
end
end Go.Proofs.YtaegjkllenlfpaaGreatDoor
