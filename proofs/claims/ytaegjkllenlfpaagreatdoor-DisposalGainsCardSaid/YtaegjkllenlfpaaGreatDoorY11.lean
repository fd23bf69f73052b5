/- The seat's texts, part Y11. -/
import Derived.Test.YtaegjkllenlfpaaGreatDoorY10
import Derived.Shelf.SlSortCmp.NoneTotal
set_option maxRecDepth 100000
set_option maxHeartbeats 8000000
namespace Go.Proofs.YtaegjkllenlfpaaGreatDoor
open Tryz
section
theorem ask_drawn{α:Type}(a:Ask α):∀w:World,w.drawn<=(w.ask a).2.drawn:=by
 induction a with
 |done a=>intro w;simp[World.ask]
 |ask what range k ih =>
  intro w;simp only[World.ask];split
  ·exact ih _ _
  ·exact Mx (QQ _) (ih _ { w with drawn:=w.drawn+1 })
theorem sys_drawn(w:World)(c:Sys):w.drawn<=(w.sys c).2.drawn:=by
 unfold World.sys;have:=ask_drawn (Kernel.perform c w.os) w;split
 ·exact Mn _
 ·rename_i h;rw[h]at this;exact this
def resW{α:Type}:Result α->World | .ok _ w=>w | .halt _ w=>w
theorem viewStore_drawn{p:Program}{w w':World}{at_:Addr}{u:TypeId}{k:Addr}{v:Value}{b:Bool}{l:List Addr}(h:w.viewStore p at_ u k v b = .ok (w',l)):w'.drawn=w.drawn:=by
 unfold World.viewStore at h;simp only[bind,Except.bind,pure,Except.pure]at h;repeat' split at h
 all_goals first
  |cases h
  |skip
 all_goals rfl
theorem farStore_drawn{p:Program}{w w':World}{a:Addr}{v:Value}{b:Bool}{l:List Addr}(h:w.farStore p a v b = .ok (w',l)):w'.drawn=w.drawn:=by
 unfold World.farStore at h;split at h
 ·split at h
  ·rename_i r hr;injection h with h;subst h;exact viewStore_drawn hr
  ·cases h
 ·cases h
theorem run_drawn{α:Type}(p:Program)(s:Sem α):∀w:World,w.drawn<=(resW (s.run p w)).drawn:=by
 induction s with
 |pure a=>intro w;simp[Sem.run,resW]
 |load m a k ih =>
  intro w;simp only[Sem.run];repeat' split
  all_goals first|exact ih _ _|exact Mn _
 |store m a v k ih =>
  intro w
  cases v <;> simp only[Sem.run]
  all_goals
   repeat' split
  all_goals first
   |exact Mn _
   |(refine Mx (Sr ?_) (ih _);rfl)
   |(refine Mx (Sr ?_) (ih _);exact(farStore_drawn (by assumption)).symm)
 |new o k ih=>intro w;simp only[Sem.run];exact ih _ { w with heap:=w.heap.push o }
 |shape r k ih=>intro w;simp only[Sem.run];exact ih _ _
 |freeze a n k ih =>
  intro w;simp only[Sem.run];refine Mx (Sr ?_) (ih _);unfold World.freeze;split <;> rfl
 |frozen a k ih=>intro w;simp only[Sem.run];exact ih _ _
 |getObj r k ih =>
  intro w;simp only[Sem.run];split
  all_goals first|exact ih _ _|exact Mn _
 |setObj r o k ih =>
  intro w;simp only[Sem.run];split
  ·exact Mn _
  ·exact ih { w with heap:=w.heap.setIfInBounds r o }
  ·exact Mn _
 |choose q k ih =>
  intro w;simp only[Sem.run];split
  ·exact ih _ _
  ·exact Mx (QQ _) (ih _ { w with drawn:=w.drawn+1 })
 |sys c k ih=>intro w;simp only[Sem.run];exact Mx (sys_drawn w c) (ih _ _)
 |program k ih=>intro w;simp only[Sem.run];exact ih _ _
 |mark m k ih=>intro w;simp only[Sem.run];exact ih _
 |halt h=>intro w;simp[Sem.run,resW]
theorem runT_drawn{α:Type}(p:Program)(s:Sem α)(w:World)(es:Array Event):w.drawn<=(resW (s.runT p w es).1).drawn:=by
 rw[Sem.runT_fst];exact run_drawn p s w
theorem run_ok{α:Type}{p:Program}{s:Sem α}{d:Nat}{w w':World}{a:α}(hd:d<=w.drawn)(h:s.run p w = .ok a w'):d<=w'.drawn:=by
 have:=run_drawn p s w;rw[h]at this;exact Mx hd this
theorem run_halt{α:Type}{p:Program}{s:Sem α}{d:Nat}{w w':World}{a:Halt}(hd:d<=w.drawn)(h:s.run p w = .halt a w'):d<=w'.drawn:=by
 have:=run_drawn p s w;rw[h]at this;exact Mx hd this
theorem runT_ok{α:Type}{p:Program}{s:Sem α}{d:Nat}{w w':World}{es:Array Event}{a:α}(hd:d<=w.drawn)(h:(s.runT p w es).1 = .ok a w'):d<=w'.drawn:=run_ok hd ((Sem.runT_fst p s w es).symm.trans h)
theorem runT_halt{α:Type}{p:Program}{s:Sem α}{d:Nat}{w w':World}{es:Array Event}{a:Halt}(hd:d<=w.drawn)(h:(s.runT p w es).1 = .halt a w'):d<=w'.drawn:=run_halt hd ((Sem.runT_fst p s w es).symm.trans h)
def geG(d:Nat):GStep->Prop
 |.go _ w _=>d<=w.drawn
 |.comm _ _ _ _ w _=>d<=w.drawn
 |.spawn _ _ w _=>d<=w.drawn
 |.count _ w _=>d<=w.drawn
 |.timer _ _ w _=>d<=w.drawn
 |.alone _ _ w _=>d<=w.drawn
 |.newcoro _ _ _ w _=>d<=w.drawn
 |.coroswitch _ _ _ w _=>d<=w.drawn
 |.collect _ w _=>d<=w.drawn
 |.watch _ w _=>d<=w.drawn
 |.ended _ _ _=>True
theorem geG_after{d:Nat}{es:Array Event}{s:GStep}(h:geG d s):geG d (GStep.after es s):=by cases s <;> exact h
section
variable {p:Program} {d:Nat} {w:World}
theorem ge_endPrinting{fr:Frame}{v:Value}(h:d<=w.drawn):geG d (endPrinting p fr v w):=by
 unfold endPrinting;simp only;split
 ·exact h
 ·trivial
theorem ge_endFatal{fr:Frame}{cs:List Frame}{dy:Option Dying}{m:String}(h:d<=w.drawn):geG d (endFatal p fr cs dy m w):=by
 unfold endFatal;simp only;split
 ·rename_i heq;exact run_ok h heq
 ·trivial
 ·trivial
theorem ge_endWith{fd:Nat}{t:ByteArray}{o:Outcome}:geG d (endWith w fd t o):=by
 unfold endWith;simp only;repeat' split
 all_goals trivial
theorem ge_write_aux{fr:Frame}{dy:Dying}{f:Fatal}{rest:List ByteArray}(h:d<=w.drawn)(s:Sem Unit):geG d (match s.runT p w #[] with
  |(.ok _ w,es)=>GStep.go { frame:=fr,callers:=[],status := .running,dying:=some { dy with fatal:=some { f with pieces:=rest,begun:=true } } } w es
  |(.halt .blocked w,_)=>GStep.go { frame:=fr,callers:=[],status := .blocked,dying:=some { dy with fatal:=some f } } w #[]
  |(.halt (.unsupported u) w,_)=>GStep.ended (.unsupported u "") w
  |(.halt _ w,_)=>GStep.ended (.stuck "the report of a fatal error" "") w):=by
 have hr:=Mx h (runT_drawn p s w #[]);generalize Sem.runT p s w #[]=x at *;obtain⟨r,es⟩:=x
 cases r with
 |ok a w'=>exact hr
 |halt a w'=>cases a <;> first|trivial|exact hr
theorem ge_writeOn{fr:Frame}{dy:Dying}{f:Fatal}(h:d<=w.drawn):geG d (writeOn p fr dy f w):=by
 unfold writeOn;split
 ·trivial
 ·exact ge_write_aux h _
theorem ge_die{fr:Frame}{dy:Dying}(h:d<=w.drawn):geG d (die p fr dy w):=by
 unfold die;split
 ·exact ge_writeOn h
 ·split
  ·split
   ·exact h
   ·exact ge_endWith
  ·simp only;split
   ·exact h
   ·split
    ·rename_i heq;exact run_ok h heq
    ·trivial
   ·refine geG_after ?_;split
    ·rename_i heq;exact runT_ok h heq
    ·rename_i heq;exact runT_ok h heq
    ·trivial
    ·rename_i heq;exact ge_endPrinting (runT_halt h heq)
    ·trivial
   ·trivial
theorem ge_doReturn{main:Bool}{fr:Frame}{cs:List Frame}{dy:Option Dying}{v:Value}(h:d<=w.drawn):geG d (doReturn p main fr cs dy v w):=by
 unfold doReturn;repeat' split
 all_goals first|trivial|exact h
theorem ge_callDeferred{fr:Frame}{cs:List Frame}{dy:Option Dying}{df:Deferred}(h:d<=w.drawn):geG d (callDeferred p fr cs dy df w):=by
 unfold callDeferred;have hr:=Mx h (runT_drawn p (invoke df.target df.args) w #[]);generalize Sem.runT p (invoke df.target df.args) w #[]=x at *;obtain⟨r,es⟩:=x;generalize ((df.target matches .nil) && (fr.mode matches .panicking _))=b
 cases b
 ·simp only[Bool.false_eq_true,if_false];refine geG_after ?_;split
  all_goals first
   |trivial
   |exact hr
   |exact ge_endFatal hr
   |(split <;> exact hr)
 ·trivial
theorem ge_unwind{main:Bool}{fr:Frame}{cs:List Frame}{dy:Option Dying}(h:d<=w.drawn):geG d (unwind p main fr cs dy w):=by
 unfold unwind;split
 ·refine geG_after ?_;split
  ·rename_i heq;exact runT_ok h heq
  ·trivial
 ·exact ge_callDeferred h
 ·split
  ·trivial
  ·split
   ·trivial
   ·split
    ·exact h
    ·split
     ·split
      ·exact h
      ·split
       ·rename_i heq;exact run_ok h heq
       ·trivial
       ·trivial
     ·split
      ·exact ge_endPrinting h
      ·trivial
  ·split
   ·exact ge_doReturn h
   ·refine geG_after ?_;split
    ·rename_i heq;exact ge_doReturn (runT_ok h heq)
    ·trivial
    ·trivial
theorem ge_early{fr:Frame}{cs:List Frame}{dy:Option Dying}{g:Nat}(h:d<=w.drawn):geG d (early p fr cs dy g w):=by
 have hx:∀a w',Sem.run p (choose (.early g)) w = .ok a w'->d<=w'.drawn:=fun _ _ e=>run_ok h e
 unfold early;simp only;repeat' split
 all_goals first
  |trivial
  |exact h
  |(rename_i hh;have hq:=hx _ _ hh;exact hq)
  |(rename_i hh _ _ _;have hq:=hx _ _ hh;exact hq)
  |(rename_i hh _;have hq:=hx _ _ hh;exact hq)
  |(rename_i hh _ _;have hq:=hx _ _ hh;exact hq)
  |(rename_i hh _ _ _ _;have hq:=hx _ _ hh;exact hq)
theorem ge_apply{ls:Bool}{fr:Frame}{cs:List Frame}{dy:Option Dying}{s:Sem Next}(h:d<=w.drawn):geG d (stepG.apply p ls fr cs dy s w):=by
 unfold stepG.apply
 have hr:d<=(resW (if ls then s.runT p w #[] else(s.run p w,#[])).1).drawn:=by
  split
  ·exact Mx h (runT_drawn p s w #[])
  ·exact Mx h (run_drawn p s w)
 generalize (if ls then s.runT p w #[] else(s.run p w,#[]))=x at *;obtain⟨r,es⟩:=x;simp only;refine geG_after ?_;split
 all_goals first
  |trivial
  |exact hr
  |exact ge_endFatal hr
  |exact ge_early hr
  |(split <;> first|trivial|exact hr)
  |skip
 all_goals
  repeat' split
 all_goals first
  |trivial
  |exact hr
theorem ge_oper{ls:Bool}{fr:Frame}{cs:List Frame}{dy:Option Dying}(h:d<=w.drawn):geG d (stepG.oper p ls fr cs dy w):=by
 unfold stepG.oper;split
 ·trivial
 ·split <;> exact ge_apply h
theorem ge_leave{main:Bool}{fr:Frame}{cs:List Frame}{dy:Option Dying}{jump:Option Code}(h:d<=w.drawn) :
  geG d (match fr.roundOf with
   |none=>if jump matches none|some .ret then GStep.go { frame:={ fr with mode := .returning },callers:=cs,status := .running,dying:=dy } w else .ended (.stuck "exit, goto: no such block or label" (fr.pos p)) w
   |some l =>
    let (r,es):=(Instr.endRound l jump).runT p w #[]
    GStep.after (seen p fr.fn es) <| match r with
    |.ok v w=>doReturn p main fr cs dy v w
    |.halt _ w => .ended (.stuck "range over a function: no such loop" (fr.pos p)) w):=by
 split
 ·generalize (jump matches none|some .ret)=b
  cases b
  ·trivial
  ·exact h
 ·refine geG_after ?_;split
  ·rename_i heq;exact ge_doReturn (runT_ok h heq)
  ·trivial
theorem ge_leave1{main:Bool}{fr:Frame}{cs:List Frame}{dy:Option Dying}{jump:Option Code}{c:Prop} [Decidable c] {m:String} {e:Nat->Array Event} (h:d<=w.drawn) :
  geG d (match fr.roundOf with
   |none=>if c then GStep.go { frame:={ fr with mode := .returning },callers:=cs,status := .running,dying:=dy } w else .ended (.stuck m (fr.pos p)) w
   |some l =>
    GStep.after (e l) (match (Sem.runT p (Instr.endRound l jump) w #[]).fst with
    |.ok v w=>doReturn p main fr cs dy v w
    |.halt _ w => .ended (.stuck "range over a function: no such loop" (fr.pos p)) w)):=by
 split
 ·split
  ·exact h
  ·trivial
 ·refine geG_after ?_;split
  ·rename_i heq;exact ge_doReturn (runT_ok h heq)
  ·trivial
theorem ge_elim{o:Option (List Item)}{a:GStep}{f:List Item->GStep}(ha:geG d a)(hf:∀k,geG d (f k)):geG d (o.elim a f):=by
 cases o
 ·exact ha
 ·exact hf _
theorem ge_exec{main ls:Bool}{fr:Frame}{cs:List Frame}{dy:Option Dying}(h:d<=w.drawn):geG d (stepG.exec p main ls fr cs dy w):=by
 unfold stepG.exec;simp only;split
 all_goals first
  |trivial
  |exact h
  |exact ge_apply h
  |exact ge_leave1 h
  |exact ge_elim (ge_leave1 h) (fun _=>h)
  |skip
 ·split
  ·exact h
  ·trivial
 ·refine geG_after ?_;split
  ·rename_i heq;exact ge_apply (runT_ok h heq)
  ·trivial
 ·refine geG_after ?_;split
  ·rename_i heq;exact runT_ok h heq
  ·rename_i heq;exact runT_halt h heq
  ·trivial
 ·cases Extern.next _
  ·trivial
  ·exact ge_apply h
 ·split
  ·exact h
  ·split
   ·rename_i heq;exact run_ok h heq
   ·trivial
 ·split
  ·exact ge_oper h
  ·exact h
theorem ge_stepG{main ls:Bool}{g:Goroutine}(h:d<=w.drawn):geG d (stepG p main g w ls):=by
 unfold stepG;obtain⟨fr,cs,st,dy,of⟩:=g;simp only;split
 ·exact ge_die h
 ·exact ge_exec h
 ·exact ge_unwind h
end
def geS(d:Nat):Stepped->Prop
 |.next m=>d<=m.world.drawn
 |.ended _ _=>True
section
variable {p:Program} {d:Nat} {w:World}
theorem waitingAt_drawn{rest:Rest}{cs:Array CommCase}{w':World}(h:waitingAt rest cs w=some w'):w'.drawn=w.drawn:=by
 unfold waitingAt at h;split at h
 ·split at h
  ·injection h with h;subst h;rfl
  ·cases h
 ·injection h with h;subst h;rfl
theorem ge_communicate{rest:Rest}{gs:Array Goroutine}{i:Nat}{g:Goroutine}{cs:Array CommCase}{b:Bool}{sh:CommShape}(h:d<=w.drawn):geS d (communicate p rest gs i g cs b sh w).1:=by
 unfold communicate;simp only;split
 ·trivial
 ·split
  ·split
   ·split
    ·rename_i heq;show d<=World.drawn _;rw[waitingAt_drawn heq];exact h
    ·trivial
   ·exact h
  ·split
   ·trivial
   ·rename_i heq
    have hr:=run_ok h heq;split
    ·split
     ·rename_i heq2;exact run_halt hr heq2
     ·trivial
    ·exact hr
    ·exact hr
    ·split
     ·exact hr
     ·split
      ·rename_i heq2;have hq:=run_ok hr heq2;exact hq
      ·trivial
    ·exact hr
    ·exact hr
    ·trivial
theorem ge_look{gs:Array Goroutine}{rest:Rest}(h:d<=w.drawn):geS d (look p gs rest w):=by
 unfold look;split
 ·simp only;split
  ·trivial
  ·split
   ·trivial
   ·split
    ·rename_i heq;have hq:=run_ok h heq;exact hq
    ·trivial
    ·trivial
 ·trivial
theorem retime_drawn(m:Machine)(k:Nat)(t:Timer)(a b:Nat):(retime m k t a b).2.world.drawn=m.world.drawn:=by
 unfold retime;simp only;split
 ·unfold drain;split <;> rfl
 ·rfl
theorem timerOp_drawn{m m':Machine}{op:TimerOp}{v:Value}(h:timerOp m op = .ok (v,m')):m'.world.drawn=m.world.drawn:=by
 unfold timerOp at h;split at h
 ·split at h
  ·injection h with h;injection h with h1 h2;subst h2;rfl
  ·split at h
   ·split at h
    ·cases h
    ·injection h with h;injection h with h1 h2;subst h2;rfl
   ·cases h
 ·unfold timerOp.named at h;split at h
  ·injection h with h
   have h2:=M6 Prod.snd h;simp only at h2;rw[←h2,retime_drawn]
  ·cases h
 ·split at h
  ·rename_i m1 heq
   unfold timerOp.named at h;split at h
   ·injection h with h
    have h2:=M6 Prod.snd h;simp only at h2;rw[←h2,retime_drawn];unfold timerOp.opened at heq;split at heq
    ·split at heq
     ·injection heq with heq;subst heq;rfl
     ·cases heq
    ·injection heq with heq;subst heq;rfl
   ·cases h
  ·cases h
 ·injection h with h;injection h with h1 h2;subst h2;rfl
theorem ge_runT{m:Machine}{i:Nat}{ls:Bool}(h:d<=m.world.drawn):geS d (runT p m i ls).1:=by
 unfold runT;simp only;generalize hs:stepG p (i == 0) _ m.world ls=s;have hg:=ge_stepG (p:=p) (main:=i == 0) (ls:=ls) (w:=m.world) (d:=d) (g:=(m.gs.swapAt! i { (default:Goroutine) with status := .finished }).1) h;rw[hs]at hg;clear hs
 cases s with
 |ended o w' es=>trivial
 |comm g cs b sh w' es=>exact ge_communicate hg
 |go g w' es=>exact hg
 |spawn g c w' es=>exact hg
 |count g w' es =>
  simp only;split
  ·trivial
  ·exact hg
 |alone g on w' es=>exact hg
 |collect g w' es=>exact ge_look hg
 |watch g w' es=>exact hg
 |newcoro g c dd w' es=>exact hg
 |coroswitch g c ex w' es =>
  simp only;split
  ·exact hg
  ·exact hg
  ·trivial
 |timer g op w' es =>
  simp only;split
  ·rename_i heq
   have:=timerOp_drawn heq;show d<=World.drawn _;rw[this];exact hg
  ·exact hg
  ·trivial
  ·trivial
theorem ge_serve{m:Machine}{k:Nat}(h:d<=m.world.drawn):geS d (serve p m k):=by
 unfold serve;split
 ·trivial
 ·exact h
 ·simp only;split
  ·trivial
  ·exact h
def geM(d:Nat):Move->Prop
 |.goroutine m _=>d<=m.world.drawn
 |.machine s _=>geS d s
theorem ge_pick{m:Machine}{rs:List Nat}(h:d<=m.world.drawn):geM d
   (match (choose (.sched rs.length)).run p m.world with
   |.halt _ w => .machine (.ended (.stuck "sched" "") w)
   |.ok k world =>
    if rs.length<=1 then .goroutine { m with world } (rs.getD k 0) else
    match (choose (.extern "sched.slice" 65536)).run p world with
    |.halt _ w => .machine (.ended (.stuck "sched.slice" "") w)
    |.ok n world => .goroutine { m with world,rest:={ m.rest with slice:=if n=0 then none else some (rs.getD k 0,n) } } (rs.getD k 0)):=by
 split
 ·trivial
 ·rename_i heq
  have hq:=run_ok h heq;split
  ·exact hq
  ·split
   ·trivial
   ·rename_i heq2
    have hq2:=run_ok hq heq2;exact hq2
theorem ge_askOn{m:Machine}(h:d<=m.world.drawn):geM d (askOn p m):=by
 unfold askOn;simp only
 generalize hx:Sem.run p (if(due m.rest.timers m.world.os.mono).isEmpty=true then pure 0
   else choose (.extern "timer.serve" ((due m.rest.timers m.world.os.mono).length+(if((runnable m.gs m.world.os.mono).isEmpty && (ahead m false).isNone)=true then 0 else 1))):Sem Nat) m.world=x
 have hw:d<=(resW x).drawn:=by rw[←hx];exact Mx h (run_drawn p _ _)
 clear hx
 cases x with
 |halt a w'=>trivial
 |ok k w' =>
  have hw':d<=w'.drawn:=hw;simp only;split
  ·exact ge_serve (m:={ m with world:=w' }) hw'
  ·split
   ·split
    ·exact hw'
    ·split
     ·exact hw'
     ·split
      ·trivial
      ·trivial
   ·split
    ·exact ge_pick (m:={ m with world:=w' }) hw'
    ·split
     ·trivial
     ·rename_i heq;exact ge_pick (m:={ m with world:=_ }) (run_ok hw' heq)
     ·rename_i heq;have hq:=run_ok hw' heq;exact hq
     ·rename_i heq
      have hq:=run_ok hw' heq;exact ge_pick (m:=Machine.advanceTo { m with world:=_ } _) hq
theorem ge_ask{m:Machine}(h:d<=m.world.drawn):geM d (ask p m):=by
 unfold ask;split
 ·split
  ·trivial
  ·rename_i heq
   have hl:=ge_look (p:=p) (gs:=m.gs) (rest:=m.rest) (run_ok h heq);split
   ·rename_i heq2;rw[heq2]at hl;exact ge_askOn hl
   ·rename_i e _ heq2;exact hl
  ·rename_i heq;exact ge_askOn (m:={ m with world:=_ }) (run_ok h heq)
 ·exact ge_askOn h
theorem ge_move{m:Machine}(h:d<=m.world.drawn):geM d (move p m):=by
 unfold move;split
 ·split
  ·exact h
  ·trivial
 ·split
  ·split
   ·exact h
   ·exact ge_ask h
  ·exact ge_ask h
theorem ge_step{m:Machine}(h:d<=m.world.drawn):geS d (step p m):=by
 unfold step stepT;have:=ge_move (p:=p) h;split
 ·rename_i heq;rw[heq]at this;exact ge_runT this
 ·rename_i heq;rw[heq]at this;exact this
theorem ge_runN:∀(n:Nat) {m:Machine},d<=m.world.drawn->geS d (runN p n m)
 |0,_,h=>h
 |n+1,m,h=>by
  unfold runN;have:=ge_step (p:=p) h;split
  ·rename_i heq;rw[heq]at this;exact ge_runN n this
  ·rename_i e heq;exact this
theorem steps_drawn{m m':Machine}(h:Steps p m m'):m.world.drawn<=m'.world.drawn:=by
 obtain⟨n,hn⟩:=h;have:=ge_runN (p:=p) n (Mn m.world.drawn);rw[hn]at this
 exact this
theorem calls_drawn{f:FuncId}{args:Array Value}{R:Ending->World->Prop}(h:Calls p f args w R):Calls p f args w (fun e w'=>R e w'∧(∀v,e = .returned v->w.drawn<=w'.drawn)):=by
 intro cs;obtain⟨e,w',fr,hR,hc,h1,h2⟩:=h cs;refine⟨e,w',fr,⟨hR,?_⟩,hc,h1,h2⟩;rintro v rfl;exact steps_drawn hc
end
end
end Go.Proofs.YtaegjkllenlfpaaGreatDoor
namespace Go.Proofs
open Go.Shelf
def Tryz.sortL_ren:Go.Shelf.Ren:=⟨fun | 6=>302 | 15=>347 | 14=>346 | 28=>373 | 29=>341 | 20=>365 | 21=>366 | 22=>367 | 23=>368 | 24=>369 | 25=>370 | 26=>371 | 27=>372 | 46=>380 | 47=>381 | 48=>382 | 49=>383 | 50=>384 | 57=>385|n=>n,fun | 22=>165 | 24=>3 | 25=>303 | 3=>3 | 39=>243 | 0=>0 | 53=>296 | 55=>173 | 4=>4 | 46=>344 | 45=>343 | 50=>66 | 5=>5 | 9=>9 | 66=>358 | 70=>362 | 76=>364 | 77=>365|n=>n,fun|n=>n⟩
theorem Tryz.sortL:Go.Proofs.SlLaysF.n6 Tryz.prog Tryz.sortL_ren:={
 mixed:=by kernel_rfl
 f6:=⟨Tryz.f302.name,by decide,Tryz.func302.trans (congrArg some (by kernel_rfl))⟩
 f14:=⟨Tryz.f346.name,by decide,Tryz.func346.trans (congrArg some (by kernel_rfl))⟩
 f15:=Tryz.func347.trans (congrArg some (by kernel_rfl))
 f20:=⟨Tryz.f365.name,by decide,Tryz.func365.trans (congrArg some (by kernel_rfl))⟩
 f21:=⟨Tryz.f366.name,by decide,Tryz.func366.trans (congrArg some (by kernel_rfl))⟩
 f22:=⟨Tryz.f367.name,by decide,Tryz.func367.trans (congrArg some (by kernel_rfl))⟩
 f23:=⟨Tryz.f368.name,by decide,Tryz.func368.trans (congrArg some (by kernel_rfl))⟩
 f24:=⟨Tryz.f369.name,by decide,Tryz.func369.trans (congrArg some (by kernel_rfl))⟩
 f25:=⟨Tryz.f370.name,by decide,Tryz.func370.trans (congrArg some (by kernel_rfl))⟩
 f26:=⟨Tryz.f371.name,by decide,Tryz.func371.trans (congrArg some (by kernel_rfl))⟩
 f27:=⟨Tryz.f372.name,by decide,Tryz.func372.trans (congrArg some (by kernel_rfl))⟩
 f28:=Tryz.func373.trans (congrArg some (by kernel_rfl))
 f29:=Tryz.func341.trans (congrArg some (by kernel_rfl))
 f46:=⟨Tryz.f380.name,by decide,Tryz.func380.trans (congrArg some (by kernel_rfl))⟩
 f47:=Tryz.func381.trans (congrArg some (by kernel_rfl))
 f48:=Tryz.func382.trans (congrArg some (by kernel_rfl))
 f49:=⟨Tryz.f383.name,by decide,Tryz.func383.trans (congrArg some (by kernel_rfl))⟩
 f50:=⟨Tryz.f384.name,by decide,Tryz.func384.trans (congrArg some (by kernel_rfl))⟩
 f57:=⟨Tryz.f385.name,by decide,Tryz.func385.trans (congrArg some (by kernel_rfl))⟩
 t0:=Tryz.underlying0
 a0:=Tryz.isAgg0
 z0:=Tryz.sizeOf0
 v0:=Tryz.zeroValue0
 t3:=Tryz.underlying3
 a3:=Tryz.isAgg3
 z3:=Tryz.sizeOf3
 v3:=Tryz.zeroValue3
 t4:=Tryz.underlying4
 a4:=Tryz.isAgg4
 z4:=Tryz.sizeOf4
 v4:=Tryz.zeroValue4
 t5:=Tryz.underlying5
 a5:=Tryz.isAgg5
 z5:=Tryz.sizeOf5
 v5:=Tryz.zeroValue5
 t9:=Tryz.underlying9
 a9:=Tryz.isAgg9
 z9:=Tryz.sizeOf9
 v9:=Tryz.zeroValue9
 t22:=Tryz.underlying165
 a22:=Tryz.isAgg165
 z22:=Tryz.sizeOf165
 v22:=Tryz.zeroValue165
 a24:=Tryz.isAgg3
 z24:=Tryz.sizeOf3
 t25:=Tryz.underlying303
 a25:=Tryz.isAgg303
 z25:=Tryz.sizeOf303
 v25:=Tryz.zeroValue303
 t39:=Tryz.underlying243
 a39:=Tryz.isAgg243
 z39:=Tryz.sizeOf243
 v39:=Tryz.zeroValue243
 t45:=Tryz.underlying343
 a45:=Tryz.isAgg343
 z45:=Tryz.sizeOf343
 v45:=Tryz.zeroValue343
 t46:=Tryz.underlying344
 a46:=Tryz.isAgg344
 z46:=Tryz.sizeOf344
 v46:=Tryz.zeroValue344
 t50:=Tryz.underlying66
 a50:=Tryz.isAgg66
 z50:=Tryz.sizeOf66
 v50:=Tryz.zeroValue66
 t53:=Tryz.underlying296
 a53:=Tryz.isAgg296
 z53:=Tryz.sizeOf296
 v53:=Tryz.zeroValue296
 t55:=Tryz.underlying173
 a55:=Tryz.isAgg173
 z55:=Tryz.sizeOf173
 v55:=Tryz.zeroValue173
 t66:=Tryz.underlying358
 a66:=Tryz.isAgg358
 z66:=Tryz.sizeOf358
 v66:=Tryz.zeroValue358
 t70:=Tryz.underlying362
 a70:=Tryz.isAgg362
 z70:=Tryz.sizeOf362
 v70:=Tryz.zeroValue362
 t76:=Tryz.underlying364
 a76:=Tryz.isAgg364
 z76:=Tryz.sizeOf364
 v76:=Tryz.zeroValue364
 t77:=Tryz.underlying365
 a77:=Tryz.isAgg365
 z77:=Tryz.sizeOf365
 v77:=Tryz.zeroValue365 }
end Go.Proofs
namespace Go.Proofs.YtaegjkllenlfpaaGreatDoor
open Tryz
section
open Go.RowKit Go.Shelf
attribute [local go_sem] size_bs toList_bs
def orI(x y:Int):Int:=if x≠0 then x else y
theorem orInt(x y:Int)(b:Nat)(t:TypeId)(w:World)(hB:Blk w b t #[.int .i64 x,.int .i64 y]) :
  Calls prog 227 #[.slice (some ⟨b,0,none⟩) 2 2] w fun e w'=>e = .returned (.int .i64 (orI x y))∧w'=w:=by
 have c0:=hB.cell 0;have c1:=hB.cell 1;simp only[Mk,Mm,Ms]at c0 c1;have HB:=ME hB;clear hB;by_cases hx:x=0
 ·by_cases hy:y=0
  ·subst hx hy;go_enter func227,ntmps227;go_wp2_with fail;refine N4 3 ?_;rw[NN];go_wp2_with fail;rw[NN];go_wp2_with fail;rw[NN];go_wp2_with fail;go_ret;exact⟨rfl,rfl⟩
  ·subst hx;have HO:Hid (orI 0 y=y):=ME (by unfold orI;simp);have g:(y != 0)=true:=by simp[hy]
   clear hy;go_enter func227,ntmps227;go_wp2_with fail;refine N4 3 ?_;rw[NN];go_wp2_with fail;rw[NN];go_wp2_with fail;go_ret;exact⟨by rw[HO.out];rfl,rfl⟩
 ·have HO:Hid (orI x y=x):=ME (by unfold orI;simp[hx]);have g:(x != 0)=true:=by simp[hx]
  clear hx;go_enter func227,ntmps227;go_wp2_with fail;refine N4 3 ?_;rw[NN];go_wp2_with fail;go_ret;exact⟨by rw[HO.out];rfl,rfl⟩
theorem cmpInt_eq(x y:Int):Lib.compareInt x y=cmpI x y:=by unfold Lib.compareInt cmpI;split <;> (try split) <;> (try split) <;> omega
theorem boxCell{W:World}{g:Nat}{t:TypeId}{v:Value}(h:Blk W g t #[v]):W.cell? ⟨g,0,none⟩=some v:=by
 have:=h.cell 0;simpa using this
theorem posLess(rs:List Bs)(hs:∀x ∈ rs,x.length<=100000)(A:Option Addr)(c g:Nat)(i k:Nat)(hi:i<rs.length)(hk:k<rs.length)(w:World)(hE:Env w)(hB:Blk w g 117 #[.slice A rs.length c])(hA:RdS w A rs) :
  Calls prog 303 #[.int .i64 i,.int .i64 k,.pointer (some ⟨g,0,none⟩)] w fun e w'=>e = .returned (.int .i64 (orI (cmpI (valI (rs[k]'hk)) (valI (rs[i]'hi))) (cmpI i k)))∧Ext w w':=by
 have hc:=cmpP (rs[k]'hk) (rs[i]'hi) (hs _ (Ml _)) (hs _ (Ml _));have HC:=ME hc;have HD:=ME (fun W=>cmp_Compare_int (i:Int) (k:Int) W);simp only[cmpInt_eq]at HD;have HO:=ME (fun W b hb=>orInt (cmpI (valI (rs[k]'hk)) (valI (rs[i]'hi))) (cmpI i k) b 3 W hb);obtain⟨b,o,rfl,hb,ci⟩:=hA.at_ hi;obtain⟨b',o',he,hb',ck⟩:=hA.at_ hk;injection he with he
 injection he with e1 e2 _
 subst e1 e2;have HE:=ME hE;have HB:=ME hB;have HA:=ME hA;have hii:(i:Int)<(rs.length:Int):=by omega
 have hkk:(k:Int)<(rs.length:Int):=by omega
 have hi0:(0:Int)<=(i:Int):=by omega
 have hk0:(0:Int)<=(k:Int):=by omega
 have q0:=boxCell hB;have hg:=hB.lt;have HCELL:Hid (∀W,Ext w W->W.cell? ⟨g,0,none⟩=some (.slice (some ⟨b,o,none⟩) rs.length c)∧W.cell? ⟨b,o+i,none⟩=some (.string (bs (rs[i]'hi)))∧W.cell? ⟨b,o+k,none⟩=some (.string (bs (rs[k]'hk)))∧g≠W.heap.size∧b≠W.heap.size∧W.heap.size≠g∧W.heap.size≠b):=ME (fun W hx=>⟨(hx.cell (p:=⟨g,0,none⟩) hg).trans q0,(hx.cell (p:=⟨b,o+i,none⟩) hb).trans ci,(hx.cell (p:=⟨b,o+k,none⟩) hb).trans ck,by have:=hx.size;omega,by have:=hx.size;omega,by have:=hx.size;omega,by have:=hx.size;omega⟩);have hgn:g≠w.heap.size:=by omega
 have hbn:b≠w.heap.size:=by omega
 clear hc hE hB hA hs hb';generalize orI (cmpI (valI (rs[k]'hk)) (valI (rs[i]'hi))) (cmpI i k)=z at *;generalize cmpI (valI (rs[k]'hk)) (valI (rs[i]'hi))=z1 at *;generalize cmpI (i:Int) (k:Int)=z2 at *;generalize rs[k]'hk=rk at *;generalize rs[i]'hi=ri at *;have HX:Hid (Ext w w):=ME (iD w);go_enter func303,ntmps303;go_wp2_with fail;replace HX:Hid (Ext w w.drew):=ME HX.out.drew
 go_region_held3 (fun w'=>w'.cell? ⟨g,0,none⟩=some (.slice (some ⟨b,o,none⟩) rs.length c)∧w'.cell? ⟨b,o+i,none⟩=some (.string (bs ri))∧w'.cell? ⟨b,o+k,none⟩=some (.string (bs rk)))
  (go_keep)
  (first
   |(go_at_call 16;((with_reducible refine(HC.out _ (HE.out.ext HX.out)).mono ?_);rintro e w1⟨rfl,hx⟩);(replace HX:=ME (HX.out.trans hx));(obtain⟨q1,q2,q3,q4,q5,q6,q7⟩:=HCELL.out _ HX.out);clear hx HC)
   |(go_at_call 304;((with_reducible refine(HD.out _).mono ?_);rintro e w2⟨rfl,rfl⟩);clear HD)
   |(go_at_call 227;((with_reducible refine(HO.out _ _ (ID _ _ _)).mono ?_);rintro e w3⟨rfl,rfl⟩);(replace HX:=ME (HX.out.alloc (.cells #[.int .i64 z1,.int .i64 z2] 3)));clear HO))
 all_goals
  go_wp2_with fail;go_ret;exact⟨rfl,HX.out⟩
end
section
open Go.RowKit
attribute [local go_sem] size_bs toList_bs
def RowI(w:World)(g cap:Nat)(gs:List Nat):Prop:=∃cur,Row w g 3 1 gs.length cap (icells gs) cur
theorem RowI.cell{w:World}{g cap:Nat}{gs:List Nat}(h:RowI w g cap gs){k x:Nat}(hk:gs[k]? = some x):w.cell? ⟨g,k,none⟩=some (.int .i64 x):=by
 obtain⟨cur,h⟩:=h;exact h.cell (by simp[icells,hk])
theorem RowI.frozen{w:World}{g cap:Nat}{gs:List Nat}(h:RowI w g cap gs)(k:Nat):w.frozen? ⟨g,k,none⟩=false:=by
 obtain⟨cur,h⟩:=h;exact h.frozen k
theorem RowI.lt{w:World}{g cap:Nat}{gs:List Nat}(h:RowI w g cap gs):g<w.heap.size:=by obtain⟨cur,h⟩:=h;exact h.blk.lt
theorem RowI.ext{w w':World}{g cap:Nat}{gs:List Nat}(h:RowI w g cap gs)(hx:Ext w w'):RowI w' g cap gs:=by obtain⟨cur,h⟩:=h;exact⟨cur,h.ext hx⟩
theorem RowI.set_{w:World}{g cap:Nat}{gs:List Nat}(h:RowI w g cap gs)(k x:Nat)(_hk:k<gs.length):RowI (w.setCell ⟨g,k,none⟩ (.int .i64 x)) g cap (gs.set k x):=by
 obtain⟨cur,h⟩:=h;have h1:=h.blk.set_ k (.int .i64 x);rw[N6]at h1;refine⟨cur.set k (.int .i64 x),h1,by simp[icells],by simpa using h.le,h.big,by simpa using h.full,?_⟩;rw[MM,Rw,h.take];simp[icells]
theorem icells_rep(n:Nat):icells (List.replicate n 0)=List.replicate n (.int .i64 0):=by simp[icells]
theorem RowI.far{w:World}{g cap:Nat}{gs:List Nat}(h:RowI w g cap gs){g':Nat}(hne:g≠g')(k:Nat)(u:Value):RowI (w.setCell ⟨g',k,none⟩ u) g cap gs:=by
 obtain⟨cur,h⟩:=h;exact⟨cur,{ h with blk:=h.blk.far (p:=⟨g',k,none⟩) hne u }⟩
end
section
open Go.RowKit Go.Shelf Go.Sort
theorem ext_grow{w w':World}(h:Ext w w')(hd:w.drawn<=w'.drawn):∃q os,w'=grow (w.drewN q) os:=by
 refine⟨w'.drawn-w.drawn,w'.heap.extract w.heap.size w'.heap.size,?_⟩
 have hh:w'.heap=w.heap++w'.heap.extract w.heap.size w'.heap.size:=by
  apply Array.ext_getElem?;intro i;have hs:=h.size;rw[Array.getElem?_append];split
  ·rename_i hi;exact h.block i hi
  ·rename_i hi
   rw[Array.getElem?_extract];split
   ·congr 1;omega
   ·rw[OS];omega
 have ho:=h.os;have ht:=h.tape;have hu:=h.output
 cases w
 cases w';simp only[grow,World.drewN]at *;subst ho ht hu;congr 1
 omega
theorem sort_only{α:Type} [Inhabited α] (enc:α->Value) (w:World) (blk off m:Nat) (dk:Array α) (os:Array Obj):Only blk w (sortWorld enc w blk off m dk os):=by
 refine⟨rfl,rfl,rfl,?_,?_⟩
 ·simp[sortWorld,grow,putRow,mapBlock,Sort.ahead]
 ·intro k hk hne;have hne:blk≠k:=fun e=>hne (by rw[e])
  simp only[sortWorld,grow,putRow,mapBlock,Sort.ahead];rw[Array.getElem?_append_left (by simpa using hk),Array.getElem?_modify,Mj hne]
theorem cfR_or(rs:List Bs)(x y:Fin (rs.map valI).length)(hx:x.val<rs.length)(hy:y.val<rs.length):cfR (rs.map valI) x y=orI (cmpI (valI (rs[y.val]'hy)) (valI (rs[x.val]'hx))) (cmpI (x.val:Int) (y.val:Int)):=by
 unfold cfR orI;simp only[Fin.getElem_fin,Ry]
theorem swoR(r:List Int):SWO (ltOf (cfR r)):=by
 have e:ltOf (cfR r)=ltR r:=rfl;rw[e];refine⟨?_,?_,?_⟩
 ·intro x;rw[←Oa,ltR_iff];omega
 ·intro x y z;rw[ltR_iff,ltR_iff,ltR_iff];omega
 ·intro x y z;rw[←Oa,←Oa,←Oa,ltR_iff,ltR_iff,ltR_iff];omega
theorem posSort(rs:List Bs)(hs:∀x ∈ rs,x.length<=100000)(h0:0<rs.length)(hn:rs.length<=100000)(A:Option Addr)(c g bI cap:Nat)(w:World)(hK:∀W,Only bI w W->Env W∧Blk W g 117 #[.slice A rs.length c]∧RdS W A rs)
  (hI:RowI w bI cap (List.range rs.length)) :
  Calls prog 302 #[.slice (some ⟨bI,0,none⟩) rs.length cap,.func (.func 303) #[] #[.pointer (some ⟨g,0,none⟩)]] w fun e w' =>
   e = .returned (.tuple #[])∧Only bI w w'∧RdI w' (some ⟨bI,0,none⟩) ((ordR (rs.map valI)).map (·.val)):=by
 have hl:(rs.map valI).length=rs.length:=Nb ..;haveI:Inhabited (Fin (rs.map valI).length):=⟨⟨0,by omega⟩⟩
 let enc:Fin (rs.map valI).length->Value:=fun i => .int .i64 (i.val:Int)
 have hsz:(List.finRange (rs.map valI).length).toArray.size=rs.length:=by simp
 have hH:Holds enc w bI 0 (List.finRange (rs.map valI).length).toArray:=by
  intro j hj;rw[hsz]at hj;refine⟨?_,hI.frozen _⟩;rw[MV,hI.cell (k:=j) (x:=j) (by simp[hj])];rw[getElem!_pos _ j (by rw[hsz];exact hj)];simp[enc]
 have hcmp:CmpLays1 prog 303 #[.pointer (some ⟨g,0,none⟩)] enc (cfR (rs.map valI)) bI 0 (List.finRange (rs.map valI).length).toArray.size w:=by
  intro m os dk _ x y;obtain⟨hE,hB,hA⟩:=hK _ (sort_only enc w bI 0 m dk os);refine(calls_drawn (posLess rs hs A c g x.val y.val (by omega) (by omega) _ hE hB hA)).mono ?_;rintro e w'⟨⟨rfl,hx'⟩,hd⟩;exact⟨by rw[cfR_or rs x y (by omega) (by omega)],ext_grow hx' (hd _ rfl)⟩
 have h:=Any.slices_SortFunc_total sortL enc (fun _=>rfl) (cfR (rs.map valI)) (swoR _) 303 #[.pointer (some ⟨g,0,none⟩)] bI 0 cap (List.finRange (rs.map valI).length).toArray w (fun _ _=>by rfl) hcmp hH hI.lt (by rw[hsz];omega) (by
  intro x y h1 h2;have e:ltOf (cfR (rs.map valI))=ltR (rs.map valI):=rfl;rw[e,←Oa,ltR_iff]at h1 h2;apply Fin.ext;omega)
 rw[hsz]at h;refine h.mono ?_;rintro e w'⟨rfl,m,os,rfl⟩;refine⟨rfl,sort_only _ _ _ _ _ _ _,?_⟩;have hl2:(ordR (rs.map valI)).length=rs.length:=by rw[ordR_len,hl]
 have hh:=holds_sortWorld enc w bI 0 m _ (ordR (rs.map valI)).toArray os hI.lt hH (by simp[hl2]);have ho:=sort_only enc w bI 0 m (ordR (rs.map valI)).toArray os;refine⟨by simp[icells],fun _=>⟨bI,0,rfl,M5 hI.lt ho.size,?_⟩⟩;intro j u hu
 have hj:j<(ordR (rs.map valI)).length:=by
  have:=(Nk.1 hu).1;simpa[icells] using this
 have:=(hh j (by simpa using hj)).1;refine(show _=_ from this).trans ?_;rw[←hu,getElem!_pos _ j (by simpa using hj)];simp[icells,enc,hj]
end
section
open Go.RowKit
attribute [local go_sem] size_bs toList_bs
def RowS(w:World)(g cap:Nat)(gs:List Bs):Prop:=∃cur,Row w g 24 1 gs.length cap (scells gs) cur
section
variable {w w':World} {g cap:Nat} {gs:List Bs}
theorem RowS.cell(h:RowS w g cap gs){k:Nat}{x:Bs}(hk:gs[k]? = some x):w.cell? ⟨g,k,none⟩=some (.string (bs x)):=by
 obtain⟨cur,h⟩:=h;exact h.cell (by simp[scells,hk])
theorem RowS.frozen(h:RowS w g cap gs)(k:Nat):w.frozen? ⟨g,k,none⟩=false:=by
 obtain⟨cur,h⟩:=h;exact h.frozen k
theorem RowS.lt(h:RowS w g cap gs):g<w.heap.size:=by obtain⟨cur,h⟩:=h;exact h.blk.lt
theorem RowS.reads(h:RowS w g cap gs):RdS w (some ⟨g,0,none⟩) gs:=by obtain⟨cur,h⟩:=h;exact h.reads
theorem RowS.ext(h:RowS w g cap gs)(hx:Ext w w'):RowS w' g cap gs:=by obtain⟨cur,h⟩:=h;exact⟨cur,h.ext hx⟩
theorem RowS.set_(h:RowS w g cap gs)(k:Nat)(x:Bs):RowS (w.setCell ⟨g,k,none⟩ (.string (bs x))) g cap (gs.set k x):=by
 obtain⟨cur,h⟩:=h;have h1:=h.blk.set_ k (.string (bs x));rw[N6]at h1;refine⟨cur.set k (.string (bs x)),h1,by simp[scells],by simpa using h.le,h.big,by simpa using h.full,?_⟩;rw[MM,Rw,h.take];simp[scells]
theorem RowS.far(h:RowS w g cap gs){g':Nat}(hne:g≠g')(k:Nat)(u:Value):RowS (w.setCell ⟨g',k,none⟩ u) g cap gs:=by
 obtain⟨cur,h⟩:=h;exact⟨cur,{ h with blk:=h.blk.far (p:=⟨g',k,none⟩) hne u }⟩
theorem RowS.only(h:RowS w g cap gs){g':Nat}(ho:Only g' w w')(hne:g≠g'):RowS w' g cap gs:=by
 obtain⟨cur,h⟩:=h;exact⟨cur,{ h with blk:=(ho.block g h.blk.lt (by intro e;injection e with e;exact hne e)).trans h.blk }⟩
theorem RowS.new{n:Nat}(hn:n<=3000000)(h:Blk w g 24 (List.replicate n (Value.string ⟨#[]⟩)).toArray):RowS w g n (List.replicate n []):=by
 refine⟨List.replicate n (.string ⟨#[]⟩),h,by simp[scells],by simp,by unfold maxLen;simp;omega,by simp,?_⟩;simp only[List.length_replicate,QR,List.take_replicate,Nat.min_self,scells,List.map_replicate];rfl
end
theorem RowI.new{w:World}{g n:Nat}(hn:n<=3000000)(h:Blk w g 3 (List.replicate n (Value.int .i64 0)).toArray):RowI w g n (List.replicate n 0) :=
 ⟨List.replicate n (.int .i64 0),h,by rw[icells_rep];simp,by simp,by unfold maxLen;simp;omega,by simp,by rw[icells_rep];simp⟩
theorem strInfo:(prog.info? 24).map (fun i=>(i.zero,i.size,i.bytes))=some (some (.string ⟨#[]⟩),1,16):=by kernel_rfl
theorem makeS(n:Nat)(hn:n<=3000000)(w:World):(Instr.makeSlice 117 (.int .i64 (n:Int)) (.int .i64 (n:Int))).run prog w = .ok (.slice (some ⟨w.heap.size,0,none⟩) n n) (w.alloc (.cells (List.replicate n (Value.string ⟨#[]⟩)).toArray 24)):=by
 obtain⟨i0,hI,hz0,hz1,hz2⟩:=Ny strInfo;have h:=run_make (P:=prog) w 117 24 i0 _ underlying117 hI hz0 .i64 .i64 (n:Int) (n:Int) (by omega) (by omega) (by rw[hz2];omega) (by omega);rw[hz1,NP,QR]at h
 have e:madeCells (Value.string ⟨#[]⟩).cells n=(List.replicate n (Value.string ⟨#[]⟩)).toArray:=by
  rw[←RO];rfl
 rw[e]at h;exact h
theorem makeI2(n:Nat)(hn:n<=3000000)(w:World):(Instr.makeSlice 165 (.int .i64 (n:Int)) (.int .i64 (n:Int))).run prog w = .ok (.slice (some ⟨w.heap.size,0,none⟩) n n) (w.alloc (.cells (List.replicate n (Value.int .i64 0)).toArray 3)):=by
 obtain⟨i0,hI,hz0,hz1,hz2⟩:=Ny i64Info;have h:=run_make (P:=prog) w 165 3 i0 _ Qt hI hz0 .i64 .i64 (n:Int) (n:Int) (by omega) (by omega) (by rw[hz2];omega) (by omega);rw[hz1,NP,QR]at h
 have e:madeCells (Value.int .i64 0).cells n=(List.replicate n (Value.int .i64 0)).toArray:=by
  rw[←RO];rfl
 rw[e]at h;exact h
def mixL{α:Type}(l:List α)(d:α)(k:Nat):List α:=l.take k++List.replicate (l.length-k) d
section
variable {α:Type} {l:List α} {d:α} {k:Nat}
theorem mixL_len(hk:k<=l.length):(mixL l d k).length=l.length:=by simp[mixL];omega
theorem mixL_zero:mixL l d 0=List.replicate l.length d:=by simp[mixL]
theorem mixL_full:mixL l d l.length=l:=by simp[mixL]
theorem mixL_at(hk:k<l.length):(mixL l d k)[k]? = some d:=by
 have e:(l.take k).length=k:=by rw[Mu];omega
 unfold mixL;rw[NK (by omega),e,Pq,List.getElem?_replicate,Mq (by omega)]
theorem mixL_set(hk:k<l.length):(mixL l d k).set k (l[k]'hk)=mixL l d (k+1):=by
 have e:(l.take k).length=k:=by rw[Mu];omega
 unfold mixL;rw[Nx _ _ (by omega),e,Pq,Mo hk,Mz];congr 1
 obtain⟨m,hm⟩:∃m,l.length-k=m+1:=⟨l.length-k-1,by omega⟩;rw[hm,show l.length-(k+1)=m by omega,List.replicate_succ];rfl
end
def ThreeAt(n:Nat)(w:World)(s6 s7:Value)(wx:World):Prop :=
 ∃P R G,s6 = .slice (some ⟨P,0,none⟩) n n∧s7 = .pointer (some ⟨G,0,none⟩)∧P≠R∧P≠G∧R≠G∧w.heap.size<=P∧w.heap.size<=R∧w.heap.size<=G ∧
   RowS wx P n (List.replicate n [])∧RowS wx R n (List.replicate n [])∧Blk wx G 117 #[.slice (some ⟨R,0,none⟩) n n]∧Ext w wx
end
end Go.Proofs.YtaegjkllenlfpaaGreatDoor
