/- The seat's texts, part Y19. -/
import Derived.Test.YtaegjkllenlfpaaGreatDoorY18
set_option maxRecDepth 100000
set_option maxHeartbeats 8000000
namespace Go.Proofs.YtaegjkllenlfpaaGreatDoor
open Tryz
variable {d i b s:Nat}
section
open Go.RowKit
def ma:List (Nat × KK):=[(0,.mm),
 (2,.lv false false),
 (4,.am),
 (5,.wc),
 (6,.tm),
 (15,.mm),
 (16,.am),
 (17,.ka [100,101,112,111,115,105,116]),
 (18,.am),
 (19,.ka [119,105,116,104,100,114,97,119]),
 (20,.mk),
 (21,.tn 6 []),
 (22,.sl [0]),
 (23,.kd [98,117,121] 3 [true,false,false,false,true,true,true,false,false,false,false,false,false] (some 6) false),
 (24,.mk),
 (25,.tn 6 []),
 (26,.sl [0,10]),
 (27,.kd [115,101,108,108] 3 [true,false,false,false,true,true,true,false,false,false,true,false,false] (some 6) false),
 (28,.mk),
 (29,.nm [(20,7,true,false)]),
 (30,.lv true false),
 (31,.tn 29 [(20,7,true,false)]),
 (32,.sl [0]),
 (33,.kd [105,110,99,111,109,101] 1 [true,false,false,false,false,false,false,true,false,false,false,false,false] (some 29) false),
 (34,.am),
 (35,.ka [101,120,112,101,110,115,101]),
 (36,.wc),
 (37,.mk),
 (38,.nm [(32,4,true,false),(34,5,true,false)]),
 (39,.lv true false),
 (40,.lv true false),
 (41,.tn 38 [(32,4,true,false),(34,5,true,false)]),
 (42,.sl [1,2]),
 (43,.kd [99,111,110,118,101,114,116] 2 [false,true,true,false,true,true,false,false,false,false,false,false,false] (some 38) false),
 (44,.kd [99,111,110,118,101,114,116] 2 [false,true,true,false,true,true,false,false,false,false,false,false,false] (some 38) true),
 (45,.mk),
 (46,.nm [(43,7,false,false),(45,8,true,false)]),
 (47,.lv false false),
 (48,.lv true false),
 (49,.tn 46 [(43,7,false,false),(45,8,true,false)]),
 (50,.sl [0]),
 (51,.kd [115,112,108,105,116] 1 [true,false,false,false,false,false,false,true,true,false,false,false,false] (some 46) false),
 (52,.mk),
 (53,.nm [(53,7,false,false),(55,8,true,false),(57,9,false,true)]),
 (54,.lv false false),
 (55,.lv true false),
 (56,.lv false true),
 (57,.tn 53 [(53,7,false,false),(55,8,true,false),(57,9,false,true)]),
 (58,.sl [0,1]),
 (59,.kd [115,112,105,110,111,102,102] 1 [true,true,false,false,false,false,false,true,true,true,false,false,false] (some 53) false),
 (60,.mk),
 (61,.sl [0,11]),
 (62,.kd [101,120,99,104,97,110,103,101] 1 [true,false,false,false,false,false,false,false,false,false,false,true,false] none false),
 (63,.mk),
 (64,.sl [0,3,12]),
 (65,.kd [101,108,101,99,116] 4 [true,false,false,true,false,false,false,false,false,false,false,false,true] none false),
 (66,.mk),
 (67,.nm [(73,4,true,false),(75,7,false,false),(77,8,true,false)]),
 (68,.lv true false),
 (69,.lv false false),
 (70,.lv true false),
 (71,.tn 67 [(73,4,true,false),(75,7,false,false),(77,8,true,false)]),
 (72,.sl [0,1]),
 (73,.kd [101,120,101,114,99,105,115,101] 3 [true,true,false,false,true,false,false,true,true,false,false,false,false] (some 67) false),
 (74,.mk),
 (75,.nm [(85,7,true,false)]),
 (76,.lv true false),
 (77,.tn 75 [(85,7,true,false)]),
 (78,.sl [0]),
 (79,.kd [99,97,112,105,116,97,108] 1 [true,false,false,false,false,false,false,true,false,false,false,false,false] (some 75) false),
 (80,.mk),
 (81,.nm [(93,7,false,false)]),
 (82,.lv false false),
 (83,.tn 81 [(93,7,false,false)]),
 (84,.sl [0]),
 (85,.kd [99,97,108,108] 1 [true,false,false,false,false,false,false,true,false,false,false,false,false] (some 81) false),
 (86,.mk),
 (87,.nm [(101,7,false,false)]),
 (88,.lv false false),
 (89,.tn 87 [(101,7,false,false)]),
 (90,.sl [0]),
 (91,.kd [112,114,105,99,101] 4 [true,false,false,false,false,false,false,true,false,false,false,false,false] (some 87) false),
 (92,.wc),
 (93,.mk),
 (94,.nm [(110,8,true,false)]),
 (95,.lv true false),
 (96,.tn 94 [(110,8,true,false)]),
 (97,.sl [1,2]),
 (98,.kd [114,97,116,101] 4 [false,true,true,false,false,false,false,false,true,false,false,false,false] (some 94) false),
 (99,.kd [114,97,116,101] 4 [false,true,true,false,false,false,false,false,true,false,false,false,false] (some 94) true),
 (100,.am),
 (101,.ka [105,115,115,117,101]),
 (102,.am),
 (103,.ka [99,97,110,99,101,108]),
 (104,.mm)]
def jV(s:Nat):KK:=(ma.lookup s).getD .no
def kL:List (Nat × Nat × Nat):=[(3,1,17),(6,2,19),(11,3,23),(16,4,27),(24,5,33),(27,6,35),(39,7,44),(49,8,51),(61,9,59),(65,10,62),(69,11,65),(81,12,73),(89,13,79),(97,14,85),(105,15,91),(115,16,99),(118,17,101),(121,18,103)]
def Hf:List (Nat × Nat):=[(0,123),(15,0),(16,1),(17,2),(18,4),(19,5),(20,7),(21,8),(22,9),(23,10),(24,12),(25,13),(26,14),(27,15),(28,17),(29,18),(30,19),(31,21),(32,22),(33,23),(34,25),(35,26),(36,28),(37,29),(38,30),(39,31),(40,33),(41,35),(42,36),(43,37),(44,38),(45,40),(46,41),(47,42),(48,44),(49,46),(50,47),(51,48),(52,50),(53,51),(54,52),(55,54),(56,56),(57,58),(58,59),(59,60),(60,62),(61,63),(62,64),(63,66),(64,67),(65,68),(66,70),(67,71),(68,72),(69,74),(70,76),(71,78),(72,79),(73,80),(74,82),(75,83),(76,84),(77,86),(78,87),(79,88),(80,90),(81,91),(82,92),(83,94),(84,95),(85,96),(86,98),(87,99),(88,100),(89,102),(90,103),(91,104),(92,106),(93,107),(94,108),(95,109),(96,111),(97,112),(98,113),(99,114),(100,116),(101,117),(102,119),(103,120),(104,122)]
structure KSp where
 word:Bs
 cl:Int
 bits:List Bool
 code:Bool
 nums:Option lK
def iX:List (Nat × KSp):=[(1,⟨[100,101,112,111,115,105,116],2,ew,false,some [(5,true,false)]⟩),
 (2,⟨[119,105,116,104,100,114,97,119],2,ew,false,some [(5,true,false)]⟩),
 (3,⟨[98,117,121],3,[true,false,false,false,true,true,true,false,false,false,false,false,false],false,some jQ⟩),
 (4,⟨[115,101,108,108],3,[true,false,false,false,true,true,true,false,false,false,true,false,false],false,some jQ⟩),
 (5,⟨[105,110,99,111,109,101],1,[true,false,false,false,false,false,false,true,false,false,false,false,false],false,some [(7,true,false)]⟩),
 (6,⟨[101,120,112,101,110,115,101],2,ew,false,some [(5,true,false)]⟩),
 (7,⟨[99,111,110,118,101,114,116],2,[false,true,true,false,true,true,false,false,false,false,false,false,false],true,some [(4,true,false),(5,true,false)]⟩),
 (8,⟨[115,112,108,105,116],1,[true,false,false,false,false,false,false,true,true,false,false,false,false],false,some [(7,false,false),(8,true,false)]⟩),
 (9,⟨[115,112,105,110,111,102,102],1,[true,true,false,false,false,false,false,true,true,true,false,false,false],false,some [(7,false,false),(8,true,false),(9,false,true)]⟩),
 (10,⟨[101,120,99,104,97,110,103,101],1,[true,false,false,false,false,false,false,false,false,false,false,true,false],false,none⟩),
 (11,⟨[101,108,101,99,116],4,[true,false,false,true,false,false,false,false,false,false,false,false,true],false,none⟩),
 (12,⟨[101,120,101,114,99,105,115,101],3,[true,true,false,false,true,false,false,true,true,false,false,false,false],false,some [(4,true,false),(7,false,false),(8,true,false)]⟩),
 (13,⟨[99,97,112,105,116,97,108],1,[true,false,false,false,false,false,false,true,false,false,false,false,false],false,some [(7,true,false)]⟩),
 (14,⟨[99,97,108,108],1,[true,false,false,false,false,false,false,true,false,false,false,false,false],false,some [(7,false,false)]⟩),
 (15,⟨[112,114,105,99,101],4,[true,false,false,false,false,false,false,true,false,false,false,false,false],false,some [(7,false,false)]⟩),
 (16,⟨[114,97,116,101],4,[false,true,true,false,false,false,false,false,true,false,false,false,false],true,some [(8,true,false)]⟩),
 (17,⟨[105,115,115,117,101],2,ew,false,some [(5,true,false)]⟩),
 (18,⟨[99,97,110,99,101,108],2,ew,false,some [(5,true,false)]⟩)]
theorem qF:∀ {l:List (Nat × KK)} {a:Nat} {b:KK},l.lookup a=some b->(a,b) ∈ l
 |[],_,_,h=>by cases h
 |(x,y) :: r,a,b,h=>by
  rw[List.lookup_cons]at h
  cases e:a == x
  ·rw[e]at h;exact .tail _ (qF h)
  ·rw[e]at h
   cases h;have:a=x:=by simpa using e
   subst this
   exact .head _
theorem rI{es:List (Nat × Nat × Bool × Bool)}(h:jV d = .nm es):(d,KK.nm es) ∈ ma:=by
 unfold jV at h
 cases e:ma.lookup d with
 |none=>rw[e]at h;cases h
 |some k =>
  rw[e]at h;have:k = .nm es:=h;subst this
  exact qF e
theorem az(i:Nat)(h:(ma.all fun p=>match p.2 with | .nm es=>es.all (fun e=>e.1 != i) | _=>true)=true):NI jV i:=fun d es hd e he=>by
 rw[Nm]at h;have h1:=h _ (rI hd);dsimp only at h1;rw[Nm]at h1;simpa using h1 e he
theorem gZ(i m:Nat)(h:(ma.all fun p=>p.1 == m || match p.2 with | .nm es=>es.all (fun e=>e.1 != i) | _=>true)=true):∀d es',d≠m->jV d = .nm es'->∀e ∈ es',e.1≠i:=fun d es hne hd e he=>by
 rw[Nm]at h;have h1:=h _ (rI hd);dsimp only at h1;rw[show(d == m)=false by simpa using hne,Bool.false_or,Nm]at h1;simpa using h1 e he
theorem aA(i:Nat)(h:(kL.all fun e=>e.1 != i)=true):jG kL i:=fun e he=>by
 rw[Nm]at h;simpa using h e he
theorem Ls:((List.range dv.size).all fun i=>match dv[i]? with|some o=>(match o.dst with|some d=>Hf.lookup d == some i && decide (d<105)|none=>true)|none=>true)=true:=by kernel_rfl
theorem rJ{o:Oper}(ho:dv[i]? = some o)(hd:o.dst=some d):Hf.lookup d=some i∧d<105:=by
 have h:=Ls;rw[Nm]at h
 have hlt:i<dv.size:=by
  rcases Nw i dv.size with h|h
  ·exact h
  ·rw[OS h]at ho;cases ho
 have h1:=h i (RU.2 hlt);rw[ho]at h1;dsimp only at h1;rw[hd]at h1;simpa using h1
theorem ah:Uniq dv:=by
 refine⟨fun i j oi oj d h1 h2 h3 h4=>?_,fun i o d h1 h2=>?_⟩
 ·have e1:=(rJ h1 h3).1;have e2:=(rJ h2 h4).1;rw[e1]at e2
  cases e2;rfl
 ·obtain⟨e1,e2⟩:=rJ h1 h2;refine⟨?_,?_,?_,?_,?_,?_,e2⟩ <;> (rintro rfl;exact absurd (show(none:Option Nat)=some i from e1) (by simp))
abbrev SN(c:KC)(f:Nat)(listed:Array Bool)(bm:Option Nat)(a:Act)(w:World)(Q:Exit->Act->World->Prop)(i:Nat):Prop:=KInv c jV kL dv (f+1) listed bm a w->i ∈ Region.ready .any dv listed->f<=190->wpOp prog dv Q i (cY c jV kL dv f (listed.setIfInBounds i true)) a w
section
variable {c:KC} {f:Nat} {listed:Array Bool} {bm:Option Nat} {a:Act} {w:World} {Q:Exit->Act->World->Prop}
theorem Lu:SN c f listed bm a w Q 0:=fun h hi h190 =>
 Cg ah h hi rfl rfl (az _ rfl) (aA _ rfl) h190 _ 15 rfl rfl rfl (by kernel_rfl)
theorem Lv:SN c f listed bm a w Q 1:=fun h hi _h190 =>
 di ah h hi rfl rfl (az _ rfl) (aA _ rfl) 4 16 (.inl rfl) rfl (.inl (.inr (.inl rfl))) rfl rfl
theorem Lw:SN c f listed bm a w Q 2:=fun h hi _h190 =>
 qE ah h hi rfl rfl (az _ rfl) (aA _ rfl) 16 17 _ _ _ rfl rfl rfl rfl (ad hi rfl 1 rfl rfl rfl) rfl
theorem Lx:SN c f listed bm a w Q 3:=fun h hi h190 =>
 cw ah h hi rfl rfl 15 17 1 _ (az _ rfl) rfl (fun _=>rfl) rfl (ad hi rfl 0 rfl rfl rfl) rfl (ad hi rfl 2 rfl rfl rfl) (by decide) (by decide) (by decide) (by decide)
theorem Ly:SN c f listed bm a w Q 4:=fun h hi _h190 =>
 di ah h hi rfl rfl (az _ rfl) (aA _ rfl) 4 18 (.inl rfl) rfl (.inl (.inr (.inl rfl))) rfl rfl
theorem Lz:SN c f listed bm a w Q 5:=fun h hi _h190 =>
 qE ah h hi rfl rfl (az _ rfl) (aA _ rfl) 18 19 _ _ _ rfl rfl rfl rfl (ad hi rfl 4 rfl rfl rfl) rfl
theorem LA:SN c f listed bm a w Q 6:=fun h hi h190 =>
 cw ah h hi rfl rfl 15 19 2 _ (az _ rfl) rfl (fun _=>rfl) rfl (ad hi rfl 0 rfl rfl rfl) rfl (ad hi rfl 5 rfl rfl rfl) (by decide) (by decide) (by decide) (by decide)
theorem LB:SN c f listed bm a w Q 7:=fun h hi _h190 =>
 cZ ah h hi rfl rfl (az _ rfl) (aA _ rfl) 20 rfl rfl rfl
theorem LC:SN c f listed bm a w Q 8:=fun h hi h190 =>
 dP ah h hi rfl rfl (az _ rfl) (aA _ rfl) 6 21 _ rfl rfl (.inl (.inr (.inr (.inr rfl)))) rfl (by kernel_rfl)
theorem LD:SN c f listed bm a w Q 9:=fun h hi _h190 =>
 l7 ah h hi rfl rfl (az _ rfl) (aA _ rfl) 0 22 rfl rfl rfl
theorem Jd:SN c f listed bm a w Q 10:=fun h hi h190 =>
 zy ah h hi rfl rfl (az _ rfl) (aA _ rfl) 20 21 22 23 _ _ _ _ _ _ _ rfl rfl rfl rfl (ad hi rfl 7 rfl rfl rfl) rfl (ad hi rfl 8 rfl rfl rfl) rfl rfl (ad hi rfl 9 rfl rfl rfl) rfl (by decide) (by decide) rfl
theorem Je:SN c f listed bm a w Q 11:=fun h hi h190 =>
 cw ah h hi rfl rfl 15 23 3 _ (az _ rfl) rfl (fun _=>rfl) rfl (ad hi rfl 0 rfl rfl rfl) rfl (ad hi rfl 10 rfl rfl rfl) (by decide) (by decide) (by decide) (by decide)
theorem Jf:SN c f listed bm a w Q 12:=fun h hi _h190 =>
 cZ ah h hi rfl rfl (az _ rfl) (aA _ rfl) 24 rfl rfl rfl
theorem Jg:SN c f listed bm a w Q 13:=fun h hi h190 =>
 dP ah h hi rfl rfl (az _ rfl) (aA _ rfl) 6 25 _ rfl rfl (.inl (.inr (.inr (.inr rfl)))) rfl (by kernel_rfl)
theorem Jh:SN c f listed bm a w Q 14:=fun h hi _h190 =>
 l8 ah h hi rfl rfl (az _ rfl) (aA _ rfl) 0 10 26 rfl rfl rfl
theorem Ji:SN c f listed bm a w Q 15:=fun h hi h190 =>
 zy ah h hi rfl rfl (az _ rfl) (aA _ rfl) 24 25 26 27 _ _ _ _ _ _ _ rfl rfl rfl rfl (ad hi rfl 12 rfl rfl rfl) rfl (ad hi rfl 13 rfl rfl rfl) rfl rfl (ad hi rfl 14 rfl rfl rfl) rfl (by decide) (by decide) rfl
theorem Jj:SN c f listed bm a w Q 16:=fun h hi h190 =>
 cw ah h hi rfl rfl 15 27 4 _ (az _ rfl) rfl (fun _=>rfl) rfl (ad hi rfl 0 rfl rfl rfl) rfl (ad hi rfl 15 rfl rfl rfl) (by decide) (by decide) (by decide) (by decide)
theorem Jk:SN c f listed bm a w Q 17:=fun h hi _h190 =>
 cZ ah h hi rfl rfl (az _ rfl) (aA _ rfl) 28 rfl rfl rfl
theorem Jl:SN c f listed bm a w Q 18:=fun h hi h190 =>
 fi ah h hi rfl rfl (az _ rfl) (aA _ rfl) h190 _ 29 _ rfl rfl rfl (by kernel_rfl)
theorem Jm:SN c f listed bm a w Q 19:=fun h hi _h190 =>
 fh ah h hi rfl rfl (az _ rfl) (aA _ rfl) 30 rfl rfl rfl
theorem Jn:SN c f listed bm a w Q 20:=fun h hi h190 =>
 dc ah h hi rfl rfl 29 30 7 _ _ _ _ (gZ _ _ rfl) (aA _ rfl) rfl (fun _=>rfl) rfl (ad hi rfl 18 rfl rfl rfl) rfl (ad hi rfl 19 rfl rfl rfl) rfl (by decide) (by decide) (by decide) (by decide)
theorem Jo:SN c f listed bm a w Q 21:=fun h hi h190 =>
 dP ah h hi rfl rfl (az _ rfl) (aA _ rfl) 29 31 _ rfl rfl (ad hi rfl 18 rfl rfl rfl) rfl (by kernel_rfl)
theorem Jp:SN c f listed bm a w Q 22:=fun h hi _h190 =>
 l7 ah h hi rfl rfl (az _ rfl) (aA _ rfl) 0 32 rfl rfl rfl
theorem Jq:SN c f listed bm a w Q 23:=fun h hi h190 =>
 j8 ah h hi rfl rfl (az _ rfl) (aA _ rfl) 28 31 32 33 _ _ _ _ _ _ _ _ rfl rfl rfl rfl (ad hi rfl 17 rfl rfl rfl) rfl (ad hi rfl 21 rfl rfl rfl) rfl rfl (ad hi rfl 22 rfl rfl rfl) rfl (by decide) (by decide) (by decide) rfl
theorem Jr:SN c f listed bm a w Q 24:=fun h hi h190 =>
 cw ah h hi rfl rfl 15 33 5 _ (az _ rfl) rfl (fun _=>rfl) rfl (ad hi rfl 0 rfl rfl rfl) rfl (ad hi rfl 23 rfl rfl rfl) (by decide) (by decide) (by decide) (by decide)
theorem Js:SN c f listed bm a w Q 25:=fun h hi _h190 =>
 di ah h hi rfl rfl (az _ rfl) (aA _ rfl) 4 34 (.inl rfl) rfl (.inl (.inr (.inl rfl))) rfl rfl
theorem Jt:SN c f listed bm a w Q 26:=fun h hi _h190 =>
 qE ah h hi rfl rfl (az _ rfl) (aA _ rfl) 34 35 _ _ _ rfl rfl rfl rfl (ad hi rfl 25 rfl rfl rfl) rfl
theorem Ju:SN c f listed bm a w Q 27:=fun h hi h190 =>
 cw ah h hi rfl rfl 15 35 6 _ (az _ rfl) rfl (fun _=>rfl) rfl (ad hi rfl 0 rfl rfl rfl) rfl (ad hi rfl 26 rfl rfl rfl) (by decide) (by decide) (by decide) (by decide)
theorem Jv:SN c f listed bm a w Q 28:=fun h hi _h190 =>
 di ah h hi rfl rfl (az _ rfl) (aA _ rfl) 5 36 (.inl rfl) rfl (.inl (.inr (.inr (.inl rfl)))) rfl rfl
theorem Jw:SN c f listed bm a w Q 29:=fun h hi _h190 =>
 cZ ah h hi rfl rfl (az _ rfl) (aA _ rfl) 37 rfl rfl rfl
theorem Jx:SN c f listed bm a w Q 30:=fun h hi h190 =>
 fi ah h hi rfl rfl (az _ rfl) (aA _ rfl) h190 _ 38 _ rfl rfl rfl (by kernel_rfl)
theorem Jy:SN c f listed bm a w Q 31:=fun h hi _h190 =>
 fh ah h hi rfl rfl (az _ rfl) (aA _ rfl) 39 rfl rfl rfl
theorem Jz:SN c f listed bm a w Q 32:=fun h hi h190 =>
 dc ah h hi rfl rfl 38 39 4 _ _ _ _ (gZ _ _ rfl) (aA _ rfl) rfl (fun _=>rfl) rfl (ad hi rfl 30 rfl rfl rfl) rfl (ad hi rfl 31 rfl rfl rfl) rfl (by decide) (by decide) (by decide) (by decide)
theorem JA:SN c f listed bm a w Q 33:=fun h hi _h190 =>
 fh ah h hi rfl rfl (az _ rfl) (aA _ rfl) 40 rfl rfl rfl
theorem JB:SN c f listed bm a w Q 34:=fun h hi h190 =>
 dc ah h hi rfl rfl 38 40 5 _ _ _ _ (gZ _ _ rfl) (aA _ rfl) rfl (fun _=>rfl) rfl (ad hi rfl 30 rfl rfl rfl) rfl (ad hi rfl 33 rfl rfl rfl) rfl (by decide) (by decide) (by decide) (by decide)
theorem JC:SN c f listed bm a w Q 35:=fun h hi h190 =>
 dP ah h hi rfl rfl (az _ rfl) (aA _ rfl) 38 41 _ rfl rfl (ad hi rfl 30 rfl rfl rfl) rfl (by kernel_rfl)
theorem JD:SN c f listed bm a w Q 36:=fun h hi _h190 =>
 l8 ah h hi rfl rfl (az _ rfl) (aA _ rfl) 1 2 42 rfl rfl rfl
theorem JE:SN c f listed bm a w Q 37:=fun h hi h190 =>
 j8 ah h hi rfl rfl (az _ rfl) (aA _ rfl) 37 41 42 43 _ _ _ _ _ _ _ _ rfl rfl rfl rfl (ad hi rfl 29 rfl rfl rfl) rfl (ad hi rfl 35 rfl rfl rfl) rfl rfl (ad hi rfl 36 rfl rfl rfl) rfl (by decide) (by decide) (by decide) rfl
theorem JF:SN c f listed bm a w Q 38:=fun h hi _h190 =>
 Ev ah h hi rfl rfl (az _ rfl) (aA _ rfl) 36 43 44 _ _ _ _ _ _ rfl rfl rfl (ad hi rfl 28 rfl rfl rfl) rfl (ad hi rfl 37 rfl rfl rfl) rfl rfl rfl
theorem JG:SN c f listed bm a w Q 39:=fun h hi h190 =>
 cw ah h hi rfl rfl 15 44 7 _ (az _ rfl) rfl (fun _=>rfl) rfl (ad hi rfl 0 rfl rfl rfl) rfl (ad hi rfl 38 rfl rfl rfl) (by decide) (by decide) (by decide) (by decide)
theorem JH:SN c f listed bm a w Q 40:=fun h hi _h190 =>
 cZ ah h hi rfl rfl (az _ rfl) (aA _ rfl) 45 rfl rfl rfl
theorem JI:SN c f listed bm a w Q 41:=fun h hi h190 =>
 fi ah h hi rfl rfl (az _ rfl) (aA _ rfl) h190 _ 46 _ rfl rfl rfl (by kernel_rfl)
theorem JJ:SN c f listed bm a w Q 42:=fun h hi _h190 =>
 di ah h hi rfl rfl (az _ rfl) (aA _ rfl) 2 47 (.inl rfl) rfl (.inl (.inl rfl)) rfl rfl
theorem JK:SN c f listed bm a w Q 43:=fun h hi h190 =>
 dc ah h hi rfl rfl 46 47 7 _ _ _ _ (gZ _ _ rfl) (aA _ rfl) rfl (fun _=>rfl) rfl (ad hi rfl 41 rfl rfl rfl) rfl (ad hi rfl 42 rfl rfl rfl) rfl (by decide) (by decide) (by decide) (by decide)
theorem JL:SN c f listed bm a w Q 44:=fun h hi _h190 =>
 fh ah h hi rfl rfl (az _ rfl) (aA _ rfl) 48 rfl rfl rfl
theorem JM:SN c f listed bm a w Q 45:=fun h hi h190 =>
 dc ah h hi rfl rfl 46 48 8 _ _ _ _ (gZ _ _ rfl) (aA _ rfl) rfl (fun _=>rfl) rfl (ad hi rfl 41 rfl rfl rfl) rfl (ad hi rfl 44 rfl rfl rfl) rfl (by decide) (by decide) (by decide) (by decide)
theorem JN:SN c f listed bm a w Q 46:=fun h hi h190 =>
 dP ah h hi rfl rfl (az _ rfl) (aA _ rfl) 46 49 _ rfl rfl (ad hi rfl 41 rfl rfl rfl) rfl (by kernel_rfl)
theorem JO:SN c f listed bm a w Q 47:=fun h hi _h190 =>
 l7 ah h hi rfl rfl (az _ rfl) (aA _ rfl) 0 50 rfl rfl rfl
theorem JP:SN c f listed bm a w Q 48:=fun h hi h190 =>
 j8 ah h hi rfl rfl (az _ rfl) (aA _ rfl) 45 49 50 51 _ _ _ _ _ _ _ _ rfl rfl rfl rfl (ad hi rfl 40 rfl rfl rfl) rfl (ad hi rfl 46 rfl rfl rfl) rfl rfl (ad hi rfl 47 rfl rfl rfl) rfl (by decide) (by decide) (by decide) rfl
theorem JQ:SN c f listed bm a w Q 49:=fun h hi h190 =>
 cw ah h hi rfl rfl 15 51 8 _ (az _ rfl) rfl (fun _=>rfl) rfl (ad hi rfl 0 rfl rfl rfl) rfl (ad hi rfl 48 rfl rfl rfl) (by decide) (by decide) (by decide) (by decide)
theorem JR:SN c f listed bm a w Q 50:=fun h hi _h190 =>
 cZ ah h hi rfl rfl (az _ rfl) (aA _ rfl) 52 rfl rfl rfl
theorem JS:SN c f listed bm a w Q 51:=fun h hi h190 =>
 fi ah h hi rfl rfl (az _ rfl) (aA _ rfl) h190 _ 53 _ rfl rfl rfl (by kernel_rfl)
theorem JT:SN c f listed bm a w Q 52:=fun h hi _h190 =>
 di ah h hi rfl rfl (az _ rfl) (aA _ rfl) 2 54 (.inl rfl) rfl (.inl (.inl rfl)) rfl rfl
theorem JU:SN c f listed bm a w Q 53:=fun h hi h190 =>
 dc ah h hi rfl rfl 53 54 7 _ _ _ _ (gZ _ _ rfl) (aA _ rfl) rfl (fun _=>rfl) rfl (ad hi rfl 51 rfl rfl rfl) rfl (ad hi rfl 52 rfl rfl rfl) rfl (by decide) (by decide) (by decide) (by decide)
theorem JV:SN c f listed bm a w Q 54:=fun h hi _h190 =>
 fh ah h hi rfl rfl (az _ rfl) (aA _ rfl) 55 rfl rfl rfl
theorem JW:SN c f listed bm a w Q 55:=fun h hi h190 =>
 dc ah h hi rfl rfl 53 55 8 _ _ _ _ (gZ _ _ rfl) (aA _ rfl) rfl (fun _=>rfl) rfl (ad hi rfl 51 rfl rfl rfl) rfl (ad hi rfl 54 rfl rfl rfl) rfl (by decide) (by decide) (by decide) (by decide)
theorem JX:SN c f listed bm a w Q 56:=fun h hi _h190 =>
 Jc ah h hi rfl rfl (az _ rfl) (aA _ rfl) 56 _ _ _ rfl rfl rfl
theorem JY:SN c f listed bm a w Q 57:=fun h hi h190 =>
 dc ah h hi rfl rfl 53 56 9 _ _ _ _ (gZ _ _ rfl) (aA _ rfl) rfl (fun _=>rfl) rfl (ad hi rfl 51 rfl rfl rfl) rfl (ad hi rfl 56 rfl rfl rfl) rfl (by decide) (by decide) (by decide) (by decide)
theorem JZ:SN c f listed bm a w Q 58:=fun h hi h190 =>
 dP ah h hi rfl rfl (az _ rfl) (aA _ rfl) 53 57 _ rfl rfl (ad hi rfl 51 rfl rfl rfl) rfl (by kernel_rfl)
theorem J0:SN c f listed bm a w Q 59:=fun h hi _h190 =>
 l8 ah h hi rfl rfl (az _ rfl) (aA _ rfl) 0 1 58 rfl rfl rfl
theorem J1:SN c f listed bm a w Q 60:=fun h hi h190 =>
 j8 ah h hi rfl rfl (az _ rfl) (aA _ rfl) 52 57 58 59 _ _ _ _ _ _ _ _ rfl rfl rfl rfl (ad hi rfl 50 rfl rfl rfl) rfl (ad hi rfl 58 rfl rfl rfl) rfl rfl (ad hi rfl 59 rfl rfl rfl) rfl (by decide) (by decide) (by decide) rfl
theorem J2:SN c f listed bm a w Q 61:=fun h hi h190 =>
 cw ah h hi rfl rfl 15 59 9 _ (az _ rfl) rfl (fun _=>rfl) rfl (ad hi rfl 0 rfl rfl rfl) rfl (ad hi rfl 60 rfl rfl rfl) (by decide) (by decide) (by decide) (by decide)
theorem J3:SN c f listed bm a w Q 62:=fun h hi _h190 =>
 cZ ah h hi rfl rfl (az _ rfl) (aA _ rfl) 60 rfl rfl rfl
theorem J4:SN c f listed bm a w Q 63:=fun h hi _h190 =>
 l8 ah h hi rfl rfl (az _ rfl) (aA _ rfl) 0 11 61 rfl rfl rfl
theorem J5:SN c f listed bm a w Q 64:=fun h hi h190 =>
 zz ah h hi rfl rfl (az _ rfl) (aA _ rfl) 60 61 62 _ _ _ _ _ _ rfl rfl rfl rfl (ad hi rfl 62 rfl rfl rfl) rfl (ad hi rfl 63 rfl rfl rfl) rfl (by decide) (by decide) rfl
theorem J6:SN c f listed bm a w Q 65:=fun h hi h190 =>
 cw ah h hi rfl rfl 15 62 10 _ (az _ rfl) rfl (fun _=>rfl) rfl (ad hi rfl 0 rfl rfl rfl) rfl (ad hi rfl 64 rfl rfl rfl) (by decide) (by decide) (by decide) (by decide)
theorem J7:SN c f listed bm a w Q 66:=fun h hi _h190 =>
 cZ ah h hi rfl rfl (az _ rfl) (aA _ rfl) 63 rfl rfl rfl
theorem J8:SN c f listed bm a w Q 67:=fun h hi _h190 =>
 He ah h hi rfl rfl (az _ rfl) (aA _ rfl) 0 3 12 64 rfl rfl rfl
theorem J9:SN c f listed bm a w Q 68:=fun h hi h190 =>
 zz ah h hi rfl rfl (az _ rfl) (aA _ rfl) 63 64 65 _ _ _ _ _ _ rfl rfl rfl rfl (ad hi rfl 66 rfl rfl rfl) rfl (ad hi rfl 67 rfl rfl rfl) rfl (by decide) (by decide) rfl
theorem Ka:SN c f listed bm a w Q 69:=fun h hi h190 =>
 cw ah h hi rfl rfl 15 65 11 _ (az _ rfl) rfl (fun _=>rfl) rfl (ad hi rfl 0 rfl rfl rfl) rfl (ad hi rfl 68 rfl rfl rfl) (by decide) (by decide) (by decide) (by decide)
theorem Kb:SN c f listed bm a w Q 70:=fun h hi _h190 =>
 cZ ah h hi rfl rfl (az _ rfl) (aA _ rfl) 66 rfl rfl rfl
theorem Kc:SN c f listed bm a w Q 71:=fun h hi h190 =>
 fi ah h hi rfl rfl (az _ rfl) (aA _ rfl) h190 _ 67 _ rfl rfl rfl (by kernel_rfl)
theorem Kd:SN c f listed bm a w Q 72:=fun h hi _h190 =>
 fh ah h hi rfl rfl (az _ rfl) (aA _ rfl) 68 rfl rfl rfl
theorem Ke:SN c f listed bm a w Q 73:=fun h hi h190 =>
 dc ah h hi rfl rfl 67 68 4 _ _ _ _ (gZ _ _ rfl) (aA _ rfl) rfl (fun _=>rfl) rfl (ad hi rfl 71 rfl rfl rfl) rfl (ad hi rfl 72 rfl rfl rfl) rfl (by decide) (by decide) (by decide) (by decide)
theorem Kf:SN c f listed bm a w Q 74:=fun h hi _h190 =>
 di ah h hi rfl rfl (az _ rfl) (aA _ rfl) 2 69 (.inl rfl) rfl (.inl (.inl rfl)) rfl rfl
theorem Kg:SN c f listed bm a w Q 75:=fun h hi h190 =>
 dc ah h hi rfl rfl 67 69 7 _ _ _ _ (gZ _ _ rfl) (aA _ rfl) rfl (fun _=>rfl) rfl (ad hi rfl 71 rfl rfl rfl) rfl (ad hi rfl 74 rfl rfl rfl) rfl (by decide) (by decide) (by decide) (by decide)
theorem Kh:SN c f listed bm a w Q 76:=fun h hi _h190 =>
 fh ah h hi rfl rfl (az _ rfl) (aA _ rfl) 70 rfl rfl rfl
theorem Ki:SN c f listed bm a w Q 77:=fun h hi h190 =>
 dc ah h hi rfl rfl 67 70 8 _ _ _ _ (gZ _ _ rfl) (aA _ rfl) rfl (fun _=>rfl) rfl (ad hi rfl 71 rfl rfl rfl) rfl (ad hi rfl 76 rfl rfl rfl) rfl (by decide) (by decide) (by decide) (by decide)
theorem Kj:SN c f listed bm a w Q 78:=fun h hi h190 =>
 dP ah h hi rfl rfl (az _ rfl) (aA _ rfl) 67 71 _ rfl rfl (ad hi rfl 71 rfl rfl rfl) rfl (by kernel_rfl)
theorem Kk:SN c f listed bm a w Q 79:=fun h hi _h190 =>
 l8 ah h hi rfl rfl (az _ rfl) (aA _ rfl) 0 1 72 rfl rfl rfl
theorem Kl:SN c f listed bm a w Q 80:=fun h hi h190 =>
 j8 ah h hi rfl rfl (az _ rfl) (aA _ rfl) 66 71 72 73 _ _ _ _ _ _ _ _ rfl rfl rfl rfl (ad hi rfl 70 rfl rfl rfl) rfl (ad hi rfl 78 rfl rfl rfl) rfl rfl (ad hi rfl 79 rfl rfl rfl) rfl (by decide) (by decide) (by decide) rfl
theorem Km:SN c f listed bm a w Q 81:=fun h hi h190 =>
 cw ah h hi rfl rfl 15 73 12 _ (az _ rfl) rfl (fun _=>rfl) rfl (ad hi rfl 0 rfl rfl rfl) rfl (ad hi rfl 80 rfl rfl rfl) (by decide) (by decide) (by decide) (by decide)
theorem Kn:SN c f listed bm a w Q 82:=fun h hi _h190 =>
 cZ ah h hi rfl rfl (az _ rfl) (aA _ rfl) 74 rfl rfl rfl
theorem Ko:SN c f listed bm a w Q 83:=fun h hi h190 =>
 fi ah h hi rfl rfl (az _ rfl) (aA _ rfl) h190 _ 75 _ rfl rfl rfl (by kernel_rfl)
theorem Kp:SN c f listed bm a w Q 84:=fun h hi _h190 =>
 fh ah h hi rfl rfl (az _ rfl) (aA _ rfl) 76 rfl rfl rfl
theorem Kq:SN c f listed bm a w Q 85:=fun h hi h190 =>
 dc ah h hi rfl rfl 75 76 7 _ _ _ _ (gZ _ _ rfl) (aA _ rfl) rfl (fun _=>rfl) rfl (ad hi rfl 83 rfl rfl rfl) rfl (ad hi rfl 84 rfl rfl rfl) rfl (by decide) (by decide) (by decide) (by decide)
theorem Kr:SN c f listed bm a w Q 86:=fun h hi h190 =>
 dP ah h hi rfl rfl (az _ rfl) (aA _ rfl) 75 77 _ rfl rfl (ad hi rfl 83 rfl rfl rfl) rfl (by kernel_rfl)
theorem Ks:SN c f listed bm a w Q 87:=fun h hi _h190 =>
 l7 ah h hi rfl rfl (az _ rfl) (aA _ rfl) 0 78 rfl rfl rfl
theorem Kt:SN c f listed bm a w Q 88:=fun h hi h190 =>
 j8 ah h hi rfl rfl (az _ rfl) (aA _ rfl) 74 77 78 79 _ _ _ _ _ _ _ _ rfl rfl rfl rfl (ad hi rfl 82 rfl rfl rfl) rfl (ad hi rfl 86 rfl rfl rfl) rfl rfl (ad hi rfl 87 rfl rfl rfl) rfl (by decide) (by decide) (by decide) rfl
theorem Ku:SN c f listed bm a w Q 89:=fun h hi h190 =>
 cw ah h hi rfl rfl 15 79 13 _ (az _ rfl) rfl (fun _=>rfl) rfl (ad hi rfl 0 rfl rfl rfl) rfl (ad hi rfl 88 rfl rfl rfl) (by decide) (by decide) (by decide) (by decide)
theorem Kv:SN c f listed bm a w Q 90:=fun h hi _h190 =>
 cZ ah h hi rfl rfl (az _ rfl) (aA _ rfl) 80 rfl rfl rfl
theorem Kw:SN c f listed bm a w Q 91:=fun h hi h190 =>
 fi ah h hi rfl rfl (az _ rfl) (aA _ rfl) h190 _ 81 _ rfl rfl rfl (by kernel_rfl)
theorem Kx:SN c f listed bm a w Q 92:=fun h hi _h190 =>
 di ah h hi rfl rfl (az _ rfl) (aA _ rfl) 2 82 (.inl rfl) rfl (.inl (.inl rfl)) rfl rfl
theorem Ky:SN c f listed bm a w Q 93:=fun h hi h190 =>
 dc ah h hi rfl rfl 81 82 7 _ _ _ _ (gZ _ _ rfl) (aA _ rfl) rfl (fun _=>rfl) rfl (ad hi rfl 91 rfl rfl rfl) rfl (ad hi rfl 92 rfl rfl rfl) rfl (by decide) (by decide) (by decide) (by decide)
theorem Kz:SN c f listed bm a w Q 94:=fun h hi h190 =>
 dP ah h hi rfl rfl (az _ rfl) (aA _ rfl) 81 83 _ rfl rfl (ad hi rfl 91 rfl rfl rfl) rfl (by kernel_rfl)
theorem KE:SN c f listed bm a w Q 95:=fun h hi _h190 =>
 l7 ah h hi rfl rfl (az _ rfl) (aA _ rfl) 0 84 rfl rfl rfl
theorem KF:SN c f listed bm a w Q 96:=fun h hi h190 =>
 j8 ah h hi rfl rfl (az _ rfl) (aA _ rfl) 80 83 84 85 _ _ _ _ _ _ _ _ rfl rfl rfl rfl (ad hi rfl 90 rfl rfl rfl) rfl (ad hi rfl 94 rfl rfl rfl) rfl rfl (ad hi rfl 95 rfl rfl rfl) rfl (by decide) (by decide) (by decide) rfl
theorem KG:SN c f listed bm a w Q 97:=fun h hi h190 =>
 cw ah h hi rfl rfl 15 85 14 _ (az _ rfl) rfl (fun _=>rfl) rfl (ad hi rfl 0 rfl rfl rfl) rfl (ad hi rfl 96 rfl rfl rfl) (by decide) (by decide) (by decide) (by decide)
theorem KH:SN c f listed bm a w Q 98:=fun h hi _h190 =>
 cZ ah h hi rfl rfl (az _ rfl) (aA _ rfl) 86 rfl rfl rfl
theorem KJ:SN c f listed bm a w Q 99:=fun h hi h190 =>
 fi ah h hi rfl rfl (az _ rfl) (aA _ rfl) h190 _ 87 _ rfl rfl rfl (by kernel_rfl)
theorem Hg:SN c f listed bm a w Q 100:=fun h hi _h190 =>
 di ah h hi rfl rfl (az _ rfl) (aA _ rfl) 2 88 (.inl rfl) rfl (.inl (.inl rfl)) rfl rfl
theorem Hh:SN c f listed bm a w Q 101:=fun h hi h190 =>
 dc ah h hi rfl rfl 87 88 7 _ _ _ _ (gZ _ _ rfl) (aA _ rfl) rfl (fun _=>rfl) rfl (ad hi rfl 99 rfl rfl rfl) rfl (ad hi rfl 100 rfl rfl rfl) rfl (by decide) (by decide) (by decide) (by decide)
theorem Hi:SN c f listed bm a w Q 102:=fun h hi h190 =>
 dP ah h hi rfl rfl (az _ rfl) (aA _ rfl) 87 89 _ rfl rfl (ad hi rfl 99 rfl rfl rfl) rfl (by kernel_rfl)
theorem Hj:SN c f listed bm a w Q 103:=fun h hi _h190 =>
 l7 ah h hi rfl rfl (az _ rfl) (aA _ rfl) 0 90 rfl rfl rfl
theorem Hk:SN c f listed bm a w Q 104:=fun h hi h190 =>
 j8 ah h hi rfl rfl (az _ rfl) (aA _ rfl) 86 89 90 91 _ _ _ _ _ _ _ _ rfl rfl rfl rfl (ad hi rfl 98 rfl rfl rfl) rfl (ad hi rfl 102 rfl rfl rfl) rfl rfl (ad hi rfl 103 rfl rfl rfl) rfl (by decide) (by decide) (by decide) rfl
theorem Hl:SN c f listed bm a w Q 105:=fun h hi h190 =>
 cw ah h hi rfl rfl 15 91 15 _ (az _ rfl) rfl (fun _=>rfl) rfl (ad hi rfl 0 rfl rfl rfl) rfl (ad hi rfl 104 rfl rfl rfl) (by decide) (by decide) (by decide) (by decide)
theorem Hm:SN c f listed bm a w Q 106:=fun h hi _h190 =>
 di ah h hi rfl rfl (az _ rfl) (aA _ rfl) 5 92 (.inl rfl) rfl (.inl (.inr (.inr (.inl rfl)))) rfl rfl
theorem Hn:SN c f listed bm a w Q 107:=fun h hi _h190 =>
 cZ ah h hi rfl rfl (az _ rfl) (aA _ rfl) 93 rfl rfl rfl
theorem Ho:SN c f listed bm a w Q 108:=fun h hi h190 =>
 fi ah h hi rfl rfl (az _ rfl) (aA _ rfl) h190 _ 94 _ rfl rfl rfl (by kernel_rfl)
theorem Hp:SN c f listed bm a w Q 109:=fun h hi _h190 =>
 fh ah h hi rfl rfl (az _ rfl) (aA _ rfl) 95 rfl rfl rfl
theorem Hq:SN c f listed bm a w Q 110:=fun h hi h190 =>
 dc ah h hi rfl rfl 94 95 8 _ _ _ _ (gZ _ _ rfl) (aA _ rfl) rfl (fun _=>rfl) rfl (ad hi rfl 108 rfl rfl rfl) rfl (ad hi rfl 109 rfl rfl rfl) rfl (by decide) (by decide) (by decide) (by decide)
theorem Hr:SN c f listed bm a w Q 111:=fun h hi h190 =>
 dP ah h hi rfl rfl (az _ rfl) (aA _ rfl) 94 96 _ rfl rfl (ad hi rfl 108 rfl rfl rfl) rfl (by kernel_rfl)
theorem Hs:SN c f listed bm a w Q 112:=fun h hi _h190 =>
 l8 ah h hi rfl rfl (az _ rfl) (aA _ rfl) 1 2 97 rfl rfl rfl
theorem Ht:SN c f listed bm a w Q 113:=fun h hi h190 =>
 j8 ah h hi rfl rfl (az _ rfl) (aA _ rfl) 93 96 97 98 _ _ _ _ _ _ _ _ rfl rfl rfl rfl (ad hi rfl 107 rfl rfl rfl) rfl (ad hi rfl 111 rfl rfl rfl) rfl rfl (ad hi rfl 112 rfl rfl rfl) rfl (by decide) (by decide) (by decide) rfl
theorem Hu:SN c f listed bm a w Q 114:=fun h hi _h190 =>
 Ev ah h hi rfl rfl (az _ rfl) (aA _ rfl) 92 98 99 _ _ _ _ _ _ rfl rfl rfl (ad hi rfl 106 rfl rfl rfl) rfl (ad hi rfl 113 rfl rfl rfl) rfl rfl rfl
theorem Hv:SN c f listed bm a w Q 115:=fun h hi h190 =>
 cw ah h hi rfl rfl 15 99 16 _ (az _ rfl) rfl (fun _=>rfl) rfl (ad hi rfl 0 rfl rfl rfl) rfl (ad hi rfl 114 rfl rfl rfl) (by decide) (by decide) (by decide) (by decide)
theorem Hw:SN c f listed bm a w Q 116:=fun h hi _h190 =>
 di ah h hi rfl rfl (az _ rfl) (aA _ rfl) 4 100 (.inl rfl) rfl (.inl (.inr (.inl rfl))) rfl rfl
theorem Hx:SN c f listed bm a w Q 117:=fun h hi _h190 =>
 qE ah h hi rfl rfl (az _ rfl) (aA _ rfl) 100 101 _ _ _ rfl rfl rfl rfl (ad hi rfl 116 rfl rfl rfl) rfl
theorem Hy:SN c f listed bm a w Q 118:=fun h hi h190 =>
 cw ah h hi rfl rfl 15 101 17 _ (az _ rfl) rfl (fun _=>rfl) rfl (ad hi rfl 0 rfl rfl rfl) rfl (ad hi rfl 117 rfl rfl rfl) (by decide) (by decide) (by decide) (by decide)
theorem Hz:SN c f listed bm a w Q 119:=fun h hi _h190 =>
 di ah h hi rfl rfl (az _ rfl) (aA _ rfl) 4 102 (.inl rfl) rfl (.inl (.inr (.inl rfl))) rfl rfl
theorem H8:SN c f listed bm a w Q 120:=fun h hi _h190 =>
 qE ah h hi rfl rfl (az _ rfl) (aA _ rfl) 102 103 _ _ _ rfl rfl rfl rfl (ad hi rfl 119 rfl rfl rfl) rfl
theorem H9:SN c f listed bm a w Q 121:=fun h hi h190 =>
 cw ah h hi rfl rfl 15 103 18 _ (az _ rfl) rfl (fun _=>rfl) rfl (ad hi rfl 0 rfl rfl rfl) rfl (ad hi rfl 120 rfl rfl rfl) (by decide) (by decide) (by decide) (by decide)
theorem Ia:SN c f listed bm a w Q 122:=fun h hi _h190 =>
 di ah h hi rfl rfl (az _ rfl) (aA _ rfl) 15 104 (.inl rfl) rfl (ad hi rfl 0 rfl rfl rfl) rfl rfl
theorem Ib:SN c f listed bm a w Q 123:=fun h hi _h190 =>
 di ah h hi rfl rfl (az _ rfl) (aA _ rfl) 104 0 (.inr rfl) rfl (ad hi rfl 122 rfl rfl rfl) rfl rfl
theorem Ic:∀i,i<124->KInv c jV kL dv (f+1) listed bm a w->i ∈ Region.ready .any dv listed->f<=190->wpOp prog dv Q i (cY c jV kL dv f (listed.setIfInBounds i true)) a w
 |0,_,h,hi,h190=>Lu h hi h190
 |1,_,h,hi,h190=>Lv h hi h190
 |2,_,h,hi,h190=>Lw h hi h190
 |3,_,h,hi,h190=>Lx h hi h190
 |4,_,h,hi,h190=>Ly h hi h190
 |5,_,h,hi,h190=>Lz h hi h190
 |6,_,h,hi,h190=>LA h hi h190
 |7,_,h,hi,h190=>LB h hi h190
 |8,_,h,hi,h190=>LC h hi h190
 |9,_,h,hi,h190=>LD h hi h190
 |10,_,h,hi,h190=>Jd h hi h190
 |11,_,h,hi,h190=>Je h hi h190
 |12,_,h,hi,h190=>Jf h hi h190
 |13,_,h,hi,h190=>Jg h hi h190
 |14,_,h,hi,h190=>Jh h hi h190
 |15,_,h,hi,h190=>Ji h hi h190
 |16,_,h,hi,h190=>Jj h hi h190
 |17,_,h,hi,h190=>Jk h hi h190
 |18,_,h,hi,h190=>Jl h hi h190
 |19,_,h,hi,h190=>Jm h hi h190
 |20,_,h,hi,h190=>Jn h hi h190
 |21,_,h,hi,h190=>Jo h hi h190
 |22,_,h,hi,h190=>Jp h hi h190
 |23,_,h,hi,h190=>Jq h hi h190
 |24,_,h,hi,h190=>Jr h hi h190
 |25,_,h,hi,h190=>Js h hi h190
 |26,_,h,hi,h190=>Jt h hi h190
 |27,_,h,hi,h190=>Ju h hi h190
 |28,_,h,hi,h190=>Jv h hi h190
 |29,_,h,hi,h190=>Jw h hi h190
 |30,_,h,hi,h190=>Jx h hi h190
 |31,_,h,hi,h190=>Jy h hi h190
 |32,_,h,hi,h190=>Jz h hi h190
 |33,_,h,hi,h190=>JA h hi h190
 |34,_,h,hi,h190=>JB h hi h190
 |35,_,h,hi,h190=>JC h hi h190
 |36,_,h,hi,h190=>JD h hi h190
 |37,_,h,hi,h190=>JE h hi h190
 |38,_,h,hi,h190=>JF h hi h190
 |39,_,h,hi,h190=>JG h hi h190
 |40,_,h,hi,h190=>JH h hi h190
 |41,_,h,hi,h190=>JI h hi h190
 |42,_,h,hi,h190=>JJ h hi h190
 |43,_,h,hi,h190=>JK h hi h190
 |44,_,h,hi,h190=>JL h hi h190
 |45,_,h,hi,h190=>JM h hi h190
 |46,_,h,hi,h190=>JN h hi h190
 |47,_,h,hi,h190=>JO h hi h190
 |48,_,h,hi,h190=>JP h hi h190
 |49,_,h,hi,h190=>JQ h hi h190
 |50,_,h,hi,h190=>JR h hi h190
 |51,_,h,hi,h190=>JS h hi h190
 |52,_,h,hi,h190=>JT h hi h190
 |53,_,h,hi,h190=>JU h hi h190
 |54,_,h,hi,h190=>JV h hi h190
 |55,_,h,hi,h190=>JW h hi h190
 |56,_,h,hi,h190=>JX h hi h190
 |57,_,h,hi,h190=>JY h hi h190
 |58,_,h,hi,h190=>JZ h hi h190
 |59,_,h,hi,h190=>J0 h hi h190
 |60,_,h,hi,h190=>J1 h hi h190
 |61,_,h,hi,h190=>J2 h hi h190
 |62,_,h,hi,h190=>J3 h hi h190
 |63,_,h,hi,h190=>J4 h hi h190
 |64,_,h,hi,h190=>J5 h hi h190
 |65,_,h,hi,h190=>J6 h hi h190
 |66,_,h,hi,h190=>J7 h hi h190
 |67,_,h,hi,h190=>J8 h hi h190
 |68,_,h,hi,h190=>J9 h hi h190
 |69,_,h,hi,h190=>Ka h hi h190
 |70,_,h,hi,h190=>Kb h hi h190
 |71,_,h,hi,h190=>Kc h hi h190
 |72,_,h,hi,h190=>Kd h hi h190
 |73,_,h,hi,h190=>Ke h hi h190
 |74,_,h,hi,h190=>Kf h hi h190
 |75,_,h,hi,h190=>Kg h hi h190
 |76,_,h,hi,h190=>Kh h hi h190
 |77,_,h,hi,h190=>Ki h hi h190
 |78,_,h,hi,h190=>Kj h hi h190
 |79,_,h,hi,h190=>Kk h hi h190
 |80,_,h,hi,h190=>Kl h hi h190
 |81,_,h,hi,h190=>Km h hi h190
 |82,_,h,hi,h190=>Kn h hi h190
 |83,_,h,hi,h190=>Ko h hi h190
 |84,_,h,hi,h190=>Kp h hi h190
 |85,_,h,hi,h190=>Kq h hi h190
 |86,_,h,hi,h190=>Kr h hi h190
 |87,_,h,hi,h190=>Ks h hi h190
 |88,_,h,hi,h190=>Kt h hi h190
 |89,_,h,hi,h190=>Ku h hi h190
 |90,_,h,hi,h190=>Kv h hi h190
 |91,_,h,hi,h190=>Kw h hi h190
 |92,_,h,hi,h190=>Kx h hi h190
 |93,_,h,hi,h190=>Ky h hi h190
 |94,_,h,hi,h190=>Kz h hi h190
 |95,_,h,hi,h190=>KE h hi h190
 |96,_,h,hi,h190=>KF h hi h190
 |97,_,h,hi,h190=>KG h hi h190
 |98,_,h,hi,h190=>KH h hi h190
 |99,_,h,hi,h190=>KJ h hi h190
 |100,_,h,hi,h190=>Hg h hi h190
 |101,_,h,hi,h190=>Hh h hi h190
 |102,_,h,hi,h190=>Hi h hi h190
 |103,_,h,hi,h190=>Hj h hi h190
 |104,_,h,hi,h190=>Hk h hi h190
 |105,_,h,hi,h190=>Hl h hi h190
 |106,_,h,hi,h190=>Hm h hi h190
 |107,_,h,hi,h190=>Hn h hi h190
 |108,_,h,hi,h190=>Ho h hi h190
 |109,_,h,hi,h190=>Hp h hi h190
 |110,_,h,hi,h190=>Hq h hi h190
 |111,_,h,hi,h190=>Hr h hi h190
 |112,_,h,hi,h190=>Hs h hi h190
 |113,_,h,hi,h190=>Ht h hi h190
 |114,_,h,hi,h190=>Hu h hi h190
 |115,_,h,hi,h190=>Hv h hi h190
 |116,_,h,hi,h190=>Hw h hi h190
 |117,_,h,hi,h190=>Hx h hi h190
 |118,_,h,hi,h190=>Hy h hi h190
 |119,_,h,hi,h190=>Hz h hi h190
 |120,_,h,hi,h190=>H8 h hi h190
 |121,_,h,hi,h190=>H9 h hi h190
 |122,_,h,hi,h190=>Ia h hi h190
 |123,_,h,hi,h190=>Ib h hi h190
 |n+124,hn,_,_,_=>absurd hn (by omega)
end
end
section
open Go.RowKit
open Go.Maps (Keyed)
attribute [local go_sem] size_bs toList_bs
def jR(w:World)(sp:KSp)(v:Value):Prop:=∃num,v=kv sp.word sp.cl sp.bits num sp.code∧match sp.nums with
 |none=>num = .map none
 |some es=>∃b,num = .map (some b)∧CM w b es
theorem jR.ext{w w':World}{sp:KSp}{v:Value}(h:jR w sp v)(hx:Ext w w'):jR w' sp v:=by
 obtain⟨num,h1,h2⟩:=h;refine⟨num,h1,?_⟩
 cases hn:sp.nums with
 |none=>rw[hn]at h2;exact h2
 |some es =>
  rw[hn]at h2;obtain⟨b,h3,h4⟩:=h2;exact⟨b,h3,h4.ext hx⟩
structure KindsAt (w:World) (D:DataW Value):Prop where
 known:gM D (iX.map (·.1))
 at_:∀p ∈ iX,Maps.has D (.int .i64 (p.1:Nat))=true∧∃v,(∀z,D.atKey (.int .i64 (p.1:Nat)) z = .held v)∧jR w p.2 v
def xZ(w:World)(e:Ending)(w':World):Prop:=∃b n D,e = .returned (.map (some b))∧bG w' b n D∧KindsAt w' D∧Ext w w'
def um(sk:Nat->KK):KK->Option KSp
 |.ka word=>some ⟨word,2,ew,false,some [(5,true,false)]⟩
 |.kd word cl bits none code=>some ⟨word,cl,bits,code,none⟩
 |.kd word cl bits (some s) code=>match sk s with
  |.nm es=>some ⟨word,cl,bits,code,some (es.map (·.2))⟩
  |.tm=>some ⟨word,cl,bits,code,some jQ⟩
  |_=>none
 |_=>none
section
variable {c:KC} {sk:Nat->KK} {tab:List (Nat × Nat × Nat)} {ops:Array Oper} {f:Nat} {ls:Array Bool} {bm:Option Nat} {a:Act} {w:World}
theorem NM.whole{es:List (Nat × Nat × Bool × Bool)}(h:NM f ls w es b)(hall:∀e ∈ es,ls.getD e.1 false=true):CM w b (es.map (·.2)):=by
 obtain⟨n,D,h1,h2,h3,h4⟩:=h;refine⟨n,D,h1,by omega,by rw[OH];exact h3,fun e he=>?_⟩;rw[MH]at he;obtain⟨e2,he2,rfl⟩:=he;exact h4 e2 he2 (hall e2 he2)
theorem KInv.spec(h:KInv c sk tab ops f ls bm a w)(hall:∀s es,sk s = .nm es->∀e ∈ es,ls.getD e.1 false=true)(hf:aN ops ls d){sp:KSp}(hs:um sk (sk d)=some sp):jR w sp (bV a d):=by
 have hF:=h.fits d hf;generalize bV a d=v at *;generalize hk:sk d=k at *
 cases k with
 |ka word =>
  cases hs;obtain⟨b,rfl,_,_,_,h4⟩:=hF;exact⟨_,rfl,b,rfl,h4⟩
 |kd word cl bits src code =>
  obtain⟨rfl,h2⟩:=hF
  cases src with
  |none =>
   cases hs;exact⟨_,rfl,rfl⟩
  |some s =>
   have hF0:=h.fits s (h2 s rfl);unfold um at hs;dsimp only at hs;unfold pE;dsimp only;generalize bV a s=v0 at *;generalize hk0:sk s=k0 at *
   cases k0 with
   |nm es =>
    cases hs;obtain⟨b,rfl,_,_,_,hm⟩:=hF0;exact⟨_,rfl,b,rfl,hm.whole (hall s es hk0)⟩
   |tm =>
    cases hs;have:v0 = .map (some c.Bt):=hF0;subst this
    exact⟨_,rfl,c.Bt,rfl,h.tr⟩
   |_=>cases hs
 |_=>cases hs
end
theorem Ch:∀p ∈ iX,∃e ∈ kL,e.2.1=p.1∧um jV (jV e.2.2)=some p.2:=by
 have h:kL.map (fun e=>(e.2.1,um jV (jV e.2.2)))=iX.map (fun p=>(p.1,some p.2)):=by rfl
 intro p hp;have:(p.1,some p.2) ∈ kL.map (fun e=>(e.2.1,um jV (jV e.2.2))):=by rw[h];exact MH.2 ⟨p,hp,rfl⟩
 obtain⟨e,he,h2⟩:=MH.1 this
 exact⟨e,he,M6 Prod.fst h2,M6 Prod.snd h2⟩
theorem Ie{es:List (Nat × Nat × Bool × Bool)}(h:jV s = .nm es):∀e ∈ es,e.1<124:=by
 have hb:(ma.all fun p=>match p.2 with | .nm es=>es.all (fun e=>decide (e.1<124)) | _=>true)=true:=by rfl
 rw[Nm]at hb;have h1:=hb _ (rI h);dsimp only at h1;rw[Nm]at h1;intro e he;simpa using h1 e he
theorem Fd{w:World}{v4 v5 v6:Value}{D:DataW Value}(h4:dw w v4 true false)(h5:dw w v5 false false)(h6:dw w v6 false false)(hD:D=(((DataW.map []).put (.int .i64 4) (.held v4)).put (.int .i64 5) (.held v5)).put (.int .i64 6) (.held v6)){n:Nat}(hM:bG w b n D)(hn:n<=200):CM w b jQ:=by
 subst hD;have m0:Maps.IsMap (DataW.map (H:=Value) []):=⟨[],rfl⟩;refine⟨n,_,hM,hn,iw (iw (iw (j6 ld (by simp)) 4 (by simp[jQ]) _) 5 (by simp[jQ]) _) 6 (by simp[jQ]) _,?_⟩;have a4:iU w ((DataW.map []).put (.int .i64 (4:Nat)) (.held v4)) 4 true false:=lZ m0 4 h4;intro e he;simp only[jQ,MS,N7,Qg]at he;rcases he with rfl|rfl|rfl
 ·exact lh (lh a4 (by decide) _) (by decide) _
 ·exact lh (lZ (m0.put _ _) 5 h5) (by decide) _
 ·exact lZ ((m0.put _ _).put _ _) 6 h6
theorem zA(w:World):Calls prog 63 #[] w (xZ w):=by
 have hmm:=@RW prog;go_enter func63,ntmps63;go_wp2_with fail;refine(jE true false _).mono ?_;rintro e w1⟨rfl,p1,p2,hx1⟩;have LP:Hid (dw w1 (jP w.heap.size (w.heap.size+1)) true false):=qh ⟨_,_,rfl,p1,p2⟩;have HX:=qh hx1;clear hx1 p1 p2;go_wp2_with fail;refine(jE false false _).mono ?_;rintro e w2⟨rfl,p1,p2,hx1⟩;have LL:Hid (dw w2 (jP w1.heap.size (w1.heap.size+1)) false false):=qh ⟨_,_,rfl,p1,p2⟩;replace LP:=qh (LP.out.ext hx1);replace HX:=HX.qt hx1;clear hx1 p1 p2;have HX5:Hid (Ext w2 ((w2.alloc (.cells #[jP w.heap.size (w.heap.size+1)] qw)).alloc (.cells #[fL] FT))):=qh ((Id _ _).alloc _);replace LP:=qh (LP.out.ext HX5.out);replace LL:=qh (LL.out.ext HX5.out);have B1:=qh ((ID w2 qw #[jP w.heap.size (w.heap.size+1)]).alloc (.cells #[fL] FT));have B3:=qh (Mf (w2.alloc (.cells #[jP w.heap.size (w.heap.size+1)] qw)) FT #[fL] (w2.heap.size+1) (by simp));replace HX:=qh (HX.out.trans HX5.out);clear HX5;go_upto_region 5 with fail;generalize hW5:(w2.alloc (.cells #[jP w.heap.size (w.heap.size+1)] qw)).alloc (.cells #[fL] FT)=W5 at *;clear hW5;generalize jP w.heap.size (w.heap.size+1)=lvP at *;generalize jP w1.heap.size (w1.heap.size+1)=lvL at *;generalize w2.heap.size=G at *;have M:bG (W5.alloc (.map #[] 0)) W5.heap.size 0 (.map []):=Rd _ _ _ _;have hxw:Ext W5 (W5.alloc (.map #[] 0)):=Id _ _;have q1:=(B1.out.ext hxw).cell 0;simp only[Mk,Mm]at q1;go_wp2_with (first|(refine eJ _ rfl _ _ _ 101 rfl 3 163 gF Pa RK W5.heap.size (0) _ rfl M (by unfold maxLen;omega) (.int .i64 4) _ _ rfl rfl (mF 4 (by decide)) _ [] rfl ?_;intro u1 M1 hg;refine gm ?_)|fail);refine eE ?_;replace hxw:=hxw.only hg (Mn _);clear hg M;have M:=M1;clear M1;go_wp2_with (first|(refine eJ _ rfl _ _ _ 101 rfl 3 163 gF Pa RK W5.heap.size (0+1) _ rfl M (by unfold maxLen;omega) (.int .i64 5) _ _ rfl rfl (mF 5 (by decide)) _ [] rfl ?_;intro u2 M1 hg;refine gm ?_)|fail);refine eE ?_;replace hxw:=hxw.only hg (Mn _);clear hg M;have M:=M1;clear M1;go_wp2_with (first|(refine eJ _ rfl _ _ _ 101 rfl 3 163 gF Pa RK W5.heap.size (0+1+1) _ rfl M (by unfold maxLen;omega) (.int .i64 6) _ _ rfl rfl (mF 6 (by decide)) _ [] rfl ?_;intro u3 M1 hg;refine gm ?_)|fail);refine eE ?_;replace hxw:=hxw.only hg (Mn _);clear hg M;have M:=M1;clear M1;clear q1;have HT:=qh (Fd (LP.out.ext hxw) (LL.out.ext hxw) (LL.out.ext hxw) rfl M (by omega));have hle:Hid (w.heap.size<=W5.heap.size):=qh HX.out.size;replace HX:=HX.qt hxw;replace B1:=qh (B1.out.ext hxw);replace B3:=qh (B3.out.ext hxw);replace LP:=qh (LP.out.ext hxw);replace LL:=qh (LL.out.ext hxw);clear M hxw hmm;go_wp2_with fail;generalize W5.heap.size=Bt at *;refine PR (by kernel_rfl) ?_;show wpAny prog .any dv _ dv.size (Array.replicate dv.size false) _ _;have hsz:dv.size=124:=by kernel_rfl
 have hacc:((List.range dv.size).all fun i=>match dv[i]? with|some o=>o.after.toList.all (fun e=>decide (e.on<i))|none=>true)=true:=by kernel_rfl
 refine en (Inv:=fun f listed a w'=>f<=190∧cY ⟨w,G,G+1,lvP,Bt⟩ jV kL dv f listed a w') ?_ ?_ ?_ _ _ _ _ ⟨by rw[hsz];omega,none,?_⟩
 ·rintro f listed a w'⟨hf,bm,h⟩ hr;have hall:=ny hacc hr h.size;have f0:=h.fits 0 (.inr ⟨123,_,rfl,hall 123 (by omega),rfl⟩);obtain⟨b,e0,eb⟩:=f0;obtain⟨h1,_,n,D,h3,h4,h5,h6⟩:=h.main b eb
  have hK:KindsAt w' D:=⟨h5,fun p hp=>by
   obtain⟨e,he,e1,e2⟩:=Ch p hp;have hlt:∀e ∈ kL,e.1<124:=by decide
   obtain⟨g1,g2,g3⟩:=h6 e he (hall e.1 (by have:=hlt e he;omega));rw[e1]at g2 g3;exact⟨g2,_,g3,h.spec (fun s es hs e he=>hall e.1 (by have:=Ie hs e he;omega)) g1 e2⟩⟩
  have hx:=h.ext;have hd:=h.dfr;clear hall h hr hacc HX HT B1 B3 hle LP LL h6;unfold Exit.then;dsimp only;go_wp2_with fail;have e0:a.tmps.getD 0 undef = .map (some b):=e0;refine MI (v := .map (some b)) ?_ hd ⟨b,n,D,rfl,h3,hK,hx⟩;have hres:f63.results=#[.tmp 0]:=rfl;unfold results;rw[hres];simp only[Ob,OG,OO,e0];go_simp
 ·rintro listed a w'⟨_,bm,h⟩;exact eu (by have:=h.cnt;omega) h.size
 ·rintro f listed a w' i⟨hf,bm,h⟩ hi;exact wpOp_mono (fun _ _ h=>⟨by omega,h⟩) (Ic i (by have:=bP hi;omega) h hi (by omega))
 ·have hnf:∀j,¬ (Array.replicate dv.size false).getD j false=true:=fun j hl=>by
   rw[Mw,Qi]at hl;split at hl <;> cases hl
  have hb:∀d,aN dv (Array.replicate dv.size false) d->d=2∨d=4∨d=5∨d=6:=fun d hd=>by
   rcases hd with hd | ⟨i,o,ho,hl,hd⟩
   ·exact hd
   ·exact absurd hl (hnf i)
  refine⟨by rw[PD],?_,HX.out.drew,rfl,rfl,rfl,rfl,B1.out.drew,B3.out.drew,LP.out.ext (iD _).drew,HT.out.ext (iD _).drew,?_,?_,(fun b e=>by cases e),fun _=>rfl,fun j _ _ _ hl=>absurd hl (hnf j)⟩
  ·rw[Rt,Q0];exact Mn _
  ·intro d hd;rcases hb d hd with rfl|rfl|rfl|rfl
   ·exact LL.out.ext (iD _).drew
   ·rfl
   ·rfl
   ·rfl
  ·intro d d' hne hd hd' h1 h2;rcases hb d hd with rfl|rfl|rfl|rfl <;> cases h1
end
end Go.Proofs.YtaegjkllenlfpaaGreatDoor
