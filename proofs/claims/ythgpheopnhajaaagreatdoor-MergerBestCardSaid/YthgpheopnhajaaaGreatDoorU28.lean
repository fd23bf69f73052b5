/- The seat's texts, part U28. -/
import Derived.Test.YthgpheopnhajaaaGreatDoorU27
set_option maxRecDepth 100000
set_option maxHeartbeats 8000000
namespace Go.Proofs.YthgpheopnhajaaaGreatDoor
section
open Go.RowKit
def opsAt (k:Nat):Code→Option (Array Oper)
 |.region i ops _=>if i=k then some ops else none
 |.seq a b=>match opsAt k a with | some x=>some x | none=>opsAt k b
 |.block _ a=>opsAt k a
 |.loop a=>opsAt k a
 |.scope a=>opsAt k a
 |.cond _ a b=>match opsAt k a with | some x=>some x | none=>opsAt k b
 |_=>none
noncomputable def kops:Array Oper:=((Tryz.f89.body.bind (opsAt 6)).getD #[])
def kslots:List (Nat × SK):=[(0,.mm),(2,.lv),(4,.am),(5,.wc),(6,.nm),(15,.mm),(16,.am),(17,.kd),(18,.am),(19,.kd),(20,.mk),(21,.nm),(22,.sl),(23,.kd),(24,.mk),(25,.nm),(26,.sl),(27,.kd),(28,.mk),(29,.nm),(30,.lv),(31,.nm),(32,.sl),(33,.kd),(34,.am),(35,.kd),(36,.wc),(37,.mk),(38,.nm),(39,.lv),(40,.lv),(41,.nm),(42,.sl),(43,.kd),(44,.kd),(45,.mk),(46,.nm),(47,.lv),(48,.lv),(49,.nm),(50,.sl),(51,.kd),(52,.mk),(53,.nm),(54,.lv),(55,.lv),(56,.lv),(57,.nm),(58,.sl),(59,.kd),(60,.mk),(61,.sx),(62,.ex),(63,.mk),(64,.sl),(65,.kd),(66,.mk),(67,.nm),(68,.lv),(69,.lv),(70,.lv),(71,.nm),(72,.sl),(73,.kd),(74,.mk),(75,.nm),(76,.lv),(77,.nm),(78,.sl),(79,.kd),(80,.mk),(81,.nm),(82,.lv),(83,.nm),(84,.sl),(85,.kd),(86,.mk),(87,.nm),(88,.lv),(89,.nm),(90,.sl),(91,.kd),(92,.wc),(93,.mk),(94,.nm),(95,.lv),(96,.nm),(97,.sl),(98,.kd),(99,.kd),(100,.am),(101,.kd),(102,.am),(103,.kd),(104,.mm)]
def ksk (s:Nat):SK:=(kslots.lookup s).getD .no
section
variable {c:RC} {f:Nat} {listed:Array Bool} {bm:Option Nat} {a:Act} {w:World} {Q:Exit→Act→World→Prop}
theorem kst0 (h:RInv c ksk 65 kops (f+1) listed bm a w) (hi:0 ∈ Region.ready .any kops listed) (h190:f≤190):wpOp Tryz.prog kops Q 0 (RAt c ksk 65 kops f (listed.setIfInBounds 0 true)) a w :=
 st_makeM h hi rfl rfl h190 _ 15 rfl (by decide) ⟨rfl,by decide,by decide,by decide⟩ rfl
theorem kst1 (h:RInv c ksk 65 kops (f+1) listed bm a w) (hi:1 ∈ Region.ready .any kops listed) (_h190:f≤190):wpOp Tryz.prog kops Q 1 (RAt c ksk 65 kops f (listed.setIfInBounds 1 true)) a w :=
 st_move h hi rfl rfl 4 16 (.inl rfl) (by decide) ⟨rfl,by decide,by decide,by decide⟩ (.inl (.inr (.inl rfl))) rfl
theorem kst2 (h:RInv c ksk 65 kops (f+1) listed bm a w) (hi:2 ∈ Region.ready .any kops listed) (_h190:f≤190):wpOp Tryz.prog kops Q 2 (RAt c ksk 65 kops f (listed.setIfInBounds 2 true)) a w :=
 st_am h hi rfl rfl 16 17 _ _ rfl (by decide) ⟨rfl,by decide,by decide,by decide⟩ rfl (filled_pred hi rfl 1 rfl rfl rfl) rfl
theorem kst3 (h:RInv c ksk 65 kops (f+1) listed bm a w) (hi:3 ∈ Region.ready .any kops listed) (_h190:f≤190):wpOp Tryz.prog kops Q 3 (RAt c ksk 65 kops f (listed.setIfInBounds 3 true)) a w :=
 st_insM h hi rfl rfl 15 1 _ rfl (by decide) rfl (filled_pred hi rfl 0 rfl rfl rfl) rfl (by decide) (by decide)
theorem kst4 (h:RInv c ksk 65 kops (f+1) listed bm a w) (hi:4 ∈ Region.ready .any kops listed) (_h190:f≤190):wpOp Tryz.prog kops Q 4 (RAt c ksk 65 kops f (listed.setIfInBounds 4 true)) a w :=
 st_move h hi rfl rfl 4 18 (.inl rfl) (by decide) ⟨rfl,by decide,by decide,by decide⟩ (.inl (.inr (.inl rfl))) rfl
theorem kst5 (h:RInv c ksk 65 kops (f+1) listed bm a w) (hi:5 ∈ Region.ready .any kops listed) (_h190:f≤190):wpOp Tryz.prog kops Q 5 (RAt c ksk 65 kops f (listed.setIfInBounds 5 true)) a w :=
 st_am h hi rfl rfl 18 19 _ _ rfl (by decide) ⟨rfl,by decide,by decide,by decide⟩ rfl (filled_pred hi rfl 4 rfl rfl rfl) rfl
theorem kst6 (h:RInv c ksk 65 kops (f+1) listed bm a w) (hi:6 ∈ Region.ready .any kops listed) (_h190:f≤190):wpOp Tryz.prog kops Q 6 (RAt c ksk 65 kops f (listed.setIfInBounds 6 true)) a w :=
 st_insM h hi rfl rfl 15 2 _ rfl (by decide) rfl (filled_pred hi rfl 0 rfl rfl rfl) rfl (by decide) (by decide)
theorem kst7 (h:RInv c ksk 65 kops (f+1) listed bm a w) (hi:7 ∈ Region.ready .any kops listed) (_h190:f≤190):wpOp Tryz.prog kops Q 7 (RAt c ksk 65 kops f (listed.setIfInBounds 7 true)) a w :=
 st_load3 h hi rfl rfl 20 rfl (by decide) ⟨rfl,by decide,by decide,by decide⟩ rfl
theorem kst8 (h:RInv c ksk 65 kops (f+1) listed bm a w) (hi:8 ∈ Region.ready .any kops listed) (_h190:f≤190):wpOp Tryz.prog kops Q 8 (RAt c ksk 65 kops f (listed.setIfInBounds 8 true)) a w :=
 st_move h hi rfl rfl 6 21 (.inl rfl) (by decide) ⟨rfl,by decide,by decide,by decide⟩ (.inl (.inr (.inr (.inr rfl)))) rfl
theorem kst9 (h:RInv c ksk 65 kops (f+1) listed bm a w) (hi:9 ∈ Region.ready .any kops listed) (_h190:f≤190):wpOp Tryz.prog kops Q 9 (RAt c ksk 65 kops f (listed.setIfInBounds 9 true)) a w :=
 st_sl1 h hi rfl rfl 0 22 rfl (by decide) ⟨rfl,by decide,by decide,by decide⟩ rfl (by decide)
theorem kst10 (h:RInv c ksk 65 kops (f+1) listed bm a w) (hi:10 ∈ Region.ready .any kops listed) (_h190:f≤190):wpOp Tryz.prog kops Q 10 (RAt c ksk 65 kops f (listed.setIfInBounds 10 true)) a w :=
 st_mk h hi rfl rfl 20 21 22 23 _ _ _ rfl (by decide) ⟨rfl,by decide,by decide,by decide⟩ rfl (filled_pred hi rfl 7 rfl rfl rfl) rfl (filled_pred hi rfl 8 rfl rfl rfl) rfl (filled_pred hi rfl 9 rfl rfl rfl) rfl
theorem kst11 (h:RInv c ksk 65 kops (f+1) listed bm a w) (hi:11 ∈ Region.ready .any kops listed) (_h190:f≤190):wpOp Tryz.prog kops Q 11 (RAt c ksk 65 kops f (listed.setIfInBounds 11 true)) a w :=
 st_insM h hi rfl rfl 15 3 _ rfl (by decide) rfl (filled_pred hi rfl 0 rfl rfl rfl) rfl (by decide) (by decide)
theorem kst12 (h:RInv c ksk 65 kops (f+1) listed bm a w) (hi:12 ∈ Region.ready .any kops listed) (_h190:f≤190):wpOp Tryz.prog kops Q 12 (RAt c ksk 65 kops f (listed.setIfInBounds 12 true)) a w :=
 st_load3 h hi rfl rfl 24 rfl (by decide) ⟨rfl,by decide,by decide,by decide⟩ rfl
theorem kst13 (h:RInv c ksk 65 kops (f+1) listed bm a w) (hi:13 ∈ Region.ready .any kops listed) (_h190:f≤190):wpOp Tryz.prog kops Q 13 (RAt c ksk 65 kops f (listed.setIfInBounds 13 true)) a w :=
 st_move h hi rfl rfl 6 25 (.inl rfl) (by decide) ⟨rfl,by decide,by decide,by decide⟩ (.inl (.inr (.inr (.inr rfl)))) rfl
theorem kst14 (h:RInv c ksk 65 kops (f+1) listed bm a w) (hi:14 ∈ Region.ready .any kops listed) (_h190:f≤190):wpOp Tryz.prog kops Q 14 (RAt c ksk 65 kops f (listed.setIfInBounds 14 true)) a w :=
 st_sl2 h hi rfl rfl 0 10 26 rfl (by decide) ⟨rfl,by decide,by decide,by decide⟩ rfl (by decide)
theorem kst15 (h:RInv c ksk 65 kops (f+1) listed bm a w) (hi:15 ∈ Region.ready .any kops listed) (_h190:f≤190):wpOp Tryz.prog kops Q 15 (RAt c ksk 65 kops f (listed.setIfInBounds 15 true)) a w :=
 st_mk h hi rfl rfl 24 25 26 27 _ _ _ rfl (by decide) ⟨rfl,by decide,by decide,by decide⟩ rfl (filled_pred hi rfl 12 rfl rfl rfl) rfl (filled_pred hi rfl 13 rfl rfl rfl) rfl (filled_pred hi rfl 14 rfl rfl rfl) rfl
theorem kst16 (h:RInv c ksk 65 kops (f+1) listed bm a w) (hi:16 ∈ Region.ready .any kops listed) (_h190:f≤190):wpOp Tryz.prog kops Q 16 (RAt c ksk 65 kops f (listed.setIfInBounds 16 true)) a w :=
 st_insM h hi rfl rfl 15 4 _ rfl (by decide) rfl (filled_pred hi rfl 0 rfl rfl rfl) rfl (by decide) (by decide)
theorem kst17 (h:RInv c ksk 65 kops (f+1) listed bm a w) (hi:17 ∈ Region.ready .any kops listed) (_h190:f≤190):wpOp Tryz.prog kops Q 17 (RAt c ksk 65 kops f (listed.setIfInBounds 17 true)) a w :=
 st_load3 h hi rfl rfl 28 rfl (by decide) ⟨rfl,by decide,by decide,by decide⟩ rfl
theorem kst18 (h:RInv c ksk 65 kops (f+1) listed bm a w) (hi:18 ∈ Region.ready .any kops listed) (h190:f≤190):wpOp Tryz.prog kops Q 18 (RAt c ksk 65 kops f (listed.setIfInBounds 18 true)) a w :=
 st_makeN h hi rfl rfl h190 _ 29 rfl (by decide) ⟨rfl,by decide,by decide,by decide⟩ rfl
theorem kst19 (h:RInv c ksk 65 kops (f+1) listed bm a w) (hi:19 ∈ Region.ready .any kops listed) (_h190:f≤190):wpOp Tryz.prog kops Q 19 (RAt c ksk 65 kops f (listed.setIfInBounds 19 true)) a w :=
 st_load1 h hi rfl rfl 30 rfl (by decide) ⟨rfl,by decide,by decide,by decide⟩ rfl
theorem kst20 (h:RInv c ksk 65 kops (f+1) listed bm a w) (hi:20 ∈ Region.ready .any kops listed) (_h190:f≤190):wpOp Tryz.prog kops Q 20 (RAt c ksk 65 kops f (listed.setIfInBounds 20 true)) a w :=
 st_insN h hi rfl rfl 29 7 _ rfl (by decide) rfl (filled_pred hi rfl 18 rfl rfl rfl) rfl (by decide)
theorem kst21 (h:RInv c ksk 65 kops (f+1) listed bm a w) (hi:21 ∈ Region.ready .any kops listed) (_h190:f≤190):wpOp Tryz.prog kops Q 21 (RAt c ksk 65 kops f (listed.setIfInBounds 21 true)) a w :=
 st_move h hi rfl rfl 29 31 (.inl rfl) (by decide) ⟨rfl,by decide,by decide,by decide⟩ (filled_pred hi rfl 18 rfl rfl rfl) rfl
theorem kst22 (h:RInv c ksk 65 kops (f+1) listed bm a w) (hi:22 ∈ Region.ready .any kops listed) (_h190:f≤190):wpOp Tryz.prog kops Q 22 (RAt c ksk 65 kops f (listed.setIfInBounds 22 true)) a w :=
 st_sl1 h hi rfl rfl 0 32 rfl (by decide) ⟨rfl,by decide,by decide,by decide⟩ rfl (by decide)
theorem kst23 (h:RInv c ksk 65 kops (f+1) listed bm a w) (hi:23 ∈ Region.ready .any kops listed) (_h190:f≤190):wpOp Tryz.prog kops Q 23 (RAt c ksk 65 kops f (listed.setIfInBounds 23 true)) a w :=
 st_mk h hi rfl rfl 28 31 32 33 _ _ _ rfl (by decide) ⟨rfl,by decide,by decide,by decide⟩ rfl (filled_pred hi rfl 17 rfl rfl rfl) rfl (filled_pred hi rfl 21 rfl rfl rfl) rfl (filled_pred hi rfl 22 rfl rfl rfl) rfl
theorem kst24 (h:RInv c ksk 65 kops (f+1) listed bm a w) (hi:24 ∈ Region.ready .any kops listed) (_h190:f≤190):wpOp Tryz.prog kops Q 24 (RAt c ksk 65 kops f (listed.setIfInBounds 24 true)) a w :=
 st_insM h hi rfl rfl 15 5 _ rfl (by decide) rfl (filled_pred hi rfl 0 rfl rfl rfl) rfl (by decide) (by decide)
theorem kst25 (h:RInv c ksk 65 kops (f+1) listed bm a w) (hi:25 ∈ Region.ready .any kops listed) (_h190:f≤190):wpOp Tryz.prog kops Q 25 (RAt c ksk 65 kops f (listed.setIfInBounds 25 true)) a w :=
 st_move h hi rfl rfl 4 34 (.inl rfl) (by decide) ⟨rfl,by decide,by decide,by decide⟩ (.inl (.inr (.inl rfl))) rfl
theorem kst26 (h:RInv c ksk 65 kops (f+1) listed bm a w) (hi:26 ∈ Region.ready .any kops listed) (_h190:f≤190):wpOp Tryz.prog kops Q 26 (RAt c ksk 65 kops f (listed.setIfInBounds 26 true)) a w :=
 st_am h hi rfl rfl 34 35 _ _ rfl (by decide) ⟨rfl,by decide,by decide,by decide⟩ rfl (filled_pred hi rfl 25 rfl rfl rfl) rfl
theorem kst27 (h:RInv c ksk 65 kops (f+1) listed bm a w) (hi:27 ∈ Region.ready .any kops listed) (_h190:f≤190):wpOp Tryz.prog kops Q 27 (RAt c ksk 65 kops f (listed.setIfInBounds 27 true)) a w :=
 st_insM h hi rfl rfl 15 6 _ rfl (by decide) rfl (filled_pred hi rfl 0 rfl rfl rfl) rfl (by decide) (by decide)
theorem kst28 (h:RInv c ksk 65 kops (f+1) listed bm a w) (hi:28 ∈ Region.ready .any kops listed) (_h190:f≤190):wpOp Tryz.prog kops Q 28 (RAt c ksk 65 kops f (listed.setIfInBounds 28 true)) a w :=
 st_move h hi rfl rfl 5 36 (.inl rfl) (by decide) ⟨rfl,by decide,by decide,by decide⟩ (.inl (.inr (.inr (.inl rfl)))) rfl
theorem kst29 (h:RInv c ksk 65 kops (f+1) listed bm a w) (hi:29 ∈ Region.ready .any kops listed) (_h190:f≤190):wpOp Tryz.prog kops Q 29 (RAt c ksk 65 kops f (listed.setIfInBounds 29 true)) a w :=
 st_load3 h hi rfl rfl 37 rfl (by decide) ⟨rfl,by decide,by decide,by decide⟩ rfl
theorem kst30 (h:RInv c ksk 65 kops (f+1) listed bm a w) (hi:30 ∈ Region.ready .any kops listed) (h190:f≤190):wpOp Tryz.prog kops Q 30 (RAt c ksk 65 kops f (listed.setIfInBounds 30 true)) a w :=
 st_makeN h hi rfl rfl h190 _ 38 rfl (by decide) ⟨rfl,by decide,by decide,by decide⟩ rfl
theorem kst31 (h:RInv c ksk 65 kops (f+1) listed bm a w) (hi:31 ∈ Region.ready .any kops listed) (_h190:f≤190):wpOp Tryz.prog kops Q 31 (RAt c ksk 65 kops f (listed.setIfInBounds 31 true)) a w :=
 st_load1 h hi rfl rfl 39 rfl (by decide) ⟨rfl,by decide,by decide,by decide⟩ rfl
theorem kst32 (h:RInv c ksk 65 kops (f+1) listed bm a w) (hi:32 ∈ Region.ready .any kops listed) (_h190:f≤190):wpOp Tryz.prog kops Q 32 (RAt c ksk 65 kops f (listed.setIfInBounds 32 true)) a w :=
 st_insN h hi rfl rfl 38 4 _ rfl (by decide) rfl (filled_pred hi rfl 30 rfl rfl rfl) rfl (by decide)
theorem kst33 (h:RInv c ksk 65 kops (f+1) listed bm a w) (hi:33 ∈ Region.ready .any kops listed) (_h190:f≤190):wpOp Tryz.prog kops Q 33 (RAt c ksk 65 kops f (listed.setIfInBounds 33 true)) a w :=
 st_load1 h hi rfl rfl 40 rfl (by decide) ⟨rfl,by decide,by decide,by decide⟩ rfl
theorem kst34 (h:RInv c ksk 65 kops (f+1) listed bm a w) (hi:34 ∈ Region.ready .any kops listed) (_h190:f≤190):wpOp Tryz.prog kops Q 34 (RAt c ksk 65 kops f (listed.setIfInBounds 34 true)) a w :=
 st_insN h hi rfl rfl 38 5 _ rfl (by decide) rfl (filled_pred hi rfl 30 rfl rfl rfl) rfl (by decide)
theorem kst35 (h:RInv c ksk 65 kops (f+1) listed bm a w) (hi:35 ∈ Region.ready .any kops listed) (_h190:f≤190):wpOp Tryz.prog kops Q 35 (RAt c ksk 65 kops f (listed.setIfInBounds 35 true)) a w :=
 st_move h hi rfl rfl 38 41 (.inl rfl) (by decide) ⟨rfl,by decide,by decide,by decide⟩ (filled_pred hi rfl 30 rfl rfl rfl) rfl
theorem kst36 (h:RInv c ksk 65 kops (f+1) listed bm a w) (hi:36 ∈ Region.ready .any kops listed) (_h190:f≤190):wpOp Tryz.prog kops Q 36 (RAt c ksk 65 kops f (listed.setIfInBounds 36 true)) a w :=
 st_sl2 h hi rfl rfl 1 2 42 rfl (by decide) ⟨rfl,by decide,by decide,by decide⟩ rfl (by decide)
theorem kst37 (h:RInv c ksk 65 kops (f+1) listed bm a w) (hi:37 ∈ Region.ready .any kops listed) (_h190:f≤190):wpOp Tryz.prog kops Q 37 (RAt c ksk 65 kops f (listed.setIfInBounds 37 true)) a w :=
 st_mk h hi rfl rfl 37 41 42 43 _ _ _ rfl (by decide) ⟨rfl,by decide,by decide,by decide⟩ rfl (filled_pred hi rfl 29 rfl rfl rfl) rfl (filled_pred hi rfl 35 rfl rfl rfl) rfl (filled_pred hi rfl 36 rfl rfl rfl) rfl
theorem kst38 (h:RInv c ksk 65 kops (f+1) listed bm a w) (hi:38 ∈ Region.ready .any kops listed) (_h190:f≤190):wpOp Tryz.prog kops Q 38 (RAt c ksk 65 kops f (listed.setIfInBounds 38 true)) a w :=
 st_wc h hi rfl rfl 36 43 44 _ rfl (by decide) ⟨rfl,by decide,by decide,by decide⟩ rfl (filled_pred hi rfl 28 rfl rfl rfl) rfl (filled_pred hi rfl 37 rfl rfl rfl) rfl
theorem kst39 (h:RInv c ksk 65 kops (f+1) listed bm a w) (hi:39 ∈ Region.ready .any kops listed) (_h190:f≤190):wpOp Tryz.prog kops Q 39 (RAt c ksk 65 kops f (listed.setIfInBounds 39 true)) a w :=
 st_insM h hi rfl rfl 15 7 _ rfl (by decide) rfl (filled_pred hi rfl 0 rfl rfl rfl) rfl (by decide) (by decide)
theorem kst40 (h:RInv c ksk 65 kops (f+1) listed bm a w) (hi:40 ∈ Region.ready .any kops listed) (_h190:f≤190):wpOp Tryz.prog kops Q 40 (RAt c ksk 65 kops f (listed.setIfInBounds 40 true)) a w :=
 st_load3 h hi rfl rfl 45 rfl (by decide) ⟨rfl,by decide,by decide,by decide⟩ rfl
theorem kst41 (h:RInv c ksk 65 kops (f+1) listed bm a w) (hi:41 ∈ Region.ready .any kops listed) (h190:f≤190):wpOp Tryz.prog kops Q 41 (RAt c ksk 65 kops f (listed.setIfInBounds 41 true)) a w :=
 st_makeN h hi rfl rfl h190 _ 46 rfl (by decide) ⟨rfl,by decide,by decide,by decide⟩ rfl
theorem kst42 (h:RInv c ksk 65 kops (f+1) listed bm a w) (hi:42 ∈ Region.ready .any kops listed) (_h190:f≤190):wpOp Tryz.prog kops Q 42 (RAt c ksk 65 kops f (listed.setIfInBounds 42 true)) a w :=
 st_move h hi rfl rfl 2 47 (.inl rfl) (by decide) ⟨rfl,by decide,by decide,by decide⟩ (.inl (.inl rfl)) rfl
theorem kst43 (h:RInv c ksk 65 kops (f+1) listed bm a w) (hi:43 ∈ Region.ready .any kops listed) (_h190:f≤190):wpOp Tryz.prog kops Q 43 (RAt c ksk 65 kops f (listed.setIfInBounds 43 true)) a w :=
 st_insN h hi rfl rfl 46 7 _ rfl (by decide) rfl (filled_pred hi rfl 41 rfl rfl rfl) rfl (by decide)
theorem kst44 (h:RInv c ksk 65 kops (f+1) listed bm a w) (hi:44 ∈ Region.ready .any kops listed) (_h190:f≤190):wpOp Tryz.prog kops Q 44 (RAt c ksk 65 kops f (listed.setIfInBounds 44 true)) a w :=
 st_load1 h hi rfl rfl 48 rfl (by decide) ⟨rfl,by decide,by decide,by decide⟩ rfl
theorem kst45 (h:RInv c ksk 65 kops (f+1) listed bm a w) (hi:45 ∈ Region.ready .any kops listed) (_h190:f≤190):wpOp Tryz.prog kops Q 45 (RAt c ksk 65 kops f (listed.setIfInBounds 45 true)) a w :=
 st_insN h hi rfl rfl 46 8 _ rfl (by decide) rfl (filled_pred hi rfl 41 rfl rfl rfl) rfl (by decide)
theorem kst46 (h:RInv c ksk 65 kops (f+1) listed bm a w) (hi:46 ∈ Region.ready .any kops listed) (_h190:f≤190):wpOp Tryz.prog kops Q 46 (RAt c ksk 65 kops f (listed.setIfInBounds 46 true)) a w :=
 st_move h hi rfl rfl 46 49 (.inl rfl) (by decide) ⟨rfl,by decide,by decide,by decide⟩ (filled_pred hi rfl 41 rfl rfl rfl) rfl
theorem kst47 (h:RInv c ksk 65 kops (f+1) listed bm a w) (hi:47 ∈ Region.ready .any kops listed) (_h190:f≤190):wpOp Tryz.prog kops Q 47 (RAt c ksk 65 kops f (listed.setIfInBounds 47 true)) a w :=
 st_sl1 h hi rfl rfl 0 50 rfl (by decide) ⟨rfl,by decide,by decide,by decide⟩ rfl (by decide)
theorem kst48 (h:RInv c ksk 65 kops (f+1) listed bm a w) (hi:48 ∈ Region.ready .any kops listed) (_h190:f≤190):wpOp Tryz.prog kops Q 48 (RAt c ksk 65 kops f (listed.setIfInBounds 48 true)) a w :=
 st_mk h hi rfl rfl 45 49 50 51 _ _ _ rfl (by decide) ⟨rfl,by decide,by decide,by decide⟩ rfl (filled_pred hi rfl 40 rfl rfl rfl) rfl (filled_pred hi rfl 46 rfl rfl rfl) rfl (filled_pred hi rfl 47 rfl rfl rfl) rfl
theorem kst49 (h:RInv c ksk 65 kops (f+1) listed bm a w) (hi:49 ∈ Region.ready .any kops listed) (_h190:f≤190):wpOp Tryz.prog kops Q 49 (RAt c ksk 65 kops f (listed.setIfInBounds 49 true)) a w :=
 st_insM h hi rfl rfl 15 8 _ rfl (by decide) rfl (filled_pred hi rfl 0 rfl rfl rfl) rfl (by decide) (by decide)
theorem kst50 (h:RInv c ksk 65 kops (f+1) listed bm a w) (hi:50 ∈ Region.ready .any kops listed) (_h190:f≤190):wpOp Tryz.prog kops Q 50 (RAt c ksk 65 kops f (listed.setIfInBounds 50 true)) a w :=
 st_load3 h hi rfl rfl 52 rfl (by decide) ⟨rfl,by decide,by decide,by decide⟩ rfl
theorem kst51 (h:RInv c ksk 65 kops (f+1) listed bm a w) (hi:51 ∈ Region.ready .any kops listed) (h190:f≤190):wpOp Tryz.prog kops Q 51 (RAt c ksk 65 kops f (listed.setIfInBounds 51 true)) a w :=
 st_makeN h hi rfl rfl h190 _ 53 rfl (by decide) ⟨rfl,by decide,by decide,by decide⟩ rfl
theorem kst52 (h:RInv c ksk 65 kops (f+1) listed bm a w) (hi:52 ∈ Region.ready .any kops listed) (_h190:f≤190):wpOp Tryz.prog kops Q 52 (RAt c ksk 65 kops f (listed.setIfInBounds 52 true)) a w :=
 st_move h hi rfl rfl 2 54 (.inl rfl) (by decide) ⟨rfl,by decide,by decide,by decide⟩ (.inl (.inl rfl)) rfl
theorem kst53 (h:RInv c ksk 65 kops (f+1) listed bm a w) (hi:53 ∈ Region.ready .any kops listed) (_h190:f≤190):wpOp Tryz.prog kops Q 53 (RAt c ksk 65 kops f (listed.setIfInBounds 53 true)) a w :=
 st_insN h hi rfl rfl 53 7 _ rfl (by decide) rfl (filled_pred hi rfl 51 rfl rfl rfl) rfl (by decide)
theorem kst54 (h:RInv c ksk 65 kops (f+1) listed bm a w) (hi:54 ∈ Region.ready .any kops listed) (_h190:f≤190):wpOp Tryz.prog kops Q 54 (RAt c ksk 65 kops f (listed.setIfInBounds 54 true)) a w :=
 st_load1 h hi rfl rfl 55 rfl (by decide) ⟨rfl,by decide,by decide,by decide⟩ rfl
theorem kst55 (h:RInv c ksk 65 kops (f+1) listed bm a w) (hi:55 ∈ Region.ready .any kops listed) (_h190:f≤190):wpOp Tryz.prog kops Q 55 (RAt c ksk 65 kops f (listed.setIfInBounds 55 true)) a w :=
 st_insN h hi rfl rfl 53 8 _ rfl (by decide) rfl (filled_pred hi rfl 51 rfl rfl rfl) rfl (by decide)
theorem kst56 (h:RInv c ksk 65 kops (f+1) listed bm a w) (hi:56 ∈ Region.ready .any kops listed) (_h190:f≤190):wpOp Tryz.prog kops Q 56 (RAt c ksk 65 kops f (listed.setIfInBounds 56 true)) a w :=
 st_bt h hi rfl rfl 56 _ _ _ rfl (by decide) ⟨rfl,by decide,by decide,by decide⟩ rfl
theorem kst57 (h:RInv c ksk 65 kops (f+1) listed bm a w) (hi:57 ∈ Region.ready .any kops listed) (_h190:f≤190):wpOp Tryz.prog kops Q 57 (RAt c ksk 65 kops f (listed.setIfInBounds 57 true)) a w :=
 st_insN h hi rfl rfl 53 9 _ rfl (by decide) rfl (filled_pred hi rfl 51 rfl rfl rfl) rfl (by decide)
theorem kst58 (h:RInv c ksk 65 kops (f+1) listed bm a w) (hi:58 ∈ Region.ready .any kops listed) (_h190:f≤190):wpOp Tryz.prog kops Q 58 (RAt c ksk 65 kops f (listed.setIfInBounds 58 true)) a w :=
 st_move h hi rfl rfl 53 57 (.inl rfl) (by decide) ⟨rfl,by decide,by decide,by decide⟩ (filled_pred hi rfl 51 rfl rfl rfl) rfl
theorem kst59 (h:RInv c ksk 65 kops (f+1) listed bm a w) (hi:59 ∈ Region.ready .any kops listed) (_h190:f≤190):wpOp Tryz.prog kops Q 59 (RAt c ksk 65 kops f (listed.setIfInBounds 59 true)) a w :=
 st_sl2 h hi rfl rfl 0 1 58 rfl (by decide) ⟨rfl,by decide,by decide,by decide⟩ rfl (by decide)
theorem kst60 (h:RInv c ksk 65 kops (f+1) listed bm a w) (hi:60 ∈ Region.ready .any kops listed) (_h190:f≤190):wpOp Tryz.prog kops Q 60 (RAt c ksk 65 kops f (listed.setIfInBounds 60 true)) a w :=
 st_mk h hi rfl rfl 52 57 58 59 _ _ _ rfl (by decide) ⟨rfl,by decide,by decide,by decide⟩ rfl (filled_pred hi rfl 50 rfl rfl rfl) rfl (filled_pred hi rfl 58 rfl rfl rfl) rfl (filled_pred hi rfl 59 rfl rfl rfl) rfl
theorem kst61 (h:RInv c ksk 65 kops (f+1) listed bm a w) (hi:61 ∈ Region.ready .any kops listed) (_h190:f≤190):wpOp Tryz.prog kops Q 61 (RAt c ksk 65 kops f (listed.setIfInBounds 61 true)) a w :=
 st_insM h hi rfl rfl 15 9 _ rfl (by decide) rfl (filled_pred hi rfl 0 rfl rfl rfl) rfl (by decide) (by decide)
theorem kst62 (h:RInv c ksk 65 kops (f+1) listed bm a w) (hi:62 ∈ Region.ready .any kops listed) (_h190:f≤190):wpOp Tryz.prog kops Q 62 (RAt c ksk 65 kops f (listed.setIfInBounds 62 true)) a w :=
 st_load3 h hi rfl rfl 60 rfl (by decide) ⟨rfl,by decide,by decide,by decide⟩ rfl
theorem kst63 (h:RInv c ksk 65 kops (f+1) listed bm a w) (hi:63 ∈ Region.ready .any kops listed) (_h190:f≤190):wpOp Tryz.prog kops Q 63 (RAt c ksk 65 kops f (listed.setIfInBounds 63 true)) a w :=
 st_slx h hi rfl rfl 61 rfl (by decide) ⟨rfl,by decide,by decide,by decide⟩ rfl
theorem kst64 (h:RInv c ksk 65 kops (f+1) listed bm a w) (hi:64 ∈ Region.ready .any kops listed) (_h190:f≤190):wpOp Tryz.prog kops Q 64 (RAt c ksk 65 kops f (listed.setIfInBounds 64 true)) a w :=
 st_ex h hi rfl rfl 60 61 62 _ rfl (by decide) ⟨rfl,by decide,by decide,by decide⟩ rfl (filled_pred hi rfl 62 rfl rfl rfl) rfl (filled_pred hi rfl 63 rfl rfl rfl) rfl
theorem kst65 (h:RInv c ksk 65 kops (f+1) listed bm a w) (hi:65 ∈ Region.ready .any kops listed) (_h190:f≤190):wpOp Tryz.prog kops Q 65 (RAt c ksk 65 kops f (listed.setIfInBounds 65 true)) a w :=
 st_ins10 h hi rfl rfl 15 62 rfl rfl (filled_pred hi rfl 0 rfl rfl rfl) rfl (filled_pred hi rfl 64 rfl rfl rfl) rfl
theorem kst66 (h:RInv c ksk 65 kops (f+1) listed bm a w) (hi:66 ∈ Region.ready .any kops listed) (_h190:f≤190):wpOp Tryz.prog kops Q 66 (RAt c ksk 65 kops f (listed.setIfInBounds 66 true)) a w :=
 st_load3 h hi rfl rfl 63 rfl (by decide) ⟨rfl,by decide,by decide,by decide⟩ rfl
theorem kst67 (h:RInv c ksk 65 kops (f+1) listed bm a w) (hi:67 ∈ Region.ready .any kops listed) (_h190:f≤190):wpOp Tryz.prog kops Q 67 (RAt c ksk 65 kops f (listed.setIfInBounds 67 true)) a w :=
 st_sl3 h hi rfl rfl 0 3 12 64 rfl (by decide) ⟨rfl,by decide,by decide,by decide⟩ rfl (by decide)
theorem kst68 (h:RInv c ksk 65 kops (f+1) listed bm a w) (hi:68 ∈ Region.ready .any kops listed) (_h190:f≤190):wpOp Tryz.prog kops Q 68 (RAt c ksk 65 kops f (listed.setIfInBounds 68 true)) a w :=
 st_mkn h hi rfl rfl 63 64 65 _ _ _ rfl (by decide) ⟨rfl,by decide,by decide,by decide⟩ rfl (filled_pred hi rfl 66 rfl rfl rfl) rfl (filled_pred hi rfl 67 rfl rfl rfl) rfl
theorem kst69 (h:RInv c ksk 65 kops (f+1) listed bm a w) (hi:69 ∈ Region.ready .any kops listed) (_h190:f≤190):wpOp Tryz.prog kops Q 69 (RAt c ksk 65 kops f (listed.setIfInBounds 69 true)) a w :=
 st_insM h hi rfl rfl 15 11 _ rfl (by decide) rfl (filled_pred hi rfl 0 rfl rfl rfl) rfl (by decide) (by decide)
theorem kst70 (h:RInv c ksk 65 kops (f+1) listed bm a w) (hi:70 ∈ Region.ready .any kops listed) (_h190:f≤190):wpOp Tryz.prog kops Q 70 (RAt c ksk 65 kops f (listed.setIfInBounds 70 true)) a w :=
 st_load3 h hi rfl rfl 66 rfl (by decide) ⟨rfl,by decide,by decide,by decide⟩ rfl
theorem kst71 (h:RInv c ksk 65 kops (f+1) listed bm a w) (hi:71 ∈ Region.ready .any kops listed) (h190:f≤190):wpOp Tryz.prog kops Q 71 (RAt c ksk 65 kops f (listed.setIfInBounds 71 true)) a w :=
 st_makeN h hi rfl rfl h190 _ 67 rfl (by decide) ⟨rfl,by decide,by decide,by decide⟩ rfl
theorem kst72 (h:RInv c ksk 65 kops (f+1) listed bm a w) (hi:72 ∈ Region.ready .any kops listed) (_h190:f≤190):wpOp Tryz.prog kops Q 72 (RAt c ksk 65 kops f (listed.setIfInBounds 72 true)) a w :=
 st_load1 h hi rfl rfl 68 rfl (by decide) ⟨rfl,by decide,by decide,by decide⟩ rfl
theorem kst73 (h:RInv c ksk 65 kops (f+1) listed bm a w) (hi:73 ∈ Region.ready .any kops listed) (_h190:f≤190):wpOp Tryz.prog kops Q 73 (RAt c ksk 65 kops f (listed.setIfInBounds 73 true)) a w :=
 st_insN h hi rfl rfl 67 4 _ rfl (by decide) rfl (filled_pred hi rfl 71 rfl rfl rfl) rfl (by decide)
theorem kst74 (h:RInv c ksk 65 kops (f+1) listed bm a w) (hi:74 ∈ Region.ready .any kops listed) (_h190:f≤190):wpOp Tryz.prog kops Q 74 (RAt c ksk 65 kops f (listed.setIfInBounds 74 true)) a w :=
 st_move h hi rfl rfl 2 69 (.inl rfl) (by decide) ⟨rfl,by decide,by decide,by decide⟩ (.inl (.inl rfl)) rfl
theorem kst75 (h:RInv c ksk 65 kops (f+1) listed bm a w) (hi:75 ∈ Region.ready .any kops listed) (_h190:f≤190):wpOp Tryz.prog kops Q 75 (RAt c ksk 65 kops f (listed.setIfInBounds 75 true)) a w :=
 st_insN h hi rfl rfl 67 7 _ rfl (by decide) rfl (filled_pred hi rfl 71 rfl rfl rfl) rfl (by decide)
theorem kst76 (h:RInv c ksk 65 kops (f+1) listed bm a w) (hi:76 ∈ Region.ready .any kops listed) (_h190:f≤190):wpOp Tryz.prog kops Q 76 (RAt c ksk 65 kops f (listed.setIfInBounds 76 true)) a w :=
 st_load1 h hi rfl rfl 70 rfl (by decide) ⟨rfl,by decide,by decide,by decide⟩ rfl
theorem kst77 (h:RInv c ksk 65 kops (f+1) listed bm a w) (hi:77 ∈ Region.ready .any kops listed) (_h190:f≤190):wpOp Tryz.prog kops Q 77 (RAt c ksk 65 kops f (listed.setIfInBounds 77 true)) a w :=
 st_insN h hi rfl rfl 67 8 _ rfl (by decide) rfl (filled_pred hi rfl 71 rfl rfl rfl) rfl (by decide)
theorem kst78 (h:RInv c ksk 65 kops (f+1) listed bm a w) (hi:78 ∈ Region.ready .any kops listed) (_h190:f≤190):wpOp Tryz.prog kops Q 78 (RAt c ksk 65 kops f (listed.setIfInBounds 78 true)) a w :=
 st_move h hi rfl rfl 67 71 (.inl rfl) (by decide) ⟨rfl,by decide,by decide,by decide⟩ (filled_pred hi rfl 71 rfl rfl rfl) rfl
theorem kst79 (h:RInv c ksk 65 kops (f+1) listed bm a w) (hi:79 ∈ Region.ready .any kops listed) (_h190:f≤190):wpOp Tryz.prog kops Q 79 (RAt c ksk 65 kops f (listed.setIfInBounds 79 true)) a w :=
 st_sl2 h hi rfl rfl 0 1 72 rfl (by decide) ⟨rfl,by decide,by decide,by decide⟩ rfl (by decide)
theorem kst80 (h:RInv c ksk 65 kops (f+1) listed bm a w) (hi:80 ∈ Region.ready .any kops listed) (_h190:f≤190):wpOp Tryz.prog kops Q 80 (RAt c ksk 65 kops f (listed.setIfInBounds 80 true)) a w :=
 st_mk h hi rfl rfl 66 71 72 73 _ _ _ rfl (by decide) ⟨rfl,by decide,by decide,by decide⟩ rfl (filled_pred hi rfl 70 rfl rfl rfl) rfl (filled_pred hi rfl 78 rfl rfl rfl) rfl (filled_pred hi rfl 79 rfl rfl rfl) rfl
theorem kst81 (h:RInv c ksk 65 kops (f+1) listed bm a w) (hi:81 ∈ Region.ready .any kops listed) (_h190:f≤190):wpOp Tryz.prog kops Q 81 (RAt c ksk 65 kops f (listed.setIfInBounds 81 true)) a w :=
 st_insM h hi rfl rfl 15 12 _ rfl (by decide) rfl (filled_pred hi rfl 0 rfl rfl rfl) rfl (by decide) (by decide)
theorem kst82 (h:RInv c ksk 65 kops (f+1) listed bm a w) (hi:82 ∈ Region.ready .any kops listed) (_h190:f≤190):wpOp Tryz.prog kops Q 82 (RAt c ksk 65 kops f (listed.setIfInBounds 82 true)) a w :=
 st_load3 h hi rfl rfl 74 rfl (by decide) ⟨rfl,by decide,by decide,by decide⟩ rfl
theorem kst83 (h:RInv c ksk 65 kops (f+1) listed bm a w) (hi:83 ∈ Region.ready .any kops listed) (h190:f≤190):wpOp Tryz.prog kops Q 83 (RAt c ksk 65 kops f (listed.setIfInBounds 83 true)) a w :=
 st_makeN h hi rfl rfl h190 _ 75 rfl (by decide) ⟨rfl,by decide,by decide,by decide⟩ rfl
theorem kst84 (h:RInv c ksk 65 kops (f+1) listed bm a w) (hi:84 ∈ Region.ready .any kops listed) (_h190:f≤190):wpOp Tryz.prog kops Q 84 (RAt c ksk 65 kops f (listed.setIfInBounds 84 true)) a w :=
 st_load1 h hi rfl rfl 76 rfl (by decide) ⟨rfl,by decide,by decide,by decide⟩ rfl
theorem kst85 (h:RInv c ksk 65 kops (f+1) listed bm a w) (hi:85 ∈ Region.ready .any kops listed) (_h190:f≤190):wpOp Tryz.prog kops Q 85 (RAt c ksk 65 kops f (listed.setIfInBounds 85 true)) a w :=
 st_insN h hi rfl rfl 75 7 _ rfl (by decide) rfl (filled_pred hi rfl 83 rfl rfl rfl) rfl (by decide)
theorem kst86 (h:RInv c ksk 65 kops (f+1) listed bm a w) (hi:86 ∈ Region.ready .any kops listed) (_h190:f≤190):wpOp Tryz.prog kops Q 86 (RAt c ksk 65 kops f (listed.setIfInBounds 86 true)) a w :=
 st_move h hi rfl rfl 75 77 (.inl rfl) (by decide) ⟨rfl,by decide,by decide,by decide⟩ (filled_pred hi rfl 83 rfl rfl rfl) rfl
theorem kst87 (h:RInv c ksk 65 kops (f+1) listed bm a w) (hi:87 ∈ Region.ready .any kops listed) (_h190:f≤190):wpOp Tryz.prog kops Q 87 (RAt c ksk 65 kops f (listed.setIfInBounds 87 true)) a w :=
 st_sl1 h hi rfl rfl 0 78 rfl (by decide) ⟨rfl,by decide,by decide,by decide⟩ rfl (by decide)
theorem kst88 (h:RInv c ksk 65 kops (f+1) listed bm a w) (hi:88 ∈ Region.ready .any kops listed) (_h190:f≤190):wpOp Tryz.prog kops Q 88 (RAt c ksk 65 kops f (listed.setIfInBounds 88 true)) a w :=
 st_mk h hi rfl rfl 74 77 78 79 _ _ _ rfl (by decide) ⟨rfl,by decide,by decide,by decide⟩ rfl (filled_pred hi rfl 82 rfl rfl rfl) rfl (filled_pred hi rfl 86 rfl rfl rfl) rfl (filled_pred hi rfl 87 rfl rfl rfl) rfl
theorem kst89 (h:RInv c ksk 65 kops (f+1) listed bm a w) (hi:89 ∈ Region.ready .any kops listed) (_h190:f≤190):wpOp Tryz.prog kops Q 89 (RAt c ksk 65 kops f (listed.setIfInBounds 89 true)) a w :=
 st_insM h hi rfl rfl 15 13 _ rfl (by decide) rfl (filled_pred hi rfl 0 rfl rfl rfl) rfl (by decide) (by decide)
theorem kst90 (h:RInv c ksk 65 kops (f+1) listed bm a w) (hi:90 ∈ Region.ready .any kops listed) (_h190:f≤190):wpOp Tryz.prog kops Q 90 (RAt c ksk 65 kops f (listed.setIfInBounds 90 true)) a w :=
 st_load3 h hi rfl rfl 80 rfl (by decide) ⟨rfl,by decide,by decide,by decide⟩ rfl
theorem kst91 (h:RInv c ksk 65 kops (f+1) listed bm a w) (hi:91 ∈ Region.ready .any kops listed) (h190:f≤190):wpOp Tryz.prog kops Q 91 (RAt c ksk 65 kops f (listed.setIfInBounds 91 true)) a w :=
 st_makeN h hi rfl rfl h190 _ 81 rfl (by decide) ⟨rfl,by decide,by decide,by decide⟩ rfl
theorem kst92 (h:RInv c ksk 65 kops (f+1) listed bm a w) (hi:92 ∈ Region.ready .any kops listed) (_h190:f≤190):wpOp Tryz.prog kops Q 92 (RAt c ksk 65 kops f (listed.setIfInBounds 92 true)) a w :=
 st_move h hi rfl rfl 2 82 (.inl rfl) (by decide) ⟨rfl,by decide,by decide,by decide⟩ (.inl (.inl rfl)) rfl
theorem kst93 (h:RInv c ksk 65 kops (f+1) listed bm a w) (hi:93 ∈ Region.ready .any kops listed) (_h190:f≤190):wpOp Tryz.prog kops Q 93 (RAt c ksk 65 kops f (listed.setIfInBounds 93 true)) a w :=
 st_insN h hi rfl rfl 81 7 _ rfl (by decide) rfl (filled_pred hi rfl 91 rfl rfl rfl) rfl (by decide)
theorem kst94 (h:RInv c ksk 65 kops (f+1) listed bm a w) (hi:94 ∈ Region.ready .any kops listed) (_h190:f≤190):wpOp Tryz.prog kops Q 94 (RAt c ksk 65 kops f (listed.setIfInBounds 94 true)) a w :=
 st_move h hi rfl rfl 81 83 (.inl rfl) (by decide) ⟨rfl,by decide,by decide,by decide⟩ (filled_pred hi rfl 91 rfl rfl rfl) rfl
theorem kst95 (h:RInv c ksk 65 kops (f+1) listed bm a w) (hi:95 ∈ Region.ready .any kops listed) (_h190:f≤190):wpOp Tryz.prog kops Q 95 (RAt c ksk 65 kops f (listed.setIfInBounds 95 true)) a w :=
 st_sl1 h hi rfl rfl 0 84 rfl (by decide) ⟨rfl,by decide,by decide,by decide⟩ rfl (by decide)
theorem kst96 (h:RInv c ksk 65 kops (f+1) listed bm a w) (hi:96 ∈ Region.ready .any kops listed) (_h190:f≤190):wpOp Tryz.prog kops Q 96 (RAt c ksk 65 kops f (listed.setIfInBounds 96 true)) a w :=
 st_mk h hi rfl rfl 80 83 84 85 _ _ _ rfl (by decide) ⟨rfl,by decide,by decide,by decide⟩ rfl (filled_pred hi rfl 90 rfl rfl rfl) rfl (filled_pred hi rfl 94 rfl rfl rfl) rfl (filled_pred hi rfl 95 rfl rfl rfl) rfl
theorem kst97 (h:RInv c ksk 65 kops (f+1) listed bm a w) (hi:97 ∈ Region.ready .any kops listed) (_h190:f≤190):wpOp Tryz.prog kops Q 97 (RAt c ksk 65 kops f (listed.setIfInBounds 97 true)) a w :=
 st_insM h hi rfl rfl 15 14 _ rfl (by decide) rfl (filled_pred hi rfl 0 rfl rfl rfl) rfl (by decide) (by decide)
theorem kst98 (h:RInv c ksk 65 kops (f+1) listed bm a w) (hi:98 ∈ Region.ready .any kops listed) (_h190:f≤190):wpOp Tryz.prog kops Q 98 (RAt c ksk 65 kops f (listed.setIfInBounds 98 true)) a w :=
 st_load3 h hi rfl rfl 86 rfl (by decide) ⟨rfl,by decide,by decide,by decide⟩ rfl
theorem kst99 (h:RInv c ksk 65 kops (f+1) listed bm a w) (hi:99 ∈ Region.ready .any kops listed) (h190:f≤190):wpOp Tryz.prog kops Q 99 (RAt c ksk 65 kops f (listed.setIfInBounds 99 true)) a w :=
 st_makeN h hi rfl rfl h190 _ 87 rfl (by decide) ⟨rfl,by decide,by decide,by decide⟩ rfl
theorem kst100 (h:RInv c ksk 65 kops (f+1) listed bm a w) (hi:100 ∈ Region.ready .any kops listed) (_h190:f≤190):wpOp Tryz.prog kops Q 100 (RAt c ksk 65 kops f (listed.setIfInBounds 100 true)) a w :=
 st_move h hi rfl rfl 2 88 (.inl rfl) (by decide) ⟨rfl,by decide,by decide,by decide⟩ (.inl (.inl rfl)) rfl
theorem kst101 (h:RInv c ksk 65 kops (f+1) listed bm a w) (hi:101 ∈ Region.ready .any kops listed) (_h190:f≤190):wpOp Tryz.prog kops Q 101 (RAt c ksk 65 kops f (listed.setIfInBounds 101 true)) a w :=
 st_insN h hi rfl rfl 87 7 _ rfl (by decide) rfl (filled_pred hi rfl 99 rfl rfl rfl) rfl (by decide)
theorem kst102 (h:RInv c ksk 65 kops (f+1) listed bm a w) (hi:102 ∈ Region.ready .any kops listed) (_h190:f≤190):wpOp Tryz.prog kops Q 102 (RAt c ksk 65 kops f (listed.setIfInBounds 102 true)) a w :=
 st_move h hi rfl rfl 87 89 (.inl rfl) (by decide) ⟨rfl,by decide,by decide,by decide⟩ (filled_pred hi rfl 99 rfl rfl rfl) rfl
theorem kst103 (h:RInv c ksk 65 kops (f+1) listed bm a w) (hi:103 ∈ Region.ready .any kops listed) (_h190:f≤190):wpOp Tryz.prog kops Q 103 (RAt c ksk 65 kops f (listed.setIfInBounds 103 true)) a w :=
 st_sl1 h hi rfl rfl 0 90 rfl (by decide) ⟨rfl,by decide,by decide,by decide⟩ rfl (by decide)
theorem kst104 (h:RInv c ksk 65 kops (f+1) listed bm a w) (hi:104 ∈ Region.ready .any kops listed) (_h190:f≤190):wpOp Tryz.prog kops Q 104 (RAt c ksk 65 kops f (listed.setIfInBounds 104 true)) a w :=
 st_mk h hi rfl rfl 86 89 90 91 _ _ _ rfl (by decide) ⟨rfl,by decide,by decide,by decide⟩ rfl (filled_pred hi rfl 98 rfl rfl rfl) rfl (filled_pred hi rfl 102 rfl rfl rfl) rfl (filled_pred hi rfl 103 rfl rfl rfl) rfl
theorem kst105 (h:RInv c ksk 65 kops (f+1) listed bm a w) (hi:105 ∈ Region.ready .any kops listed) (_h190:f≤190):wpOp Tryz.prog kops Q 105 (RAt c ksk 65 kops f (listed.setIfInBounds 105 true)) a w :=
 st_insM h hi rfl rfl 15 15 _ rfl (by decide) rfl (filled_pred hi rfl 0 rfl rfl rfl) rfl (by decide) (by decide)
theorem kst106 (h:RInv c ksk 65 kops (f+1) listed bm a w) (hi:106 ∈ Region.ready .any kops listed) (_h190:f≤190):wpOp Tryz.prog kops Q 106 (RAt c ksk 65 kops f (listed.setIfInBounds 106 true)) a w :=
 st_move h hi rfl rfl 5 92 (.inl rfl) (by decide) ⟨rfl,by decide,by decide,by decide⟩ (.inl (.inr (.inr (.inl rfl)))) rfl
theorem kst107 (h:RInv c ksk 65 kops (f+1) listed bm a w) (hi:107 ∈ Region.ready .any kops listed) (_h190:f≤190):wpOp Tryz.prog kops Q 107 (RAt c ksk 65 kops f (listed.setIfInBounds 107 true)) a w :=
 st_load3 h hi rfl rfl 93 rfl (by decide) ⟨rfl,by decide,by decide,by decide⟩ rfl
theorem kst108 (h:RInv c ksk 65 kops (f+1) listed bm a w) (hi:108 ∈ Region.ready .any kops listed) (h190:f≤190):wpOp Tryz.prog kops Q 108 (RAt c ksk 65 kops f (listed.setIfInBounds 108 true)) a w :=
 st_makeN h hi rfl rfl h190 _ 94 rfl (by decide) ⟨rfl,by decide,by decide,by decide⟩ rfl
theorem kst109 (h:RInv c ksk 65 kops (f+1) listed bm a w) (hi:109 ∈ Region.ready .any kops listed) (_h190:f≤190):wpOp Tryz.prog kops Q 109 (RAt c ksk 65 kops f (listed.setIfInBounds 109 true)) a w :=
 st_load1 h hi rfl rfl 95 rfl (by decide) ⟨rfl,by decide,by decide,by decide⟩ rfl
theorem kst110 (h:RInv c ksk 65 kops (f+1) listed bm a w) (hi:110 ∈ Region.ready .any kops listed) (_h190:f≤190):wpOp Tryz.prog kops Q 110 (RAt c ksk 65 kops f (listed.setIfInBounds 110 true)) a w :=
 st_insN h hi rfl rfl 94 8 _ rfl (by decide) rfl (filled_pred hi rfl 108 rfl rfl rfl) rfl (by decide)
theorem kst111 (h:RInv c ksk 65 kops (f+1) listed bm a w) (hi:111 ∈ Region.ready .any kops listed) (_h190:f≤190):wpOp Tryz.prog kops Q 111 (RAt c ksk 65 kops f (listed.setIfInBounds 111 true)) a w :=
 st_move h hi rfl rfl 94 96 (.inl rfl) (by decide) ⟨rfl,by decide,by decide,by decide⟩ (filled_pred hi rfl 108 rfl rfl rfl) rfl
theorem kst112 (h:RInv c ksk 65 kops (f+1) listed bm a w) (hi:112 ∈ Region.ready .any kops listed) (_h190:f≤190):wpOp Tryz.prog kops Q 112 (RAt c ksk 65 kops f (listed.setIfInBounds 112 true)) a w :=
 st_sl2 h hi rfl rfl 1 2 97 rfl (by decide) ⟨rfl,by decide,by decide,by decide⟩ rfl (by decide)
theorem kst113 (h:RInv c ksk 65 kops (f+1) listed bm a w) (hi:113 ∈ Region.ready .any kops listed) (_h190:f≤190):wpOp Tryz.prog kops Q 113 (RAt c ksk 65 kops f (listed.setIfInBounds 113 true)) a w :=
 st_mk h hi rfl rfl 93 96 97 98 _ _ _ rfl (by decide) ⟨rfl,by decide,by decide,by decide⟩ rfl (filled_pred hi rfl 107 rfl rfl rfl) rfl (filled_pred hi rfl 111 rfl rfl rfl) rfl (filled_pred hi rfl 112 rfl rfl rfl) rfl
theorem kst114 (h:RInv c ksk 65 kops (f+1) listed bm a w) (hi:114 ∈ Region.ready .any kops listed) (_h190:f≤190):wpOp Tryz.prog kops Q 114 (RAt c ksk 65 kops f (listed.setIfInBounds 114 true)) a w :=
 st_wc h hi rfl rfl 92 98 99 _ rfl (by decide) ⟨rfl,by decide,by decide,by decide⟩ rfl (filled_pred hi rfl 106 rfl rfl rfl) rfl (filled_pred hi rfl 113 rfl rfl rfl) rfl
theorem kst115 (h:RInv c ksk 65 kops (f+1) listed bm a w) (hi:115 ∈ Region.ready .any kops listed) (_h190:f≤190):wpOp Tryz.prog kops Q 115 (RAt c ksk 65 kops f (listed.setIfInBounds 115 true)) a w :=
 st_insM h hi rfl rfl 15 16 _ rfl (by decide) rfl (filled_pred hi rfl 0 rfl rfl rfl) rfl (by decide) (by decide)
theorem kst116 (h:RInv c ksk 65 kops (f+1) listed bm a w) (hi:116 ∈ Region.ready .any kops listed) (_h190:f≤190):wpOp Tryz.prog kops Q 116 (RAt c ksk 65 kops f (listed.setIfInBounds 116 true)) a w :=
 st_move h hi rfl rfl 4 100 (.inl rfl) (by decide) ⟨rfl,by decide,by decide,by decide⟩ (.inl (.inr (.inl rfl))) rfl
theorem kst117 (h:RInv c ksk 65 kops (f+1) listed bm a w) (hi:117 ∈ Region.ready .any kops listed) (_h190:f≤190):wpOp Tryz.prog kops Q 117 (RAt c ksk 65 kops f (listed.setIfInBounds 117 true)) a w :=
 st_am h hi rfl rfl 100 101 _ _ rfl (by decide) ⟨rfl,by decide,by decide,by decide⟩ rfl (filled_pred hi rfl 116 rfl rfl rfl) rfl
theorem kst118 (h:RInv c ksk 65 kops (f+1) listed bm a w) (hi:118 ∈ Region.ready .any kops listed) (_h190:f≤190):wpOp Tryz.prog kops Q 118 (RAt c ksk 65 kops f (listed.setIfInBounds 118 true)) a w :=
 st_insM h hi rfl rfl 15 17 _ rfl (by decide) rfl (filled_pred hi rfl 0 rfl rfl rfl) rfl (by decide) (by decide)
theorem kst119 (h:RInv c ksk 65 kops (f+1) listed bm a w) (hi:119 ∈ Region.ready .any kops listed) (_h190:f≤190):wpOp Tryz.prog kops Q 119 (RAt c ksk 65 kops f (listed.setIfInBounds 119 true)) a w :=
 st_move h hi rfl rfl 4 102 (.inl rfl) (by decide) ⟨rfl,by decide,by decide,by decide⟩ (.inl (.inr (.inl rfl))) rfl
theorem kst120 (h:RInv c ksk 65 kops (f+1) listed bm a w) (hi:120 ∈ Region.ready .any kops listed) (_h190:f≤190):wpOp Tryz.prog kops Q 120 (RAt c ksk 65 kops f (listed.setIfInBounds 120 true)) a w :=
 st_am h hi rfl rfl 102 103 _ _ rfl (by decide) ⟨rfl,by decide,by decide,by decide⟩ rfl (filled_pred hi rfl 119 rfl rfl rfl) rfl
theorem kst121 (h:RInv c ksk 65 kops (f+1) listed bm a w) (hi:121 ∈ Region.ready .any kops listed) (_h190:f≤190):wpOp Tryz.prog kops Q 121 (RAt c ksk 65 kops f (listed.setIfInBounds 121 true)) a w :=
 st_insM h hi rfl rfl 15 18 _ rfl (by decide) rfl (filled_pred hi rfl 0 rfl rfl rfl) rfl (by decide) (by decide)
theorem kst122 (h:RInv c ksk 65 kops (f+1) listed bm a w) (hi:122 ∈ Region.ready .any kops listed) (_h190:f≤190):wpOp Tryz.prog kops Q 122 (RAt c ksk 65 kops f (listed.setIfInBounds 122 true)) a w :=
 st_move h hi rfl rfl 15 104 (.inl rfl) (by decide) ⟨rfl,by decide,by decide,by decide⟩ (filled_pred hi rfl 0 rfl rfl rfl) rfl
theorem kst123 (h:RInv c ksk 65 kops (f+1) listed bm a w) (hi:123 ∈ Region.ready .any kops listed) (_h190:f≤190):wpOp Tryz.prog kops Q 123 (RAt c ksk 65 kops f (listed.setIfInBounds 123 true)) a w :=
 st_move h hi rfl rfl 104 0 (.inr rfl) (by decide) ⟨rfl,by decide,by decide,by decide⟩ (filled_pred hi rfl 122 rfl rfl rfl) rfl
theorem kstAll:∀ i,i<124→RInv c ksk 65 kops (f+1) listed bm a w→i ∈ Region.ready .any kops listed→f≤190→wpOp Tryz.prog kops Q i (RAt c ksk 65 kops f (listed.setIfInBounds i true)) a w
 |0,_,h,hi,h190=>kst0 h hi h190
 |1,_,h,hi,h190=>kst1 h hi h190
 |2,_,h,hi,h190=>kst2 h hi h190
 |3,_,h,hi,h190=>kst3 h hi h190
 |4,_,h,hi,h190=>kst4 h hi h190
 |5,_,h,hi,h190=>kst5 h hi h190
 |6,_,h,hi,h190=>kst6 h hi h190
 |7,_,h,hi,h190=>kst7 h hi h190
 |8,_,h,hi,h190=>kst8 h hi h190
 |9,_,h,hi,h190=>kst9 h hi h190
 |10,_,h,hi,h190=>kst10 h hi h190
 |11,_,h,hi,h190=>kst11 h hi h190
 |12,_,h,hi,h190=>kst12 h hi h190
 |13,_,h,hi,h190=>kst13 h hi h190
 |14,_,h,hi,h190=>kst14 h hi h190
 |15,_,h,hi,h190=>kst15 h hi h190
 |16,_,h,hi,h190=>kst16 h hi h190
 |17,_,h,hi,h190=>kst17 h hi h190
 |18,_,h,hi,h190=>kst18 h hi h190
 |19,_,h,hi,h190=>kst19 h hi h190
 |20,_,h,hi,h190=>kst20 h hi h190
 |21,_,h,hi,h190=>kst21 h hi h190
 |22,_,h,hi,h190=>kst22 h hi h190
 |23,_,h,hi,h190=>kst23 h hi h190
 |24,_,h,hi,h190=>kst24 h hi h190
 |25,_,h,hi,h190=>kst25 h hi h190
 |26,_,h,hi,h190=>kst26 h hi h190
 |27,_,h,hi,h190=>kst27 h hi h190
 |28,_,h,hi,h190=>kst28 h hi h190
 |29,_,h,hi,h190=>kst29 h hi h190
 |30,_,h,hi,h190=>kst30 h hi h190
 |31,_,h,hi,h190=>kst31 h hi h190
 |32,_,h,hi,h190=>kst32 h hi h190
 |33,_,h,hi,h190=>kst33 h hi h190
 |34,_,h,hi,h190=>kst34 h hi h190
 |35,_,h,hi,h190=>kst35 h hi h190
 |36,_,h,hi,h190=>kst36 h hi h190
 |37,_,h,hi,h190=>kst37 h hi h190
 |38,_,h,hi,h190=>kst38 h hi h190
 |39,_,h,hi,h190=>kst39 h hi h190
 |40,_,h,hi,h190=>kst40 h hi h190
 |41,_,h,hi,h190=>kst41 h hi h190
 |42,_,h,hi,h190=>kst42 h hi h190
 |43,_,h,hi,h190=>kst43 h hi h190
 |44,_,h,hi,h190=>kst44 h hi h190
 |45,_,h,hi,h190=>kst45 h hi h190
 |46,_,h,hi,h190=>kst46 h hi h190
 |47,_,h,hi,h190=>kst47 h hi h190
 |48,_,h,hi,h190=>kst48 h hi h190
 |49,_,h,hi,h190=>kst49 h hi h190
 |50,_,h,hi,h190=>kst50 h hi h190
 |51,_,h,hi,h190=>kst51 h hi h190
 |52,_,h,hi,h190=>kst52 h hi h190
 |53,_,h,hi,h190=>kst53 h hi h190
 |54,_,h,hi,h190=>kst54 h hi h190
 |55,_,h,hi,h190=>kst55 h hi h190
 |56,_,h,hi,h190=>kst56 h hi h190
 |57,_,h,hi,h190=>kst57 h hi h190
 |58,_,h,hi,h190=>kst58 h hi h190
 |59,_,h,hi,h190=>kst59 h hi h190
 |60,_,h,hi,h190=>kst60 h hi h190
 |61,_,h,hi,h190=>kst61 h hi h190
 |62,_,h,hi,h190=>kst62 h hi h190
 |63,_,h,hi,h190=>kst63 h hi h190
 |64,_,h,hi,h190=>kst64 h hi h190
 |65,_,h,hi,h190=>kst65 h hi h190
 |66,_,h,hi,h190=>kst66 h hi h190
 |67,_,h,hi,h190=>kst67 h hi h190
 |68,_,h,hi,h190=>kst68 h hi h190
 |69,_,h,hi,h190=>kst69 h hi h190
 |70,_,h,hi,h190=>kst70 h hi h190
 |71,_,h,hi,h190=>kst71 h hi h190
 |72,_,h,hi,h190=>kst72 h hi h190
 |73,_,h,hi,h190=>kst73 h hi h190
 |74,_,h,hi,h190=>kst74 h hi h190
 |75,_,h,hi,h190=>kst75 h hi h190
 |76,_,h,hi,h190=>kst76 h hi h190
 |77,_,h,hi,h190=>kst77 h hi h190
 |78,_,h,hi,h190=>kst78 h hi h190
 |79,_,h,hi,h190=>kst79 h hi h190
 |80,_,h,hi,h190=>kst80 h hi h190
 |81,_,h,hi,h190=>kst81 h hi h190
 |82,_,h,hi,h190=>kst82 h hi h190
 |83,_,h,hi,h190=>kst83 h hi h190
 |84,_,h,hi,h190=>kst84 h hi h190
 |85,_,h,hi,h190=>kst85 h hi h190
 |86,_,h,hi,h190=>kst86 h hi h190
 |87,_,h,hi,h190=>kst87 h hi h190
 |88,_,h,hi,h190=>kst88 h hi h190
 |89,_,h,hi,h190=>kst89 h hi h190
 |90,_,h,hi,h190=>kst90 h hi h190
 |91,_,h,hi,h190=>kst91 h hi h190
 |92,_,h,hi,h190=>kst92 h hi h190
 |93,_,h,hi,h190=>kst93 h hi h190
 |94,_,h,hi,h190=>kst94 h hi h190
 |95,_,h,hi,h190=>kst95 h hi h190
 |96,_,h,hi,h190=>kst96 h hi h190
 |97,_,h,hi,h190=>kst97 h hi h190
 |98,_,h,hi,h190=>kst98 h hi h190
 |99,_,h,hi,h190=>kst99 h hi h190
 |100,_,h,hi,h190=>kst100 h hi h190
 |101,_,h,hi,h190=>kst101 h hi h190
 |102,_,h,hi,h190=>kst102 h hi h190
 |103,_,h,hi,h190=>kst103 h hi h190
 |104,_,h,hi,h190=>kst104 h hi h190
 |105,_,h,hi,h190=>kst105 h hi h190
 |106,_,h,hi,h190=>kst106 h hi h190
 |107,_,h,hi,h190=>kst107 h hi h190
 |108,_,h,hi,h190=>kst108 h hi h190
 |109,_,h,hi,h190=>kst109 h hi h190
 |110,_,h,hi,h190=>kst110 h hi h190
 |111,_,h,hi,h190=>kst111 h hi h190
 |112,_,h,hi,h190=>kst112 h hi h190
 |113,_,h,hi,h190=>kst113 h hi h190
 |114,_,h,hi,h190=>kst114 h hi h190
 |115,_,h,hi,h190=>kst115 h hi h190
 |116,_,h,hi,h190=>kst116 h hi h190
 |117,_,h,hi,h190=>kst117 h hi h190
 |118,_,h,hi,h190=>kst118 h hi h190
 |119,_,h,hi,h190=>kst119 h hi h190
 |120,_,h,hi,h190=>kst120 h hi h190
 |121,_,h,hi,h190=>kst121 h hi h190
 |122,_,h,hi,h190=>kst122 h hi h190
 |123,_,h,hi,h190=>kst123 h hi h190
 |n+124,hn,_,_,_=>absurd hn (by omega)
end
end
end Go.Proofs.YthgpheopnhajaaaGreatDoor
