/- The seat's texts, part Y28. -/
import Derived.Test.YtaegjkllenlfpaaGreatDoorY27
set_option maxRecDepth 100000
set_option maxHeartbeats 8000000
namespace Go.Proofs.YtaegjkllenlfpaaGreatDoor
open Tryz
section
open Go.RowKit
attribute [local go_sem] size_bs toList_bs
theorem LR(key:Bs)(stamp:Int)(ins other cur tgt:Bs)(t4 t5 t6 t7 t8 t9 t10 t11 t12:ByteArray)(P O:Value)(ch:Int)(w:World)(hg:¬ (ins=[]∧other=[]∧cur=[]∧tgt=[])):Calls prog 62 #[.agg (pm key stamp 0 0 (bs ins) (bs other) (bs cur) (bs tgt) t4 t5 t6 t7 t8 t9 t10 t11 t12 P O ch),.agg (fj key stamp)] w fun e w'=>e = .returned (.bool false)∧Ext w w':=by
 obtain⟨HB,HZ,HX⟩:=j9 key stamp w (pm key stamp 0 0 (bs ins) (bs other) (bs cur) (bs tgt) t4 t5 t6 t7 t8 t9 t10 t11 t12 P O ch);rcases NZ (ins=[]) with rfl|h
 rcases NZ (other=[]) with rfl|h
 rcases NZ (cur=[]) with rfl|h
 rcases NZ (tgt=[]) with rfl|h
 exact absurd ⟨rfl,rfl,rfl,rfl⟩ hg
 all_goals
  have q1:=PY.2 h;have q2:=fy h;clear h;go_enter P8,PO;obtain⟨x0,x1,x2,x3,x4,x5,x6,x7,x8, -⟩:=c21 HB.out (iD _);obtain⟨z0,z1,z2,z3,z4,z5,z6,z7,z8, -⟩:=iY HZ.out (iD _);go_wp2_with fail;go_ret;exact⟨rfl,HX.out⟩
end
end Go.Proofs.YtaegjkllenlfpaaGreatDoor
