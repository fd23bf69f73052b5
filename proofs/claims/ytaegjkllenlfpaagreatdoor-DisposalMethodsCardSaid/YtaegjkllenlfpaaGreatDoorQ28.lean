/- The seat's texts, part Q28. -/
import Derived.Test.YtaegjkllenlfpaaGreatDoorQ27
set_option maxRecDepth 100000
set_option maxHeartbeats 8000000
namespace Go.Proofs.YtaegjkllenlfpaaGreatDoor
section
open Go.RowKit
attribute [local go_sem] size_bs toList_bs
theorem I3(key:Bs)(stamp:Int)(ins other cur tgt:Bs)(t4 t5 t6 t7 t8 t9 t10 t11 t12:ByteArray)(P O:Value)(ch:Int)(w:World)(hg:¬ (ins=[]∧other=[]∧cur=[]∧tgt=[])):Calls Tryz.prog 62 #[.agg (nH key stamp 0 0 (bs ins) (bs other) (bs cur) (bs tgt) t4 t5 t6 t7 t8 t9 t10 t11 t12 P O ch),.agg (eW key stamp)] w fun e w'=>e = .returned (.bool false)∧Ext w w':=by
 obtain⟨HB,HZ,HX⟩:=jD key stamp w (nH key stamp 0 0 (bs ins) (bs other) (bs cur) (bs tgt) t4 t5 t6 t7 t8 t9 t10 t11 t12 P O ch);rcases Classical.em (ins=[]) with rfl|h
 rcases Classical.em (other=[]) with rfl|h
 rcases Classical.em (cur=[]) with rfl|h
 rcases Classical.em (tgt=[]) with rfl|h
 exact absurd ⟨rfl,rfl,rfl,rfl⟩ hg
 all_goals
  have q1:=List.isEmpty_eq_false_iff.2 h;have q2:=fh h;clear h;go_enter Tryz.func62,Tryz.ntmps62;obtain⟨x0,x1,x2,x3,x4,x5,x6,x7,x8, -⟩:=c21 HB.out (Ext.refl _);obtain⟨z0,z1,z2,z3,z4,z5,z6,z7,z8, -⟩:=iy HZ.out (Ext.refl _);go_wp2_with fail;go_ret;exact⟨rfl,HX.out⟩
end
end Go.Proofs.YtaegjkllenlfpaaGreatDoor
