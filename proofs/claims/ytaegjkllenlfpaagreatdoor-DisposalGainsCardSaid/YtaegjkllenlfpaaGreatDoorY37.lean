/- The seat's texts, part Y37. -/
import Derived.Test.YtaegjkllenlfpaaGreatDoorY27
set_option maxRecDepth 100000
set_option maxHeartbeats 8000000
namespace Go.Proofs.YtaegjkllenlfpaaGreatDoor
open Tryz
section
open Go.RowKit
attribute [local go_sem] size_bs toList_bs
theorem LV(key:Bs)(stamp:Int)(sn sd:Bs)(P O:Value)(ch:Int)(w:World)(hg:¬ (sn=[]∧sd=[])):Calls prog 62 #[.agg (pm key stamp 0 0 ⟨#[]⟩ ⟨#[]⟩ ⟨#[]⟩ ⟨#[]⟩ ⟨#[]⟩ ⟨#[]⟩ ⟨#[]⟩ ⟨#[]⟩ ⟨#[]⟩ ⟨#[]⟩ ⟨#[]⟩ (bs sn) (bs sd) P O ch),.agg (fj key stamp)] w fun e w'=>e = .returned (.bool false)∧Ext w w':=by
 obtain⟨HB,HZ,HX⟩:=j9 key stamp w (pm key stamp 0 0 ⟨#[]⟩ ⟨#[]⟩ ⟨#[]⟩ ⟨#[]⟩ ⟨#[]⟩ ⟨#[]⟩ ⟨#[]⟩ ⟨#[]⟩ ⟨#[]⟩ ⟨#[]⟩ ⟨#[]⟩ (bs sn) (bs sd) P O ch);rcases NZ (sn=[]) with rfl|h
 rcases NZ (sd=[]) with rfl|h
 exact absurd ⟨rfl,rfl⟩ hg
 all_goals
  have q1:=PY.2 h;have q2:=fy h;clear h;go_enter P8,PO;obtain⟨x0,x1,x2,x3,x4,x5,x6,x7,x8,x9,x10,x11,x12,x13,x14,x15,x16,x17, -⟩:=c21 HB.out (iD _);obtain⟨z0,z1,z2,z3,z4,z5,z6,z7,z8,z9,z10,z11,z12,z13,z14,z15,z16,z17, -⟩:=iY HZ.out (iD _);go_wp2_with fail;go_ret;exact⟨rfl,HX.out⟩
end
end Go.Proofs.YtaegjkllenlfpaaGreatDoor
