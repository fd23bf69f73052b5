/- The seat's texts, part Y29. -/
import Derived.Test.YtaegjkllenlfpaaGreatDoorY27
set_option maxRecDepth 100000
set_option maxHeartbeats 8000000
namespace Go.Proofs.YtaegjkllenlfpaaGreatDoor
open Tryz
section
open Go.RowKit
attribute [local go_sem] size_bs toList_bs
theorem LS(key:Bs)(stamp:Int)(qty amt fee pn:Bs)(t8 t9 t10 t11 t12:ByteArray)(P O:Value)(ch:Int)(w:World)(hg:¬ (qty=[]∧amt=[]∧fee=[]∧pn=[])):Calls prog 62 #[.agg (pm key stamp 0 0 ⟨#[]⟩ ⟨#[]⟩ ⟨#[]⟩ ⟨#[]⟩ (bs qty) (bs amt) (bs fee) (bs pn) t8 t9 t10 t11 t12 P O ch),.agg (fj key stamp)] w fun e w'=>e = .returned (.bool false)∧Ext w w':=by
 obtain⟨HB,HZ,HX⟩:=j9 key stamp w (pm key stamp 0 0 ⟨#[]⟩ ⟨#[]⟩ ⟨#[]⟩ ⟨#[]⟩ (bs qty) (bs amt) (bs fee) (bs pn) t8 t9 t10 t11 t12 P O ch);rcases NZ (qty=[]) with rfl|h
 rcases NZ (amt=[]) with rfl|h
 rcases NZ (fee=[]) with rfl|h
 rcases NZ (pn=[]) with rfl|h
 exact absurd ⟨rfl,rfl,rfl,rfl⟩ hg
 all_goals
  have q1:=PY.2 h;have q2:=fy h;clear h;go_enter P8,PO;obtain⟨x0,x1,x2,x3,x4,x5,x6,x7,x8,x9,x10,x11,x12, -⟩:=c21 HB.out (iD _);obtain⟨z0,z1,z2,z3,z4,z5,z6,z7,z8,z9,z10,z11,z12, -⟩:=iY HZ.out (iD _);go_wp2_with fail;go_ret;exact⟨rfl,HX.out⟩
end
end Go.Proofs.YtaegjkllenlfpaaGreatDoor
