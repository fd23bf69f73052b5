/- The seat's texts, part Y27. -/
import Derived.Test.YtaegjkllenlfpaaGreatDoorY20
set_option maxRecDepth 100000
set_option maxHeartbeats 8000000
namespace Go.Proofs.YtaegjkllenlfpaaGreatDoor
open Tryz
section
open Go.RowKit
attribute [local go_sem] size_bs toList_bs
abbrev pm(key:Bs)(stamp day kind:Int)(s0 s1 s2 s3 s4 s5 s6 s7 s8 s9 s10 s11 s12:ByteArray)(P O:Value)(ch:Int):Array Value:=#[.string (bs key),.int .i64 stamp,.bool true,.int .i64 day,.int .i64 kind,.string s0,.string s1,.string s2,.string s3,.string s4,.string s5,.string s6,.string s7,.string s8,.string s9,.string s10,.string s11,.string s12,P,O,.int .i64 ch]
theorem LQ(key:Bs)(stamp day kind:Int)(t0 t1 t2 t3 t4 t5 t6 t7 t8 t9 t10 t11 t12:ByteArray)(P O:Value)(ch:Int)(w:World)(hg:¬ (day=0∧kind=0)):Calls prog 62 #[.agg (pm key stamp day kind t0 t1 t2 t3 t4 t5 t6 t7 t8 t9 t10 t11 t12 P O ch),.agg (fj key stamp)] w fun e w'=>e = .returned (.bool false)∧Ext w w':=by
 obtain⟨HB,HZ,HX⟩:=j9 key stamp w (pm key stamp day kind t0 t1 t2 t3 t4 t5 t6 t7 t8 t9 t10 t11 t12 P O ch);rcases NZ (day=0) with rfl|h
 rcases NZ (kind=0) with rfl|h
 exact absurd ⟨rfl,rfl⟩ hg
 all_goals
  have q1:=Mt.2 h;clear h;go_enter P8,PO;obtain⟨x0,x1,x2,x3,x4, -⟩:=c21 HB.out (iD _);obtain⟨z0,z1,z2,z3,z4, -⟩:=iY HZ.out (iD _);go_wp2_with fail;go_ret;exact⟨rfl,HX.out⟩
end
end Go.Proofs.YtaegjkllenlfpaaGreatDoor
