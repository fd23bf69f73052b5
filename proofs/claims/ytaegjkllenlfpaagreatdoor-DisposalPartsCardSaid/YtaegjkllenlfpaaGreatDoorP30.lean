/- The seat's texts, part P30. -/
import Derived.Test.YtaegjkllenlfpaaGreatDoorP20
set_option maxRecDepth 100000
set_option maxHeartbeats 8000000
namespace Go.Proofs.YtaegjkllenlfpaaGreatDoor
section
open Go.RowKit
attribute [local go_sem] size_bs toList_bs
section
variable (key:Bs) (stamp:Int)
theorem Dv(pa oa:Option Addr)(pc oc:Nat)(rd:Bs)(sn:Bs)(sd:Bs)(n:Nat)(m:Nat)(choice:Int)(hz:rd≠[])(w:World):Calls Tryz.prog 62 #[.agg #[.string (bs key),.int .i64 stamp,.bool true,.int .i64 0,.int .i64 0,.string ⟨#[]⟩,.string ⟨#[]⟩,.string ⟨#[]⟩,.string ⟨#[]⟩,.string ⟨#[]⟩,.string ⟨#[]⟩,.string ⟨#[]⟩,.string ⟨#[]⟩,.string ⟨#[]⟩,.string ⟨#[]⟩,.string (bs rd),.string (bs sn),.string (bs sd),.slice pa n pc,.slice oa m oc,.int .i64 choice],.agg (cZ key stamp)] w fun e w'=>e = .returned (.bool false)∧Ext w w':=by
 obtain⟨HB,HZ,HX⟩:=dY key stamp w #[.string (bs key),.int .i64 stamp,.bool true,.int .i64 0,.int .i64 0,.string ⟨#[]⟩,.string ⟨#[]⟩,.string ⟨#[]⟩,.string ⟨#[]⟩,.string ⟨#[]⟩,.string ⟨#[]⟩,.string ⟨#[]⟩,.string ⟨#[]⟩,.string ⟨#[]⟩,.string ⟨#[]⟩,.string (bs rd),.string (bs sn),.string (bs sd),.slice pa n pc,.slice oa m oc,.int .i64 choice];have q1:rd.isEmpty=false:=by simpa using hz
 have q2:=cT hz;clear hz;go_enter Tryz.func62,Tryz.ntmps62;obtain⟨x0,x1,x2,x3,x4,x5,x6,x7,x8,x9,x10,x11,x12,x13,x14,x15, -⟩:=c21 HB.out (Ext.refl _);obtain⟨z0,z1,z2,z3,z4,z5,z6,z7,z8,z9,z10,z11,z12,z13,z14,z15, -⟩:=dX HZ.out (Ext.refl _);go_wp2_with fail;go_ret;exact⟨rfl,HX.out⟩
theorem Dw(pa oa:Option Addr)(pc oc:Nat)(sn:Bs)(sd:Bs)(n:Nat)(m:Nat)(choice:Int)(hz:sn≠[])(w:World):Calls Tryz.prog 62 #[.agg #[.string (bs key),.int .i64 stamp,.bool true,.int .i64 0,.int .i64 0,.string ⟨#[]⟩,.string ⟨#[]⟩,.string ⟨#[]⟩,.string ⟨#[]⟩,.string ⟨#[]⟩,.string ⟨#[]⟩,.string ⟨#[]⟩,.string ⟨#[]⟩,.string ⟨#[]⟩,.string ⟨#[]⟩,.string ⟨#[]⟩,.string (bs sn),.string (bs sd),.slice pa n pc,.slice oa m oc,.int .i64 choice],.agg (cZ key stamp)] w fun e w'=>e = .returned (.bool false)∧Ext w w':=by
 obtain⟨HB,HZ,HX⟩:=dY key stamp w #[.string (bs key),.int .i64 stamp,.bool true,.int .i64 0,.int .i64 0,.string ⟨#[]⟩,.string ⟨#[]⟩,.string ⟨#[]⟩,.string ⟨#[]⟩,.string ⟨#[]⟩,.string ⟨#[]⟩,.string ⟨#[]⟩,.string ⟨#[]⟩,.string ⟨#[]⟩,.string ⟨#[]⟩,.string ⟨#[]⟩,.string (bs sn),.string (bs sd),.slice pa n pc,.slice oa m oc,.int .i64 choice];have q1:sn.isEmpty=false:=by simpa using hz
 have q2:=cT hz;clear hz;go_enter Tryz.func62,Tryz.ntmps62;obtain⟨x0,x1,x2,x3,x4,x5,x6,x7,x8,x9,x10,x11,x12,x13,x14,x15,x16,x17, -⟩:=c21 HB.out (Ext.refl _);obtain⟨z0,z1,z2,z3,z4,z5,z6,z7,z8,z9,z10,z11,z12,z13,z14,z15,z16,z17, -⟩:=dX HZ.out (Ext.refl _);go_wp2_with fail;go_ret;exact⟨rfl,HX.out⟩
theorem Dx(pa oa:Option Addr)(pc oc:Nat)(sd:Bs)(n:Nat)(m:Nat)(choice:Int)(hz:sd≠[])(w:World):Calls Tryz.prog 62 #[.agg #[.string (bs key),.int .i64 stamp,.bool true,.int .i64 0,.int .i64 0,.string ⟨#[]⟩,.string ⟨#[]⟩,.string ⟨#[]⟩,.string ⟨#[]⟩,.string ⟨#[]⟩,.string ⟨#[]⟩,.string ⟨#[]⟩,.string ⟨#[]⟩,.string ⟨#[]⟩,.string ⟨#[]⟩,.string ⟨#[]⟩,.string ⟨#[]⟩,.string (bs sd),.slice pa n pc,.slice oa m oc,.int .i64 choice],.agg (cZ key stamp)] w fun e w'=>e = .returned (.bool false)∧Ext w w':=by
 obtain⟨HB,HZ,HX⟩:=dY key stamp w #[.string (bs key),.int .i64 stamp,.bool true,.int .i64 0,.int .i64 0,.string ⟨#[]⟩,.string ⟨#[]⟩,.string ⟨#[]⟩,.string ⟨#[]⟩,.string ⟨#[]⟩,.string ⟨#[]⟩,.string ⟨#[]⟩,.string ⟨#[]⟩,.string ⟨#[]⟩,.string ⟨#[]⟩,.string ⟨#[]⟩,.string ⟨#[]⟩,.string (bs sd),.slice pa n pc,.slice oa m oc,.int .i64 choice];have q1:sd.isEmpty=false:=by simpa using hz
 have q2:=cT hz;clear hz;go_enter Tryz.func62,Tryz.ntmps62;obtain⟨x0,x1,x2,x3,x4,x5,x6,x7,x8,x9,x10,x11,x12,x13,x14,x15,x16,x17, -⟩:=c21 HB.out (Ext.refl _);obtain⟨z0,z1,z2,z3,z4,z5,z6,z7,z8,z9,z10,z11,z12,z13,z14,z15,z16,z17, -⟩:=dX HZ.out (Ext.refl _);go_wp2_with fail;go_ret;exact⟨rfl,HX.out⟩
end
end
end Go.Proofs.YtaegjkllenlfpaaGreatDoor
