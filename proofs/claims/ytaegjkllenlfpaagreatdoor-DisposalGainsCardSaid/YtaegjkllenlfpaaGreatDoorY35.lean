/- The seat's texts, part Y35. -/
import Derived.Test.YtaegjkllenlfpaaGreatDoorY20
set_option maxRecDepth 100000
set_option maxHeartbeats 8000000
namespace Go.Proofs.YtaegjkllenlfpaaGreatDoor
open Tryz
section
open Go.RowKit
attribute [local go_sem] size_bs toList_bs
section
variable (key:Bs) (stamp:Int)
theorem Dm(pa oa:Option Addr)(pc oc:Nat)(n:Nat)(m:Nat)(choice:Int)(hz:n≠0)(w:World):Calls prog 62 #[.agg #[.string (bs key),.int .i64 stamp,.bool true,.int .i64 0,.int .i64 0,.string ⟨#[]⟩,.string ⟨#[]⟩,.string ⟨#[]⟩,.string ⟨#[]⟩,.string ⟨#[]⟩,.string ⟨#[]⟩,.string ⟨#[]⟩,.string ⟨#[]⟩,.string ⟨#[]⟩,.string ⟨#[]⟩,.string ⟨#[]⟩,.string ⟨#[]⟩,.string ⟨#[]⟩,.slice pa n pc,.slice oa m oc,.int .i64 choice],.agg (fj key stamp)] w fun e w'=>e = .returned (.bool false)∧Ext w w':=by
 obtain⟨HB,HZ,HX⟩:=j9 key stamp w #[.string (bs key),.int .i64 stamp,.bool true,.int .i64 0,.int .i64 0,.string ⟨#[]⟩,.string ⟨#[]⟩,.string ⟨#[]⟩,.string ⟨#[]⟩,.string ⟨#[]⟩,.string ⟨#[]⟩,.string ⟨#[]⟩,.string ⟨#[]⟩,.string ⟨#[]⟩,.string ⟨#[]⟩,.string ⟨#[]⟩,.string ⟨#[]⟩,.string ⟨#[]⟩,.slice pa n pc,.slice oa m oc,.int .i64 choice];have hd:decide (n=0)=false:=Nv hz;have EP:=qh (fun W=>tx pa n pc W);rw[hd]at EP;clear hd hz;go_enter P8,PO;obtain⟨x0,x1,x2,x3,x4,x5,x6,x7,x8,x9,x10,x11,x12,x13,x14,x15,x16,x17,x18, -⟩:=c21 HB.out (iD _);obtain⟨z0,z1,z2,z3,z4,z5,z6,z7,z8,z9,z10,z11,z12,z13,z14,z15,z16,z17,z18, -⟩:=iY HZ.out (iD _);go_wp2_with fail;refine(EP.out _).mono ?_;rintro e v0⟨rfl,hx1⟩;replace HX:=HX.qt hx1;clear hx1;go_wp2_with fail;go_ret;exact⟨rfl,HX.out⟩
theorem Dn(pa oa:Option Addr)(pc oc:Nat)(m:Nat)(choice:Int)(hz:m≠0)(w:World):Calls prog 62 #[.agg #[.string (bs key),.int .i64 stamp,.bool true,.int .i64 0,.int .i64 0,.string ⟨#[]⟩,.string ⟨#[]⟩,.string ⟨#[]⟩,.string ⟨#[]⟩,.string ⟨#[]⟩,.string ⟨#[]⟩,.string ⟨#[]⟩,.string ⟨#[]⟩,.string ⟨#[]⟩,.string ⟨#[]⟩,.string ⟨#[]⟩,.string ⟨#[]⟩,.string ⟨#[]⟩,.slice pa 0 pc,.slice oa m oc,.int .i64 choice],.agg (fj key stamp)] w fun e w'=>e = .returned (.bool false)∧Ext w w':=by
 obtain⟨HB,HZ,HX⟩:=j9 key stamp w #[.string (bs key),.int .i64 stamp,.bool true,.int .i64 0,.int .i64 0,.string ⟨#[]⟩,.string ⟨#[]⟩,.string ⟨#[]⟩,.string ⟨#[]⟩,.string ⟨#[]⟩,.string ⟨#[]⟩,.string ⟨#[]⟩,.string ⟨#[]⟩,.string ⟨#[]⟩,.string ⟨#[]⟩,.string ⟨#[]⟩,.string ⟨#[]⟩,.string ⟨#[]⟩,.slice pa 0 pc,.slice oa m oc,.int .i64 choice];have hd:decide (m=0)=false:=Nv hz;have EP:=qh (fun W=>tx pa 0 pc W);have EO:=qh (fun W=>yb oa m oc W);rw[hd]at EO;clear hd hz;go_enter P8,PO;obtain⟨x0,x1,x2,x3,x4,x5,x6,x7,x8,x9,x10,x11,x12,x13,x14,x15,x16,x17,x18,x19, -⟩:=c21 HB.out (iD _);obtain⟨z0,z1,z2,z3,z4,z5,z6,z7,z8,z9,z10,z11,z12,z13,z14,z15,z16,z17,z18,z19, -⟩:=iY HZ.out (iD _);go_wp2_with fail;refine(EP.out _).mono ?_;rintro e v0⟨rfl,hx1⟩;replace HX:=HX.qt hx1;replace HB:=qh (HB.out.ext hx1);replace HZ:=qh (HZ.out.ext hx1);clear x0 z0 x1 z1 x2 z2 x3 z3 x4 z4 x5 z5 x6 z6 x7 z7 x8 z8 x9 z9 x10 z10 x11 z11 x12 z12 x13 z13 x14 z14 x15 z15 x16 z16 x17 z17 x18 z18 x19 z19;obtain⟨-, -, -, -, -, -, -, -, -, -, -, -, -, -, -, -, -, -, -,x19, -⟩:=c21 HB.out (iD _);obtain⟨-, -, -, -, -, -, -, -, -, -, -, -, -, -, -, -, -, -, -,z19, -⟩:=iY HZ.out (iD _);clear hx1;go_wp2_with fail;refine(EO.out _).mono ?_;rintro e v1⟨rfl,hx1⟩;replace HX:=HX.qt hx1;replace HB:=qh (HB.out.ext hx1);replace HZ:=qh (HZ.out.ext hx1);clear x19 z19;clear hx1;go_wp2_with fail;go_ret;exact⟨rfl,HX.out⟩
end
end
end Go.Proofs.YtaegjkllenlfpaaGreatDoor
