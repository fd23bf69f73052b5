/- The seat's texts, part UO. -/
import Derived.Test.YthgpheopnhajaaaGreatDoorU20
import Derived.Test.YthgpheopnhajaaaGreatDoorU33
set_option maxRecDepth 100000
set_option maxHeartbeats 8000000
namespace Go.Proofs.YthgpheopnhajaaaGreatDoor
section
open Go.RowKit Go.Shelf
attribute [local go_sem] size_bs toList_bs
theorem lawOptions (os:List OptV) (A:Option Addr) (c:Nat) (q:Bs) (w:World) (hA:RdO w A os) (hc:os.length≤c) (hn:os.length≤4611686018427387904) (hE:Env w) :
  Calls Tryz.prog 10 #[.slice A os.length c,.string (bs q)] w fun e w'=>e = .returned (.bool true)∧Ext w w':=by
 by_cases hs:os.length≤1000000
 ·exact walkOptions awakeOK os A c q w hA hc hs hE
 have HE:=Lib.hid hE
 have HAW:=Lib.hid awakeOK
 have HX:Hid (Ext w w):=Lib.hid (Ext.refl _)
 have g:decide ((10:Int)<(os.length:Int))=true:=by rw [decide_eq_true_iff];omega
 clear hA hE
 go_enter Tryz.func10,Tryz.ntmps10
 go_wp2_with fail
 refine (HAW.out _ (HE.out.ext HX.out)).mono ?_
 rintro e v2 ⟨rfl,hx1⟩
 replace HX:=Lib.hid (HX.out.trans hx1)
 clear hx1
 go_wp2_with fail
 go_ret
 exact ⟨rfl,HX.out⟩
end
end Go.Proofs.YthgpheopnhajaaaGreatDoor
