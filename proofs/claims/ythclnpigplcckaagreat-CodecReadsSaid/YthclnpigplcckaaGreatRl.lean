/- A part of the codec's readers. -/
import Derived.Test.YthclnpigplcckaaGreatProg
import Derived.Test.YthclnpigplcckaaGreatLib
import Derived.Test.YthclnpigplcckaaGreatRj
import Derived.Test.YthclnpigplcckaaGreatRf
import Derived.Test.YthclnpigplcckaaGreatRk
import Derived.Test.YthclnpigplcckaaGreatRg
import Derived.WalkSpells
import Derived.WalkLawsBesides
import Derived.Deep.LoopGhost
import Derived.Lib.Hide
import Derived.Deep.RegionWith
import Derived.Maps.AppendAt
import Derived.KernelRfl
set_option linter.unusedSimpArgs false
set_option linter.unusedVariables false

set_option linter.unusedSimpArgs false
namespace Go.Proofs
open Go Go.RowKit Cod

def schStore : Sch := .pair (.pair (.pair (.pair (.pair (.pair (.pair (numsL 2) (.list schJob)) (.list schJob)) (.list schNode)) (.list schAlloc)) (.list schEval)) (.list schDeploy)) (.list schSeen)

set_option maxRecDepth 100000 in
set_option maxHeartbeats 1000000 in
theorem store_rd : RdC Tryz.prog 45 schStore := by
  intro F w bf b o B bad h
  have H := Lib.hid h
  clear h
  go_enter Tryz.func45, Tryz.ntmps45
  try go_wp2_with fail
  go_region_with (refine (nums_dr (k := 2) (H.out.first.first.first.first.first.first.first) rfl (by omega)).mono ?_; rintro e w1 ⟨rfl, B1, bad1, p1⟩; have P1 := Lib.hid p1; clear p1)
  have Q1 := P1
  try go_wp2_with fail
  refine (list77_rd (RdP.next H.out.first.first.first.first.first.first Q1.out)).mono ?_
  rintro e w2 ⟨rfl, B2, bad2, p2⟩
  have P2 := Lib.hid p2
  clear p2
  have Q2 := Lib.hid (RdP.both H.out.ne H.out.lt H.out.lf Q1.out P2.out)
  clear P2 Q1
  try go_wp2_with fail
  refine (list77_rd (RdP.next H.out.first.first.first.first.first Q2.out)).mono ?_
  rintro e w3 ⟨rfl, B3, bad3, p3⟩
  have P3 := Lib.hid p3
  clear p3
  have Q3 := Lib.hid (RdP.both H.out.ne H.out.lt H.out.lf Q2.out P3.out)
  clear P3 Q2
  try go_wp2_with fail
  refine (list78_rd (RdP.next H.out.first.first.first.first Q3.out)).mono ?_
  rintro e w4 ⟨rfl, B4, bad4, p4⟩
  have P4 := Lib.hid p4
  clear p4
  have Q4 := Lib.hid (RdP.both H.out.ne H.out.lt H.out.lf Q3.out P4.out)
  clear P4 Q3
  try go_wp2_with fail
  refine (list79_rd (RdP.next H.out.first.first.first Q4.out)).mono ?_
  rintro e w5 ⟨rfl, B5, bad5, p5⟩
  have P5 := Lib.hid p5
  clear p5
  have Q5 := Lib.hid (RdP.both H.out.ne H.out.lt H.out.lf Q4.out P5.out)
  clear P5 Q4
  try go_wp2_with fail
  refine (list81_rd (RdP.next H.out.first.first Q5.out)).mono ?_
  rintro e w6 ⟨rfl, B6, bad6, p6⟩
  have P6 := Lib.hid p6
  clear p6
  have Q6 := Lib.hid (RdP.both H.out.ne H.out.lt H.out.lf Q5.out P6.out)
  clear P6 Q5
  try go_wp2_with fail
  refine (list83_rd (RdP.next H.out.first Q6.out)).mono ?_
  rintro e w7 ⟨rfl, B7, bad7, p7⟩
  have P7 := Lib.hid p7
  clear p7
  have Q7 := Lib.hid (RdP.both H.out.ne H.out.lt H.out.lf Q6.out P7.out)
  clear P7 Q6
  try go_wp2_with fail
  refine (list85_rd (RdP.next H.out Q7.out)).mono ?_
  rintro e w8 ⟨rfl, B8, bad8, p8⟩
  have P8 := Lib.hid p8
  clear p8
  have Q8 := Lib.hid (RdP.both H.out.ne H.out.lt H.out.lf Q7.out P8.out)
  clear P8 Q7
  go_wp2_with fail
  go_end0
  exact ⟨rfl, B8, bad8, Q8.out⟩

end Go.Proofs
