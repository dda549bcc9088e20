/- A part of the codec's readers. -/
import Derived.Test.YthclnpigplcckaaGreatProg
import Derived.Test.YthclnpigplcckaaGreatLib
import Derived.Test.YthclnpigplcckaaGreatRc
import Derived.Test.YthclnpigplcckaaGreatRd
import Derived.Test.YthclnpigplcckaaGreatRe
import Derived.Test.YthclnpigplcckaaGreatRb
import Derived.Test.YthclnpigplcckaaGreatLibs
import Derived.WalkSpells
import Derived.WalkLawsBesides
import Derived.Deep.LoopGhost
import Derived.Lib.Hide
import Derived.Deep.RegionWith
import Derived.Maps.AppendAt
import Derived.KernelRfl
set_option linter.unusedSimpArgs false
set_option linter.unusedVariables false

set_option linter.unusedSimpArgs false
namespace Go.Proofs
open Go Go.RowKit Cod

def schResult : Sch := .pair (.pair .num .num) (.list schAlloc)

set_option maxRecDepth 100000 in
set_option maxHeartbeats 1000000 in
theorem result_rd : RdC Tryz.prog 71 schResult := by
  intro F w bf b o B bad h
  have H := Lib.hid h
  clear h
  go_enter Tryz.func71, Tryz.ntmps71
  go_wp2_with fail
  refine (code_rd F _ bf b o B bad (H.out.first.first)).mono ?_
  rintro e w1 ⟨rfl, B1, bad1, p1⟩
  have P1 := Lib.hid p1
  clear p1
  have Q1 := P1
  try go_wp2_with fail
  refine (num_rd F _ bf b (o + 1) B1 bad1 (RdP.next H.out.first Q1.out)).mono ?_
  rintro e w2 ⟨rfl, B2, bad2, p2⟩
  have P2 := Lib.hid p2
  clear p2
  have Q2 := Lib.hid (RdP.both H.out.ne H.out.lt H.out.lf Q1.out P2.out)
  clear P2 Q1
  try go_wp2_with fail
  refine (list79_rd (RdP.next H.out Q2.out)).mono ?_
  rintro e w3 ⟨rfl, B3, bad3, p3⟩
  have P3 := Lib.hid p3
  clear p3
  have Q3 := Lib.hid (RdP.both H.out.ne H.out.lt H.out.lf Q2.out P3.out)
  clear P3 Q2
  go_wp2_with fail
  go_end0
  exact ⟨rfl, B3, bad3, Q3.out⟩


def schConf : Sch := .pair (.list .num) (.list .num)

set_option maxRecDepth 100000 in
set_option maxHeartbeats 1000000 in
theorem conf_rd : RdC Tryz.prog 55 schConf := by
  intro F w bf b o B bad h
  have H := Lib.hid h
  clear h
  go_enter Tryz.func55, Tryz.ntmps55
  go_wp2_with fail
  refine (list95_rd (H.out.first)).mono ?_
  rintro e w1 ⟨rfl, B1, bad1, p1⟩
  have P1 := Lib.hid p1
  clear p1
  have Q1 := P1
  try go_wp2_with fail
  refine (list95_rd (RdP.next H.out Q1.out)).mono ?_
  rintro e w2 ⟨rfl, B2, bad2, p2⟩
  have P2 := Lib.hid p2
  clear p2
  have Q2 := Lib.hid (RdP.both H.out.ne H.out.lt H.out.lf Q1.out P2.out)
  clear P2 Q1
  go_wp2_with fail
  go_end0
  exact ⟨rfl, B2, bad2, Q2.out⟩

end Go.Proofs

set_option linter.unusedSimpArgs false
namespace Go.Proofs
open Go Go.RowKit Cod

def schPlan : Sch := .pair (.pair (.pair (numsL 3) (.list .num)) (.list schAlloc)) .flag

set_option maxRecDepth 100000 in
set_option maxHeartbeats 1000000 in
theorem plan_rd : RdC Tryz.prog 54 schPlan := by
  intro F w bf b o B bad h
  have H := Lib.hid h
  clear h
  go_enter Tryz.func54, Tryz.ntmps54
  try go_wp2_with fail
  go_region_with (refine (nums_dr (k := 3) (H.out.first.first.first) rfl (by omega)).mono ?_; rintro e w1 ⟨rfl, B1, bad1, p1⟩; have P1 := Lib.hid p1; clear p1)
  have Q1 := P1
  try go_wp2_with fail
  refine (list95_rd (RdP.next H.out.first.first Q1.out)).mono ?_
  rintro e w2 ⟨rfl, B2, bad2, p2⟩
  have P2 := Lib.hid p2
  clear p2
  have Q2 := Lib.hid (RdP.both H.out.ne H.out.lt H.out.lf Q1.out P2.out)
  clear P2 Q1
  try go_wp2_with fail
  refine (list79_rd (RdP.next H.out.first Q2.out)).mono ?_
  rintro e w3 ⟨rfl, B3, bad3, p3⟩
  have P3 := Lib.hid p3
  clear p3
  have Q3 := Lib.hid (RdP.both H.out.ne H.out.lt H.out.lf Q2.out P3.out)
  clear P3 Q2
  try go_wp2_with fail
  refine (flag_rd F _ bf b (o + 5) B3 bad3 (RdP.next H.out Q3.out)).mono ?_
  rintro e w4 ⟨rfl, B4, bad4, p4⟩
  have P4 := Lib.hid p4
  clear p4
  have Q4 := Lib.hid (RdP.both H.out.ne H.out.lt H.out.lf Q3.out P4.out)
  clear P4 Q3
  go_wp2_with fail
  go_end0
  exact ⟨rfl, B4, bad4, Q4.out⟩

end Go.Proofs

set_option linter.unusedSimpArgs false
namespace Go.Proofs
open Go Go.RowKit Cod

def schCmd : Sch := .pair (.pair (.pair (.pair (.pair (numsL 3) schJob) schNode) (.list schReport)) schPlan) schConf

set_option maxRecDepth 100000 in
set_option maxHeartbeats 1000000 in
theorem cmd_rd : RdC Tryz.prog 22 schCmd := by
  intro F w bf b o B bad h
  have H := Lib.hid h
  clear h
  go_enter Tryz.func22, Tryz.ntmps22
  try go_wp2_with fail
  go_region_with (refine (nums_dr (k := 3) (H.out.first.first.first.first.first) rfl (by omega)).mono ?_; rintro e w1 ⟨rfl, B1, bad1, p1⟩; have P1 := Lib.hid p1; clear p1)
  have Q1 := P1
  try go_wp2_with fail
  refine (job_rd F _ bf b (o + 3) B1 bad1 (RdP.next H.out.first.first.first.first Q1.out)).mono ?_
  rintro e w2 ⟨rfl, B2, bad2, p2⟩
  have P2 := Lib.hid p2
  clear p2
  have Q2 := Lib.hid (RdP.both H.out.ne H.out.lt H.out.lf Q1.out P2.out)
  clear P2 Q1
  try go_wp2_with fail
  refine (node_rd F _ bf b (o + 10) B2 bad2 (RdP.next H.out.first.first.first Q2.out)).mono ?_
  rintro e w3 ⟨rfl, B3, bad3, p3⟩
  have P3 := Lib.hid p3
  clear p3
  have Q3 := Lib.hid (RdP.both H.out.ne H.out.lt H.out.lf Q2.out P3.out)
  clear P3 Q2
  try go_wp2_with fail
  refine (list52_rd (RdP.next H.out.first.first Q3.out)).mono ?_
  rintro e w4 ⟨rfl, B4, bad4, p4⟩
  have P4 := Lib.hid p4
  clear p4
  have Q4 := Lib.hid (RdP.both H.out.ne H.out.lt H.out.lf Q3.out P4.out)
  clear P4 Q3
  try go_wp2_with fail
  refine (plan_rd F _ bf b (o + 19) B4 bad4 (RdP.next H.out.first Q4.out)).mono ?_
  rintro e w5 ⟨rfl, B5, bad5, p5⟩
  have P5 := Lib.hid p5
  clear p5
  have Q5 := Lib.hid (RdP.both H.out.ne H.out.lt H.out.lf Q4.out P5.out)
  clear P5 Q4
  try go_wp2_with fail
  refine (conf_rd F _ bf b (o + 25) B5 bad5 (RdP.next H.out Q5.out)).mono ?_
  rintro e w6 ⟨rfl, B6, bad6, p6⟩
  have P6 := Lib.hid p6
  clear p6
  have Q6 := Lib.hid (RdP.both H.out.ne H.out.lt H.out.lf Q5.out P6.out)
  clear P6 Q5
  go_wp2_with fail
  go_end0
  exact ⟨rfl, B6, bad6, Q6.out⟩


def schEntry : Sch := .pair (numsL 2) schCmd

set_option maxRecDepth 100000 in
set_option maxHeartbeats 1000000 in
theorem entry_rd : RdC Tryz.prog 30 schEntry := by
  intro F w bf b o B bad h
  have H := Lib.hid h
  clear h
  go_enter Tryz.func30, Tryz.ntmps30
  try go_wp2_with fail
  go_region_with (refine (nums_dr (k := 2) (H.out.first) rfl (by omega)).mono ?_; rintro e w1 ⟨rfl, B1, bad1, p1⟩; have P1 := Lib.hid p1; clear p1)
  have Q1 := P1
  try go_wp2_with fail
  refine (cmd_rd F _ bf b (o + 2) B1 bad1 (RdP.next H.out Q1.out)).mono ?_
  rintro e w2 ⟨rfl, B2, bad2, p2⟩
  have P2 := Lib.hid p2
  clear p2
  have Q2 := Lib.hid (RdP.both H.out.ne H.out.lt H.out.lf Q1.out P2.out)
  clear P2 Q1
  go_wp2_with fail
  go_end0
  exact ⟨rfl, B2, bad2, Q2.out⟩

end Go.Proofs
