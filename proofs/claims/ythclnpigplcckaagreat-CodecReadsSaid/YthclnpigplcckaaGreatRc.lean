/- A part of the codec's readers. -/
import Derived.Test.YthclnpigplcckaaGreatProg
import Derived.Test.YthclnpigplcckaaGreatLib
import Derived.Test.YthclnpigplcckaaGreatRa
import Derived.WalkSpells
import Derived.WalkLawsBesides
import Derived.Deep.LoopGhost
import Derived.Lib.Hide
import Derived.Deep.RegionWith
import Derived.Maps.AppendAt
import Derived.KernelRfl
set_option linter.unusedSimpArgs false
set_option linter.unusedVariables false

set_option linter.unusedSimpArgs false
namespace Go.Proofs
open Go Go.RowKit Cod

def schNode : Sch := .pair (.pair (.pair (.pair .num schRes) .flag) .flag) (numsL 3)

set_option maxRecDepth 100000 in
set_option maxHeartbeats 1000000 in
theorem node_rd : RdC Tryz.prog 51 schNode := by
  intro F w bf b o B bad h
  have H := Lib.hid h
  clear h
  go_enter Tryz.func51, Tryz.ntmps51
  go_wp2_with fail
  refine (num_rd F _ bf b o B bad (H.out.first.first.first.first)).mono ?_
  rintro e w1 ⟨rfl, B1, bad1, p1⟩
  have P1 := Lib.hid p1
  clear p1
  have Q1 := P1
  try go_wp2_with fail
  refine (res_rd F _ bf b (o + 1) B1 bad1 (RdP.next H.out.first.first.first Q1.out)).mono ?_
  rintro e w2 ⟨rfl, B2, bad2, p2⟩
  have P2 := Lib.hid p2
  clear p2
  have Q2 := Lib.hid (RdP.both H.out.ne H.out.lt H.out.lf Q1.out P2.out)
  clear P2 Q1
  try go_wp2_with fail
  refine (flag_rd F _ bf b (o + 3) B2 bad2 (RdP.next H.out.first.first Q2.out)).mono ?_
  rintro e w3 ⟨rfl, B3, bad3, p3⟩
  have P3 := Lib.hid p3
  clear p3
  have Q3 := Lib.hid (RdP.both H.out.ne H.out.lt H.out.lf Q2.out P3.out)
  clear P3 Q2
  try go_wp2_with fail
  refine (flag_rd F _ bf b (o + 4) B3 bad3 (RdP.next H.out.first Q3.out)).mono ?_
  rintro e w4 ⟨rfl, B4, bad4, p4⟩
  have P4 := Lib.hid p4
  clear p4
  have Q4 := Lib.hid (RdP.both H.out.ne H.out.lt H.out.lf Q3.out P4.out)
  clear P4 Q3
  try go_wp2_with fail
  go_region_with (refine (nums_dr (k := 3) (RdP.next H.out Q4.out) rfl (by omega)).mono ?_; rintro e w5 ⟨rfl, B5, bad5, p5⟩; have P5 := Lib.hid p5; clear p5)
  have Q5 := Lib.hid (RdP.both H.out.ne H.out.lt H.out.lf Q4.out P5.out)
  clear P5 Q4
  go_wp2_with fail
  go_end0
  exact ⟨rfl, B5, bad5, Q5.out⟩


def schReport : Sch := (numsL 2)

set_option maxRecDepth 100000 in
set_option maxHeartbeats 1000000 in
theorem report_rd : RdC Tryz.prog 53 schReport := by
  intro F w bf b o B bad h
  have H := Lib.hid h
  clear h
  go_enter Tryz.func53, Tryz.ntmps53
  try go_wp2_with fail
  go_region_with (refine (nums_dr (k := 2) (H.out) rfl (by omega)).mono ?_; rintro e w1 ⟨rfl, B1, bad1, p1⟩; have P1 := Lib.hid p1; clear p1)
  have Q1 := P1
  go_wp2_with fail
  go_end0
  exact ⟨rfl, B1, bad1, Q1.out⟩


def schAlloc : Sch := .pair (.pair (.pair (numsL 7) schRes) .flag) .num

set_option maxRecDepth 100000 in
set_option maxHeartbeats 1000000 in
theorem alloc_rd : RdC Tryz.prog 80 schAlloc := by
  intro F w bf b o B bad h
  have H := Lib.hid h
  clear h
  go_enter Tryz.func80, Tryz.ntmps80
  try go_wp2_with fail
  go_region_with (refine (nums_dr (k := 7) (H.out.first.first.first) rfl (by omega)).mono ?_; rintro e w1 ⟨rfl, B1, bad1, p1⟩; have P1 := Lib.hid p1; clear p1)
  have Q1 := P1
  try go_wp2_with fail
  refine (res_rd F _ bf b (o + 7) B1 bad1 (RdP.next H.out.first.first Q1.out)).mono ?_
  rintro e w2 ⟨rfl, B2, bad2, p2⟩
  have P2 := Lib.hid p2
  clear p2
  have Q2 := Lib.hid (RdP.both H.out.ne H.out.lt H.out.lf Q1.out P2.out)
  clear P2 Q1
  try go_wp2_with fail
  refine (flag_rd F _ bf b (o + 9) B2 bad2 (RdP.next H.out.first Q2.out)).mono ?_
  rintro e w3 ⟨rfl, B3, bad3, p3⟩
  have P3 := Lib.hid p3
  clear p3
  have Q3 := Lib.hid (RdP.both H.out.ne H.out.lt H.out.lf Q2.out P3.out)
  clear P3 Q2
  try go_wp2_with fail
  refine (num_rd F _ bf b (o + 10) B3 bad3 (RdP.next H.out Q3.out)).mono ?_
  rintro e w4 ⟨rfl, B4, bad4, p4⟩
  have P4 := Lib.hid p4
  clear p4
  have Q4 := Lib.hid (RdP.both H.out.ne H.out.lt H.out.lf Q3.out P4.out)
  clear P4 Q3
  go_wp2_with fail
  go_end0
  exact ⟨rfl, B4, bad4, Q4.out⟩


def schEval : Sch := (numsL 4)

set_option maxRecDepth 100000 in
set_option maxHeartbeats 1000000 in
theorem eval_rd : RdC Tryz.prog 82 schEval := by
  intro F w bf b o B bad h
  have H := Lib.hid h
  clear h
  go_enter Tryz.func82, Tryz.ntmps82
  try go_wp2_with fail
  go_region_with (refine (nums_dr (k := 4) (H.out) rfl (by omega)).mono ?_; rintro e w1 ⟨rfl, B1, bad1, p1⟩; have P1 := Lib.hid p1; clear p1)
  have Q1 := P1
  go_wp2_with fail
  go_end0
  exact ⟨rfl, B1, bad1, Q1.out⟩


def schDeploy : Sch := (numsL 4)

set_option maxRecDepth 100000 in
set_option maxHeartbeats 1000000 in
theorem deploy_rd : RdC Tryz.prog 84 schDeploy := by
  intro F w bf b o B bad h
  have H := Lib.hid h
  clear h
  go_enter Tryz.func84, Tryz.ntmps84
  try go_wp2_with fail
  go_region_with (refine (nums_dr (k := 4) (H.out) rfl (by omega)).mono ?_; rintro e w1 ⟨rfl, B1, bad1, p1⟩; have P1 := Lib.hid p1; clear p1)
  have Q1 := P1
  go_wp2_with fail
  go_end0
  exact ⟨rfl, B1, bad1, Q1.out⟩

end Go.Proofs

set_option linter.unusedSimpArgs false
namespace Go.Proofs
open Go Go.RowKit Cod

def schJob : Sch := .pair (.pair (.pair (numsL 4) (.list schGroup)) .num) .flag

set_option maxRecDepth 100000 in
set_option maxHeartbeats 1000000 in
theorem job_rd : RdC Tryz.prog 50 schJob := by
  intro F w bf b o B bad h
  have H := Lib.hid h
  clear h
  go_enter Tryz.func50, Tryz.ntmps50
  try go_wp2_with fail
  go_region_with (refine (nums_dr (k := 4) (H.out.first.first.first) rfl (by omega)).mono ?_; rintro e w1 ⟨rfl, B1, bad1, p1⟩; have P1 := Lib.hid p1; clear p1)
  have Q1 := P1
  try go_wp2_with fail
  refine (list91_rd (RdP.next H.out.first.first Q1.out)).mono ?_
  rintro e w2 ⟨rfl, B2, bad2, p2⟩
  have P2 := Lib.hid p2
  clear p2
  have Q2 := Lib.hid (RdP.both H.out.ne H.out.lt H.out.lf Q1.out P2.out)
  clear P2 Q1
  try go_wp2_with fail
  refine (num_rd F _ bf b (o + 5) B2 bad2 (RdP.next H.out.first Q2.out)).mono ?_
  rintro e w3 ⟨rfl, B3, bad3, p3⟩
  have P3 := Lib.hid p3
  clear p3
  have Q3 := Lib.hid (RdP.both H.out.ne H.out.lt H.out.lf Q2.out P3.out)
  clear P3 Q2
  try go_wp2_with fail
  refine (flag_rd F _ bf b (o + 6) B3 bad3 (RdP.next H.out Q3.out)).mono ?_
  rintro e w4 ⟨rfl, B4, bad4, p4⟩
  have P4 := Lib.hid p4
  clear p4
  have Q4 := Lib.hid (RdP.both H.out.ne H.out.lt H.out.lf Q3.out P4.out)
  clear P4 Q3
  go_wp2_with fail
  go_end0
  exact ⟨rfl, B4, bad4, Q4.out⟩

end Go.Proofs
