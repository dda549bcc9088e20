/- A part of the document's readers. -/
import Derived.Test.YthclnpigplcckaaGreatProg
import Derived.Test.YthclnpigplcckaaGreatLibs
import Derived.Test.YthclnpigplcckaaGreatZa
import Derived.Test.YthclnpigplcckaaGreatRh
import Derived.Test.YthclnpigplcckaaGreatRj
import Derived.Test.YthclnpigplcckaaGreatPa
import Derived.WalkSpells
import Derived.WalkLawsBesides
import Derived.Deep.LoopGhost
import Derived.Lib.Hide
import Derived.Deep.RegionWith
import Derived.Maps.AppendAt
import Derived.KernelRfl
set_option linter.unusedSimpArgs false
set_option linter.unusedVariables false

set_option linter.unusedSimpArgs false
namespace Go.Proofs
open Go Go.RowKit Cod

theorem Tryz.shape34 : bshape Tryz.prog 34 = some ([(0, 1), (1, 1), (2, 1), (3, 1), (4, 1), (5, 1)], #[.int .i64 0, .int .i64 0, .int .i64 0, .slice none 0 0, .slice none 0 0, .bool false]) := by kernel_rfl
theorem Tryz.sz34 : (Tryz.prog.info? 34).map (·.size) = some 6 := by kernel_rfl

set_option maxRecDepth 100000 in
set_option maxHeartbeats 1000000 in
theorem in_plan : RecC Tryz.prog 60 schPlan := by
  intro F w bx B bad h hold
  have G := Lib.hid (InX.of h hold 1)
  have M0 : Hid (Mk w.heap.size 6 F (w.alloc (.cells (zeroc schPlan).toArray 34)) bx B bad) := Lib.hid (Mk.start h hold _ _ (by decide))
  have Q0 : Hid (InPX (fun k => w.heap.size ≤ k ∧ k < w.heap.size + 1) .unit F w (w.alloc (.cells (zeroc schPlan).toArray 34)) bx B bad B bad [] ()) := Lib.hid (InPX.begin h hold _ _)
  have hlt := h.lt
  clear h hold
  go_enter Tryz.func60, Tryz.ntmps60
  go_wp2_with fail
  refine (in_c (M0.out.h).form (M0.out.h).nf).mono ?_
  rintro e w1 ⟨a1, B1, bad1, rfl, p1⟩
  have P1 := Lib.hid p1.p
  have M1 := Lib.hid (M0.out.next P1.out)
  have Q1 := Lib.hid (InPX.both hlt Q0.out P1.out)
  clear p1 P1
  go_wp2_with fail
  refine (in_c (M1.out.h).form (M1.out.h).nf).mono ?_
  rintro e w2 ⟨a2, B2, bad2, rfl, p2⟩
  have P2 := Lib.hid p2.p
  have M2 := Lib.hid (M1.out.next P2.out)
  have Q2 := Lib.hid (InPX.both hlt Q1.out P2.out)
  clear p2 P2
  go_wp2_with fail
  refine (in_c (M2.out.h).form (M2.out.h).nf).mono ?_
  rintro e w3 ⟨a3, B3, bad3, rfl, p3⟩
  have P3 := Lib.hid p3.p
  have M3 := Lib.hid (M2.out.next P3.out)
  have Q3 := Lib.hid (InPX.both hlt Q2.out P3.out)
  clear p3 P3
  go_wp2_with fail
  refine (in_nums (M3.out.h) M3.out.old).mono ?_
  rintro e w4 ⟨a4, x4, B4, bad4, rfl, p4⟩
  obtain ⟨A4, n4, c4, rfl⟩ := lay_slice p4.lay
  have P4 := Lib.hid p4
  have M4 := Lib.hid (M3.out.next P4.out)
  have Q4 := Lib.hid (InPX.both hlt Q3.out P4.out)
  clear p4 P4
  go_wp2_with fail
  refine (in_allocs (M4.out.h) M4.out.old).mono ?_
  rintro e w5 ⟨a5, x5, B5, bad5, rfl, p5⟩
  obtain ⟨A5, n5, c5, rfl⟩ := lay_slice p5.lay
  have P5 := Lib.hid p5
  have M5 := Lib.hid (M4.out.next P5.out)
  have Q5 := Lib.hid (InPX.both hlt Q4.out P5.out)
  clear p5 P5
  go_wp2_with fail
  refine (in_flag (M5.out.h)).mono ?_
  rintro e w6 ⟨a6, B6, bad6, rfl, p6⟩
  have P6 := Lib.hid p6
  have M6 := Lib.hid (M5.out.next P6.out)
  have Q6 := Lib.hid (InPX.both hlt Q5.out P6.out)
  clear p6 P6
  have hlv : ((((((([] ++ [Value.int .i64 a1]) ++ [Value.int .i64 a2]) ++ [Value.int .i64 a3]) ++ [Value.slice A4 n4 c4]) ++ [Value.slice A5 n5 c5]) ++ [Value.bool a6])).length = 6 := Lay.len schPlan Q6.out.lay
  obtain ⟨VS, hVS⟩ : ∃ VS : List Value, Hid (VS = (((((([] ++ [Value.int .i64 a1]) ++ [Value.int .i64 a2]) ++ [Value.int .i64 a3]) ++ [Value.slice A4 n4 c4]) ++ [Value.slice A5 n5 c5]) ++ [Value.bool a6])) := ⟨_, Lib.hid rfl⟩
  have hlv2 : VS.length = 6 := by rw [hVS.out]; exact hlv
  have QF : Hid (InPX (fun k => w.heap.size ≤ k ∧ k < w.heap.size + 1) schPlan F w w6 bx B bad B6 bad6 VS _) := Lib.hid (by rw [hVS.out]; exact Q6.out)
  have TV : Hid (w6.there w.heap.size 0 VS.toArray.size) := Lib.hid (by show w6.there w.heap.size 0 VS.length; rw [hlv2]; exact M6.out.th)
  have SV : Hid ((Tryz.prog.info? 34).map (·.size) = some VS.toArray.size) := Lib.hid (by show _ = some VS.length; rw [hlv2]; exact Tryz.sz34)
  have OV := Lib.hid (all_oneCell_toArray (Lay.one schPlan QF.out.lay))
  clear hlv hlv2
  go_wp2_with (first
    | (refine wpList_build_vs rfl 34 _ rfl Tryz.shape34 [[Value.int .i64 a1], [Value.int .i64 a2], [Value.int .i64 a3], [Value.slice A4 n4 c4], [Value.slice A5 n5 c5], [Value.bool a6]] ?_ VS ?_ ?_)
    | (refine wpList_store_mid rfl 34 _ _ rfl w.heap.size 0 VS.toArray rfl rfl TV.out SV.out OV.out ?_))
  · exact ⟨by simp, rfl, by simp, ⟨by simp, rfl, by simp, ⟨by simp, rfl, by simp, ⟨by simp, rfl, by simp, ⟨by simp, rfl, by simp, ⟨by simp, rfl, by simp, trivial⟩⟩⟩⟩⟩⟩
  · rw [hVS.out]; simp
  · refine ret_row1 rfl rfl Tryz.underlying34 rfl SV.out (At.setCells TV.out) rfl ?_
    exact ⟨VS, _, B6, bad6, rfl, (QF.out.sets G.out ⟨Nat.le_refl _, by omega⟩).done G.out⟩


theorem Tryz.shape60 : bshape Tryz.prog 60 = some ([(0, 1), (1, 1), (2, 2), (4, 1)], #[.int .i64 0, .int .i64 0, .slice none 0 0, .slice none 0 0, .slice none 0 0]) := by kernel_rfl

set_option maxRecDepth 100000 in
set_option maxHeartbeats 1000000 in
theorem in_snapshot : RecC Tryz.prog 41 schSnapshot := by
  intro F w bx B bad h hold
  have G := Lib.hid (InX.of h hold 1)
  have M0 : Hid (Mk w.heap.size 5 F (w.alloc (.cells (zeroc schSnapshot).toArray 60)) bx B bad) := Lib.hid (Mk.start h hold _ _ (by decide))
  have Q0 : Hid (InPX (fun k => w.heap.size ≤ k ∧ k < w.heap.size + 1) .unit F w (w.alloc (.cells (zeroc schSnapshot).toArray 60)) bx B bad B bad [] ()) := Lib.hid (InPX.begin h hold _ _)
  have hlt := h.lt
  clear h hold
  go_enter Tryz.func41, Tryz.ntmps41
  go_wp2_with fail
  refine (in_c (M0.out.h).form (M0.out.h).nf).mono ?_
  rintro e w1 ⟨a1, B1, bad1, rfl, p1⟩
  have P1 := Lib.hid p1.p
  have M1 := Lib.hid (M0.out.next P1.out)
  have Q1 := Lib.hid (InPX.both hlt Q0.out P1.out)
  clear p1 P1
  go_wp2_with fail
  refine (in_c (M1.out.h).form (M1.out.h).nf).mono ?_
  rintro e w2 ⟨a2, B2, bad2, rfl, p2⟩
  have P2 := Lib.hid p2.p
  have M2 := Lib.hid (M1.out.next P2.out)
  have Q2 := Lib.hid (InPX.both hlt Q1.out P2.out)
  clear p2 P2
  go_wp2_with fail
  refine (in_conf F _ bx _ _ (M2.out.h) M2.out.old).mono ?_
  rintro e w3 ⟨vs3, x3, B3, bad3, rfl, p3⟩
  have P3 := Lib.hid p3
  have hl3 : vs3.length = 2 := Lay.len _ p3.lay
  have M3 := Lib.hid (M2.out.next P3.out)
  have Q3 := Lib.hid (InPX.both hlt Q2.out P3.out)
  clear p3 P3
  go_wp2_with fail
  refine (in_bytes (M3.out.h)).mono ?_
  rintro e w4 ⟨a4, x4, B4, bad4, rfl, p4⟩
  obtain ⟨A4, n4, c4, rfl⟩ := lay_raw p4.lay
  have P4 := Lib.hid p4
  have M4 := Lib.hid (M3.out.next P4.out)
  have Q4 := Lib.hid (InPX.both hlt Q3.out P4.out)
  clear p4 P4
  have hlv : ((((([] ++ [Value.int .i64 a1]) ++ [Value.int .i64 a2]) ++ vs3) ++ [Value.slice A4 n4 c4])).length = 5 := Lay.len schSnapshot Q4.out.lay
  obtain ⟨VS, hVS⟩ : ∃ VS : List Value, Hid (VS = (((([] ++ [Value.int .i64 a1]) ++ [Value.int .i64 a2]) ++ vs3) ++ [Value.slice A4 n4 c4])) := ⟨_, Lib.hid rfl⟩
  have hlv2 : VS.length = 5 := by rw [hVS.out]; exact hlv
  have QF : Hid (InPX (fun k => w.heap.size ≤ k ∧ k < w.heap.size + 1) schSnapshot F w w4 bx B bad B4 bad4 VS _) := Lib.hid (by rw [hVS.out]; exact Q4.out)
  have TV : Hid (w4.there w.heap.size 0 VS.toArray.size) := Lib.hid (by show w4.there w.heap.size 0 VS.length; rw [hlv2]; exact M4.out.th)
  have SV : Hid ((Tryz.prog.info? 60).map (·.size) = some VS.toArray.size) := Lib.hid (by show _ = some VS.length; rw [hlv2]; exact Tryz.sz60)
  have OV := Lib.hid (all_oneCell_toArray (Lay.one schSnapshot QF.out.lay))
  clear hlv hlv2
  go_wp2_with (first
    | (refine wpList_build_vs rfl 60 _ rfl Tryz.shape60 [[Value.int .i64 a1], [Value.int .i64 a2], vs3, [Value.slice A4 n4 c4]] ?_ VS ?_ ?_)
    | (refine wpList_store_mid rfl 60 _ _ rfl w.heap.size 0 VS.toArray rfl rfl TV.out SV.out OV.out ?_))
  · exact ⟨by simp [hl3], rfl, by simp [hl3], ⟨by simp [hl3], rfl, by simp [hl3], ⟨by simp [hl3], rfl, by simp [hl3], ⟨by simp [hl3], rfl, by simp [hl3], trivial⟩⟩⟩⟩
  · rw [hVS.out]; simp [hl3]
  · refine ret_row1 rfl rfl Tryz.underlying60 rfl SV.out (At.setCells TV.out) rfl ?_
    exact ⟨VS, _, B4, bad4, rfl, (QF.out.sets G.out ⟨Nat.le_refl _, by omega⟩).done G.out⟩

end Go.Proofs
