/- A part of the document's readers. -/
import Derived.Test.YthclnpigplcckaaGreatProg
import Derived.Test.YthclnpigplcckaaGreatLibs
import Derived.Test.YthclnpigplcckaaGreatZd
import Derived.WalkSpells
import Derived.WalkLawsBesides
import Derived.Deep.LoopGhost
import Derived.Lib.Hide
import Derived.Deep.RegionWith
import Derived.Maps.AppendAt
import Derived.KernelRfl
set_option linter.unusedSimpArgs false
set_option linter.unusedVariables false

set_option linter.unusedSimpArgs false
namespace Go.Proofs
open Go Go.RowKit Cod

theorem Tryz.shape47 : bshape Tryz.prog 47 = some ([(0, 1), (1, 1), (2, 27)], #[.int .i64 0, .int .i64 0, .int .i64 0, .int .i64 0, .int .i64 0, .int .i64 0, .int .i64 0, .int .i64 0, .int .i64 0, .slice none 0 0, .int .i64 0, .bool false, .int .i64 0, .int .i64 0, .int .i64 0, .bool false, .bool false, .int .i64 0, .int .i64 0, .int .i64 0, .slice none 0 0, .int .i64 0, .int .i64 0, .int .i64 0, .slice none 0 0, .slice none 0 0, .bool false, .slice none 0 0, .slice none 0 0]) := by kernel_rfl

set_option maxRecDepth 100000 in
set_option maxHeartbeats 1000000 in
theorem in_entry : RecC Tryz.prog 31 schEntry := by
  intro F w bx B bad h hold
  have G := Lib.hid (InX.of h hold 1)
  have M0 : Hid (Mk w.heap.size 29 F (w.alloc (.cells (zeroc schEntry).toArray 47)) bx B bad) := Lib.hid (Mk.start h hold _ _ (by decide))
  have Q0 : Hid (InPX (fun k => w.heap.size ≤ k ∧ k < w.heap.size + 1) .unit F w (w.alloc (.cells (zeroc schEntry).toArray 47)) bx B bad B bad [] ()) := Lib.hid (InPX.begin h hold _ _)
  have hlt := h.lt
  clear h hold
  go_enter Tryz.func31, Tryz.ntmps31
  go_wp2_with fail
  refine (in_c (M0.out.h).form (M0.out.h).nf).mono ?_
  rintro e w1 ⟨a1, B1, bad1, rfl, p1⟩
  have P1 := Lib.hid p1.p
  have M1 := Lib.hid (M0.out.next P1.out)
  have Q1 := Lib.hid (InPX.both hlt Q0.out P1.out)
  clear p1 P1
  go_wp2_with fail
  refine (in_c (M1.out.h).form (M1.out.h).nf).mono ?_
  rintro e w2 ⟨a2, B2, bad2, rfl, p2⟩
  have P2 := Lib.hid p2.p
  have M2 := Lib.hid (M1.out.next P2.out)
  have Q2 := Lib.hid (InPX.both hlt Q1.out P2.out)
  clear p2 P2
  go_wp2_with fail
  refine (in_cmd F _ bx _ _ (M2.out.h) M2.out.old).mono ?_
  rintro e w3 ⟨vs3, x3, B3, bad3, rfl, p3⟩
  have P3 := Lib.hid p3
  have hl3 : vs3.length = 27 := Lay.len _ p3.lay
  have M3 := Lib.hid (M2.out.next P3.out)
  have Q3 := Lib.hid (InPX.both hlt Q2.out P3.out)
  clear p3 P3
  have hlv : (((([] ++ [Value.int .i64 a1]) ++ [Value.int .i64 a2]) ++ vs3)).length = 29 := Lay.len schEntry Q3.out.lay
  obtain ⟨VS, hVS⟩ : ∃ VS : List Value, Hid (VS = ((([] ++ [Value.int .i64 a1]) ++ [Value.int .i64 a2]) ++ vs3)) := ⟨_, Lib.hid rfl⟩
  have hlv2 : VS.length = 29 := by rw [hVS.out]; exact hlv
  have QF : Hid (InPX (fun k => w.heap.size ≤ k ∧ k < w.heap.size + 1) schEntry F w w3 bx B bad B3 bad3 VS _) := Lib.hid (by rw [hVS.out]; exact Q3.out)
  have TV : Hid (w3.there w.heap.size 0 VS.toArray.size) := Lib.hid (by show w3.there w.heap.size 0 VS.length; rw [hlv2]; exact M3.out.th)
  have SV : Hid ((Tryz.prog.info? 47).map (·.size) = some VS.toArray.size) := Lib.hid (by show _ = some VS.length; rw [hlv2]; exact Tryz.sz47)
  have OV := Lib.hid (all_oneCell_toArray (Lay.one schEntry QF.out.lay))
  clear hlv hlv2
  go_wp2_with (first
    | (refine wpList_build_vs rfl 47 _ rfl Tryz.shape47 [[Value.int .i64 a1], [Value.int .i64 a2], vs3] ?_ VS ?_ ?_)
    | (refine wpList_store_mid rfl 47 _ _ rfl w.heap.size 0 VS.toArray rfl rfl TV.out SV.out OV.out ?_))
  · exact ⟨by simp [hl3], rfl, by simp [hl3], ⟨by simp [hl3], rfl, by simp [hl3], ⟨by simp [hl3], rfl, by simp [hl3], trivial⟩⟩⟩
  · rw [hVS.out]; simp [hl3]
  · refine ret_row1 rfl rfl Tryz.underlying47 rfl SV.out (At.setCells TV.out) rfl ?_
    exact ⟨VS, _, B3, bad3, rfl, (QF.out.sets G.out ⟨Nat.le_refl _, by omega⟩).done G.out⟩

end Go.Proofs
