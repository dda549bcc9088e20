/- A part of the document's readers. -/
import Derived.Test.YthclnpigplcckaaGreatProg
import Derived.Test.YthclnpigplcckaaGreatLibs
import Derived.Test.YthclnpigplcckaaGreatJb
import Derived.Test.YthclnpigplcckaaGreatRa
import Derived.WalkSpells
import Derived.WalkLawsBesides
import Derived.Deep.LoopGhost
import Derived.Lib.Hide
import Derived.Deep.RegionWith
import Derived.Maps.AppendAt
import Derived.KernelRfl
import Derived.Test.YthclnpigplcckaaGreatRc
import Derived.Test.YthclnpigplcckaaGreatRe
import Derived.Test.YthclnpigplcckaaGreatRh
set_option linter.unusedSimpArgs false
set_option linter.unusedVariables false

set_option linter.unusedSimpArgs false
namespace Go.Proofs
open Go Go.RowKit Cod

theorem Tryz.shape27 : bshape Tryz.prog 27 = some ([(0, 1), (1, 1)], #[.int .i64 0, .int .i64 0]) := by kernel_rfl
theorem Tryz.sz27 : (Tryz.prog.info? 27).map (·.size) = some 2 := by kernel_rfl

set_option maxRecDepth 100000 in
set_option maxHeartbeats 1000000 in
theorem in_res : RecC Tryz.prog 97 schRes := by
  intro F w bx B bad h hold
  have G := Lib.hid (InX.of h hold 1)
  have M0 : Hid (Mk w.heap.size 2 F (w.alloc (.cells (zeroc schRes).toArray 27)) bx B bad) := Lib.hid (Mk.start h hold _ _ (by decide))
  have Q0 : Hid (InPX (fun k => w.heap.size ≤ k ∧ k < w.heap.size + 1) .unit F w (w.alloc (.cells (zeroc schRes).toArray 27)) bx B bad B bad [] ()) := Lib.hid (InPX.begin h hold _ _)
  have hlt := h.lt
  clear h hold
  go_enter Tryz.func97, Tryz.ntmps97
  go_wp2_with fail
  refine (in_c (M0.out.h).form (M0.out.h).nf).mono ?_
  rintro e w1 ⟨a1, B1, bad1, rfl, p1⟩
  have P1 := Lib.hid p1.p
  have M1 := Lib.hid (M0.out.next P1.out)
  have Q1 := Lib.hid (InPX.both hlt Q0.out P1.out)
  clear p1 P1
  go_wp2_with fail
  refine (in_c (M1.out.h).form (M1.out.h).nf).mono ?_
  rintro e w2 ⟨a2, B2, bad2, rfl, p2⟩
  have P2 := Lib.hid p2.p
  have M2 := Lib.hid (M1.out.next P2.out)
  have Q2 := Lib.hid (InPX.both hlt Q1.out P2.out)
  clear p2 P2
  have hlv : ((([] ++ [Value.int .i64 a1]) ++ [Value.int .i64 a2])).length = 2 := Lay.len schRes Q2.out.lay
  obtain ⟨VS, hVS⟩ : ∃ VS : List Value, Hid (VS = (([] ++ [Value.int .i64 a1]) ++ [Value.int .i64 a2])) := ⟨_, Lib.hid rfl⟩
  have hlv2 : VS.length = 2 := by rw [hVS.out]; exact hlv
  have QF : Hid (InPX (fun k => w.heap.size ≤ k ∧ k < w.heap.size + 1) schRes F w w2 bx B bad B2 bad2 VS _) := Lib.hid (by rw [hVS.out]; exact Q2.out)
  have TV : Hid (w2.there w.heap.size 0 VS.toArray.size) := Lib.hid (by show w2.there w.heap.size 0 VS.length; rw [hlv2]; exact M2.out.th)
  have SV : Hid ((Tryz.prog.info? 27).map (·.size) = some VS.toArray.size) := Lib.hid (by show _ = some VS.length; rw [hlv2]; exact Tryz.sz27)
  have OV := Lib.hid (all_oneCell_toArray (Lay.one schRes QF.out.lay))
  clear hlv hlv2
  go_wp2_with (first
    | (refine wpList_build_vs rfl 27 _ rfl Tryz.shape27 [[Value.int .i64 a1], [Value.int .i64 a2]] ?_ VS ?_ ?_)
    | (refine wpList_store_mid rfl 27 _ _ rfl w.heap.size 0 VS.toArray rfl rfl TV.out SV.out OV.out ?_))
  · exact ⟨by simp, rfl, by simp, ⟨by simp, rfl, by simp, trivial⟩⟩
  · rw [hVS.out]; simp
  · refine ret_row1 rfl rfl Tryz.underlying27 rfl SV.out (At.setCells TV.out) rfl ?_
    exact ⟨VS, _, B2, bad2, rfl, (QF.out.sets G.out ⟨Nat.le_refl _, by omega⟩).done G.out⟩

end Go.Proofs

set_option linter.unusedSimpArgs false
namespace Go.Proofs
open Go Go.RowKit Cod

theorem Tryz.shape29 : bshape Tryz.prog 29 = some ([(0, 1), (1, 2), (3, 1), (4, 1), (5, 1), (6, 1), (7, 1)], #[.int .i64 0, .int .i64 0, .int .i64 0, .bool false, .bool false, .int .i64 0, .int .i64 0, .int .i64 0]) := by kernel_rfl
theorem Tryz.sz29 : (Tryz.prog.info? 29).map (·.size) = some 8 := by kernel_rfl

set_option maxRecDepth 100000 in
set_option maxHeartbeats 1000000 in
theorem in_node : RecC Tryz.prog 58 schNode := by
  intro F w bx B bad h hold
  have G := Lib.hid (InX.of h hold 1)
  have M0 : Hid (Mk w.heap.size 8 F (w.alloc (.cells (zeroc schNode).toArray 29)) bx B bad) := Lib.hid (Mk.start h hold _ _ (by decide))
  have Q0 : Hid (InPX (fun k => w.heap.size ≤ k ∧ k < w.heap.size + 1) .unit F w (w.alloc (.cells (zeroc schNode).toArray 29)) bx B bad B bad [] ()) := Lib.hid (InPX.begin h hold _ _)
  have hlt := h.lt
  clear h hold
  go_enter Tryz.func58, Tryz.ntmps58
  go_wp2_with fail
  refine (in_c (M0.out.h).form (M0.out.h).nf).mono ?_
  rintro e w1 ⟨a1, B1, bad1, rfl, p1⟩
  have P1 := Lib.hid p1.p
  have M1 := Lib.hid (M0.out.next P1.out)
  have Q1 := Lib.hid (InPX.first Q0.out P1.out)
  clear p1 P1
  go_wp2_with fail
  refine (in_res F _ bx _ _ (M1.out.h) M1.out.old).mono ?_
  rintro e w2 ⟨vs2, x2, B2, bad2, rfl, p2⟩
  have P2 := Lib.hid p2
  have hl2 : vs2.length = 2 := Lay.len _ p2.lay
  have M2 := Lib.hid (M1.out.next P2.out)
  have Q2 := Lib.hid (InPX.both hlt Q1.out P2.out)
  clear p2 P2
  go_wp2_with fail
  refine (in_flag (M2.out.h)).mono ?_
  rintro e w3 ⟨a3, B3, bad3, rfl, p3⟩
  have P3 := Lib.hid p3
  have M3 := Lib.hid (M2.out.next P3.out)
  have Q3 := Lib.hid (InPX.both hlt Q2.out P3.out)
  clear p3 P3
  go_wp2_with fail
  refine (in_flag (M3.out.h)).mono ?_
  rintro e w4 ⟨a4, B4, bad4, rfl, p4⟩
  have P4 := Lib.hid p4
  have M4 := Lib.hid (M3.out.next P4.out)
  have Q4 := Lib.hid (InPX.both hlt Q3.out P4.out)
  clear p4 P4
  go_wp2_with fail
  refine (in_c (M4.out.h).form (M4.out.h).nf).mono ?_
  rintro e w5 ⟨a5, B5, bad5, rfl, p5⟩
  have P5 := Lib.hid p5.p
  have M5 := Lib.hid (M4.out.next P5.out)
  have R5 := Lib.hid (InPX.both (Nat.lt_of_lt_of_le hlt Q4.out.upd.size) (InPX.unitAt (Q4.out.hi) (Q4.out.form)) P5.out)
  clear p5 P5
  go_wp2_with fail
  refine (in_c (M5.out.h).form (M5.out.h).nf).mono ?_
  rintro e w6 ⟨a6, B6, bad6, rfl, p6⟩
  have P6 := Lib.hid p6.p
  have M6 := Lib.hid (M5.out.next P6.out)
  have R6 := Lib.hid (InPX.both (Nat.lt_of_lt_of_le hlt Q4.out.upd.size) R5.out P6.out)
  clear p6 P6
  go_wp2_with fail
  refine (in_c (M6.out.h).form (M6.out.h).nf).mono ?_
  rintro e w7 ⟨a7, B7, bad7, rfl, p7⟩
  have P7 := Lib.hid p7.p
  have M7 := Lib.hid (M6.out.next P7.out)
  have R7 := Lib.hid (InPX.both (Nat.lt_of_lt_of_le hlt Q4.out.upd.size) R6.out P7.out)
  have Q7 := Lib.hid (InPX.both' hlt Q4.out R7.out)
  clear p7 P7
  have hlv : ((((([Value.int .i64 a1] ++ vs2) ++ [Value.bool a3]) ++ [Value.bool a4]) ++ ((([] ++ [Value.int .i64 a5]) ++ [Value.int .i64 a6]) ++ [Value.int .i64 a7]))).length = 8 := Lay.len schNode Q7.out.lay
  obtain ⟨VS, hVS⟩ : ∃ VS : List Value, Hid (VS = (((([Value.int .i64 a1] ++ vs2) ++ [Value.bool a3]) ++ [Value.bool a4]) ++ ((([] ++ [Value.int .i64 a5]) ++ [Value.int .i64 a6]) ++ [Value.int .i64 a7]))) := ⟨_, Lib.hid rfl⟩
  have hlv2 : VS.length = 8 := by rw [hVS.out]; exact hlv
  have QF : Hid (InPX (fun k => w.heap.size ≤ k ∧ k < w.heap.size + 1) schNode F w w7 bx B bad B7 bad7 VS _) := Lib.hid (by rw [hVS.out]; exact Q7.out)
  have TV : Hid (w7.there w.heap.size 0 VS.toArray.size) := Lib.hid (by show w7.there w.heap.size 0 VS.length; rw [hlv2]; exact M7.out.th)
  have SV : Hid ((Tryz.prog.info? 29).map (·.size) = some VS.toArray.size) := Lib.hid (by show _ = some VS.length; rw [hlv2]; exact Tryz.sz29)
  have OV := Lib.hid (all_oneCell_toArray (Lay.one schNode QF.out.lay))
  clear hlv hlv2
  go_wp2_with (first
    | (refine wpList_build_vs rfl 29 _ rfl Tryz.shape29 [[Value.int .i64 a1], vs2, [Value.bool a3], [Value.bool a4], [Value.int .i64 a5], [Value.int .i64 a6], [Value.int .i64 a7]] ?_ VS ?_ ?_)
    | (refine wpList_store_mid rfl 29 _ _ rfl w.heap.size 0 VS.toArray rfl rfl TV.out SV.out OV.out ?_))
  · exact ⟨by simp [hl2], rfl, by simp [hl2], ⟨by simp [hl2], rfl, by simp [hl2], ⟨by simp [hl2], rfl, by simp [hl2], ⟨by simp [hl2], rfl, by simp [hl2], ⟨by simp [hl2], rfl, by simp [hl2], ⟨by simp [hl2], rfl, by simp [hl2], ⟨by simp [hl2], rfl, by simp [hl2], trivial⟩⟩⟩⟩⟩⟩⟩
  · rw [hVS.out]; simp [hl2]
  · refine ret_row1 rfl rfl Tryz.underlying29 rfl SV.out (At.setCells TV.out) rfl ?_
    exact ⟨VS, _, B7, bad7, rfl, (QF.out.sets G.out ⟨Nat.le_refl _, by omega⟩).done G.out⟩

end Go.Proofs

set_option linter.unusedSimpArgs false
namespace Go.Proofs
open Go Go.RowKit Cod

theorem Tryz.shape162 : bshape Tryz.prog 162 = some ([(0, 1), (1, 1), (2, 1), (3, 1), (4, 1), (5, 1), (6, 1), (7, 2), (9, 1), (10, 1)], #[.int .i64 0, .int .i64 0, .int .i64 0, .int .i64 0, .int .i64 0, .int .i64 0, .int .i64 0, .int .i64 0, .int .i64 0, .bool false, .int .i64 0]) := by kernel_rfl
theorem Tryz.sz162 : (Tryz.prog.info? 162).map (·.size) = some 11 := by kernel_rfl

set_option maxRecDepth 100000 in
set_option maxHeartbeats 1000000 in
theorem in_alloc : RecC Tryz.prog 110 schAlloc := by
  intro F w bx B bad h hold
  have G := Lib.hid (InX.of h hold 1)
  have M0 : Hid (Mk w.heap.size 11 F (w.alloc (.cells (zeroc schAlloc).toArray 162)) bx B bad) := Lib.hid (Mk.start h hold _ _ (by decide))
  have Q0 : Hid (InPX (fun k => w.heap.size ≤ k ∧ k < w.heap.size + 1) .unit F w (w.alloc (.cells (zeroc schAlloc).toArray 162)) bx B bad B bad [] ()) := Lib.hid (InPX.begin h hold _ _)
  have hlt := h.lt
  clear h hold
  go_enter Tryz.func110, Tryz.ntmps110
  go_wp2_with fail
  refine (in_c (M0.out.h).form (M0.out.h).nf).mono ?_
  rintro e w1 ⟨a1, B1, bad1, rfl, p1⟩
  have P1 := Lib.hid p1.p
  have M1 := Lib.hid (M0.out.next P1.out)
  have Q1 := Lib.hid (InPX.both hlt Q0.out P1.out)
  clear p1 P1
  go_wp2_with fail
  refine (in_c (M1.out.h).form (M1.out.h).nf).mono ?_
  rintro e w2 ⟨a2, B2, bad2, rfl, p2⟩
  have P2 := Lib.hid p2.p
  have M2 := Lib.hid (M1.out.next P2.out)
  have Q2 := Lib.hid (InPX.both hlt Q1.out P2.out)
  clear p2 P2
  go_wp2_with fail
  refine (in_c (M2.out.h).form (M2.out.h).nf).mono ?_
  rintro e w3 ⟨a3, B3, bad3, rfl, p3⟩
  have P3 := Lib.hid p3.p
  have M3 := Lib.hid (M2.out.next P3.out)
  have Q3 := Lib.hid (InPX.both hlt Q2.out P3.out)
  clear p3 P3
  go_wp2_with fail
  refine (in_c (M3.out.h).form (M3.out.h).nf).mono ?_
  rintro e w4 ⟨a4, B4, bad4, rfl, p4⟩
  have P4 := Lib.hid p4.p
  have M4 := Lib.hid (M3.out.next P4.out)
  have Q4 := Lib.hid (InPX.both hlt Q3.out P4.out)
  clear p4 P4
  go_wp2_with fail
  refine (in_c (M4.out.h).form (M4.out.h).nf).mono ?_
  rintro e w5 ⟨a5, B5, bad5, rfl, p5⟩
  have P5 := Lib.hid p5.p
  have M5 := Lib.hid (M4.out.next P5.out)
  have Q5 := Lib.hid (InPX.both hlt Q4.out P5.out)
  clear p5 P5
  go_wp2_with fail
  refine (in_c (M5.out.h).form (M5.out.h).nf).mono ?_
  rintro e w6 ⟨a6, B6, bad6, rfl, p6⟩
  have P6 := Lib.hid p6.p
  have M6 := Lib.hid (M5.out.next P6.out)
  have Q6 := Lib.hid (InPX.both hlt Q5.out P6.out)
  clear p6 P6
  go_wp2_with fail
  refine (in_c (M6.out.h).form (M6.out.h).nf).mono ?_
  rintro e w7 ⟨a7, B7, bad7, rfl, p7⟩
  have P7 := Lib.hid p7.p
  have M7 := Lib.hid (M6.out.next P7.out)
  have Q7 := Lib.hid (InPX.both hlt Q6.out P7.out)
  clear p7 P7
  go_wp2_with fail
  refine (in_res F _ bx _ _ (M7.out.h) M7.out.old).mono ?_
  rintro e w8 ⟨vs8, x8, B8, bad8, rfl, p8⟩
  have P8 := Lib.hid p8
  have hl8 : vs8.length = 2 := Lay.len _ p8.lay
  have M8 := Lib.hid (M7.out.next P8.out)
  have Q8 := Lib.hid (InPX.both hlt Q7.out P8.out)
  clear p8 P8
  go_wp2_with fail
  refine (in_flag (M8.out.h)).mono ?_
  rintro e w9 ⟨a9, B9, bad9, rfl, p9⟩
  have P9 := Lib.hid p9
  have M9 := Lib.hid (M8.out.next P9.out)
  have Q9 := Lib.hid (InPX.both hlt Q8.out P9.out)
  clear p9 P9
  go_wp2_with fail
  refine (in_c (M9.out.h).form (M9.out.h).nf).mono ?_
  rintro e w10 ⟨a10, B10, bad10, rfl, p10⟩
  have P10 := Lib.hid p10.p
  have M10 := Lib.hid (M9.out.next P10.out)
  have Q10 := Lib.hid (InPX.both hlt Q9.out P10.out)
  clear p10 P10
  have hlv : ((((((((((([] ++ [Value.int .i64 a1]) ++ [Value.int .i64 a2]) ++ [Value.int .i64 a3]) ++ [Value.int .i64 a4]) ++ [Value.int .i64 a5]) ++ [Value.int .i64 a6]) ++ [Value.int .i64 a7]) ++ vs8) ++ [Value.bool a9]) ++ [Value.int .i64 a10])).length = 11 := Lay.len schAlloc Q10.out.lay
  obtain ⟨VS, hVS⟩ : ∃ VS : List Value, Hid (VS = (((((((((([] ++ [Value.int .i64 a1]) ++ [Value.int .i64 a2]) ++ [Value.int .i64 a3]) ++ [Value.int .i64 a4]) ++ [Value.int .i64 a5]) ++ [Value.int .i64 a6]) ++ [Value.int .i64 a7]) ++ vs8) ++ [Value.bool a9]) ++ [Value.int .i64 a10])) := ⟨_, Lib.hid rfl⟩
  have hlv2 : VS.length = 11 := by rw [hVS.out]; exact hlv
  have QF : Hid (InPX (fun k => w.heap.size ≤ k ∧ k < w.heap.size + 1) schAlloc F w w10 bx B bad B10 bad10 VS _) := Lib.hid (by rw [hVS.out]; exact Q10.out)
  have TV : Hid (w10.there w.heap.size 0 VS.toArray.size) := Lib.hid (by show w10.there w.heap.size 0 VS.length; rw [hlv2]; exact M10.out.th)
  have SV : Hid ((Tryz.prog.info? 162).map (·.size) = some VS.toArray.size) := Lib.hid (by show _ = some VS.length; rw [hlv2]; exact Tryz.sz162)
  have OV := Lib.hid (all_oneCell_toArray (Lay.one schAlloc QF.out.lay))
  clear hlv hlv2
  go_wp2_with (first
    | (refine wpList_build_vs rfl 162 _ rfl Tryz.shape162 [[Value.int .i64 a1], [Value.int .i64 a2], [Value.int .i64 a3], [Value.int .i64 a4], [Value.int .i64 a5], [Value.int .i64 a6], [Value.int .i64 a7], vs8, [Value.bool a9], [Value.int .i64 a10]] ?_ VS ?_ ?_)
    | (refine wpList_store_mid rfl 162 _ _ rfl w.heap.size 0 VS.toArray rfl rfl TV.out SV.out OV.out ?_))
  · exact ⟨by simp [hl8], rfl, by simp [hl8], ⟨by simp [hl8], rfl, by simp [hl8], ⟨by simp [hl8], rfl, by simp [hl8], ⟨by simp [hl8], rfl, by simp [hl8], ⟨by simp [hl8], rfl, by simp [hl8], ⟨by simp [hl8], rfl, by simp [hl8], ⟨by simp [hl8], rfl, by simp [hl8], ⟨by simp [hl8], rfl, by simp [hl8], ⟨by simp [hl8], rfl, by simp [hl8], ⟨by simp [hl8], rfl, by simp [hl8], trivial⟩⟩⟩⟩⟩⟩⟩⟩⟩⟩
  · rw [hVS.out]; simp [hl8]
  · refine ret_row1 rfl rfl Tryz.underlying162 rfl SV.out (At.setCells TV.out) rfl ?_
    exact ⟨VS, _, B10, bad10, rfl, (QF.out.sets G.out ⟨Nat.le_refl _, by omega⟩).done G.out⟩

end Go.Proofs

set_option linter.unusedSimpArgs false
namespace Go.Proofs
open Go Go.RowKit Cod

set_option maxRecDepth 100000 in
set_option maxHeartbeats 1000000 in
theorem in_allocs {F : Nat → Prop} {w : World} {bx : Nat} {B : List UInt8} {bad : Bool} (h : InH F w bx B bad) (hold : ∀ k, F k → k < w.heap.size) :
    Calls Tryz.prog 88 #[.pointer (some ⟨bx, 0, none⟩)] w (OnePost (.list schAlloc) F w bx B bad) := by
  have H := Lib.hid h
  have HD := Lib.hid hold
  obtain ⟨i0, hi, hz0, hz1, hz2⟩ := info_parts Tryz.in162
  have HI := Lib.hid hi
  clear h hi hold
  go_enter Tryz.func88, Tryz.ntmps88
  go_wp2_with fail
  refine (in_count H.out).mono ?_
  rintro e w1 ⟨n, B1, bad1, rfl, hm⟩
  have hn64 := hm.le
  have HS : Hid (LsI (fun _ => False) schAlloc 162 F w w1 bx B bad B1 bad1 n 0 (.slice none 0 0) [] []) := Lib.hid (.start (fun _ h => h.elim) H.out.lt (fun h => h) H.out.nf (fun _ _ h => h) HD.out hm)
  clear hm
  go_wp2_with fail
  go_loopw [4, 5] (fun u i wr => ∃ (j : Nat) (B' : List UInt8) (bad' : Bool) (cs : List Value) (xs : List (Ty schAlloc)), j ≤ n ∧ i = .int .i64 j ∧ LsI (fun _ => False) schAlloc 162 F w wr bx B bad B' bad' n j u cs xs) (fun _ i _ => n - (intOf i).toNat)
  case atStart => exact ⟨0, B1, bad1, _, _, by omega, rfl, HS.out⟩
  case round =>
    obtain ⟨j, B2, bad2, cs, xs, hj, rfl, hS⟩ := hrel
    have HS2 := Lib.hid hS
    have hxl : xs.length = j := hS.len
    have hsz := hS.upd.size
    have hold2 : ∀ k, F k → k < wr.heap.size := fun k hk => Nat.lt_of_lt_of_le (HD.out k hk) hsz
    have HD2 := Lib.hid hold2
    clear hS hold2
    by_cases hjn : j < n
    · go_wp2_with fail
      refine (in_alloc F _ bx _ _ HS2.out.h HD2.out).mono ?_
      rintro e w2 ⟨vs, y, B3, bad3, rfl, hk⟩
      have HK := Lib.hid hk
      have HO := Lib.hid (HS2.out.ownAt hk)
      have hs2 := hk.upd.size
      have hlen : vs.length = 11 := Lay.len _ hk.lay
      have hone := Lib.hid (Lay.one _ hk.lay)
      clear hk
      go_wp2_with (first
        | (refine wpList_build_one rfl 32 162 (.tmp 15) rfl rfl (n := 11) (by omega) (by omega) hlen Tryz.underlying32 (by rw [HI.out]; simp [hz0, hz1]) ?_)
        | (refine wpList_append_own_at _ rfl (.tmp 13) (.tmp 16) 32 rfl w.heap.size 162 i0 _ 11 88 Tryz.underlying32 HI.out hz0 hz1 hz2 rfl (by decide) _ xs.length cs rfl (HO.out.alloc _) ⟨w2.heap.size, 0, none⟩ 1 1 vs rfl (by rw [hlen]) ?_ hone.out ?_ ?_ ?_ ?_))
      · intro i u hu
        rw [addr_add]
        exact At.new w2 vs.toArray 162 i u (by simpa using hu)
      · unfold maxLen; omega
      · omega
      · simp; omega
      intro v' w3 hown' hgrow _hx hat
      obtain ⟨A', c', rfl⟩ := own_form hown'
      have HO2 := Lib.hid hown'
      have HG := Lib.hid hgrow
      have HT := Lib.hid hat
      clear hown' hgrow hat
      go_wp2_with fail
      go_roundw
      case rel => exact ⟨j + 1, B3, bad3, cs ++ vs, xs ++ [y], by omega, by go_num, LsI.step HS2.out hjn HK.out (by rw [hxl]; exact HO2.out) HG.out HT.out⟩
      case measure => simp [intOf]; omega
    · go_wp2_with fail
      go_ret
      exact ⟨_, xs, B2, bad2, rfl, (HS2.out.done (by omega)).done ⟨H.out.nf, fun h => h, H.out.lt, HD.out, fun _ h => h.elim⟩⟩
end Go.Proofs

set_option linter.unusedSimpArgs false
namespace Go.Proofs
open Go Go.RowKit Cod

theorem Tryz.shape53 : bshape Tryz.prog 53 = some ([(0, 1), (1, 1), (2, 1)], #[.int .i64 0, .int .i64 0, .slice none 0 0]) := by kernel_rfl
theorem Tryz.sz53 : (Tryz.prog.info? 53).map (·.size) = some 3 := by kernel_rfl

set_option maxRecDepth 100000 in
set_option maxHeartbeats 1000000 in
theorem in_result : RecC Tryz.prog 74 schResult := by
  intro F w bx B bad h hold
  have G := Lib.hid (InX.of h hold 1)
  have M0 : Hid (Mk w.heap.size 3 F (w.alloc (.cells (zeroc schResult).toArray 53)) bx B bad) := Lib.hid (Mk.start h hold _ _ (by decide))
  have Q0 : Hid (InPX (fun k => w.heap.size ≤ k ∧ k < w.heap.size + 1) .unit F w (w.alloc (.cells (zeroc schResult).toArray 53)) bx B bad B bad [] ()) := Lib.hid (InPX.begin h hold _ _)
  have hlt := h.lt
  clear h hold
  go_enter Tryz.func74, Tryz.ntmps74
  go_wp2_with fail
  refine (in_c (M0.out.h).form (M0.out.h).nf).mono ?_
  rintro e w1 ⟨a1, B1, bad1, rfl, p1⟩
  have P1 := Lib.hid p1.p
  have M1 := Lib.hid (M0.out.next P1.out)
  have Q1 := Lib.hid (InPX.first Q0.out P1.out)
  clear p1 P1
  go_wp2_with fail
  refine (in_c (M1.out.h).form (M1.out.h).nf).mono ?_
  rintro e w2 ⟨a2, B2, bad2, rfl, p2⟩
  have P2 := Lib.hid p2.p
  have M2 := Lib.hid (M1.out.next P2.out)
  have Q2 := Lib.hid (InPX.both hlt Q1.out P2.out)
  clear p2 P2
  go_wp2_with fail
  refine (in_allocs (M2.out.h) M2.out.old).mono ?_
  rintro e w3 ⟨a3, x3, B3, bad3, rfl, p3⟩
  obtain ⟨A3, n3, c3, rfl⟩ := lay_slice p3.lay
  have P3 := Lib.hid p3
  have M3 := Lib.hid (M2.out.next P3.out)
  have Q3 := Lib.hid (InPX.both hlt Q2.out P3.out)
  clear p3 P3
  have hlv : ((([Value.int .i64 a1] ++ [Value.int .i64 a2]) ++ [Value.slice A3 n3 c3])).length = 3 := Lay.len schResult Q3.out.lay
  obtain ⟨VS, hVS⟩ : ∃ VS : List Value, Hid (VS = (([Value.int .i64 a1] ++ [Value.int .i64 a2]) ++ [Value.slice A3 n3 c3])) := ⟨_, Lib.hid rfl⟩
  have hlv2 : VS.length = 3 := by rw [hVS.out]; exact hlv
  have QF : Hid (InPX (fun k => w.heap.size ≤ k ∧ k < w.heap.size + 1) schResult F w w3 bx B bad B3 bad3 VS _) := Lib.hid (by rw [hVS.out]; exact Q3.out)
  have TV : Hid (w3.there w.heap.size 0 VS.toArray.size) := Lib.hid (by show w3.there w.heap.size 0 VS.length; rw [hlv2]; exact M3.out.th)
  have SV : Hid ((Tryz.prog.info? 53).map (·.size) = some VS.toArray.size) := Lib.hid (by show _ = some VS.length; rw [hlv2]; exact Tryz.sz53)
  have OV := Lib.hid (all_oneCell_toArray (Lay.one schResult QF.out.lay))
  clear hlv hlv2
  go_wp2_with (first
    | (refine wpList_build_vs rfl 53 _ rfl Tryz.shape53 [[Value.int .i64 a1], [Value.int .i64 a2], [Value.slice A3 n3 c3]] ?_ VS ?_ ?_)
    | (refine wpList_store_mid rfl 53 _ _ rfl w.heap.size 0 VS.toArray rfl rfl TV.out SV.out OV.out ?_))
  · exact ⟨by simp, rfl, by simp, ⟨by simp, rfl, by simp, ⟨by simp, rfl, by simp, trivial⟩⟩⟩
  · rw [hVS.out]; simp
  · refine ret_row1 rfl rfl Tryz.underlying53 rfl SV.out (At.setCells TV.out) rfl ?_
    exact ⟨VS, _, B3, bad3, rfl, (QF.out.sets G.out ⟨Nat.le_refl _, by omega⟩).done G.out⟩


theorem Tryz.shape36 : bshape Tryz.prog 36 = some ([(0, 1), (1, 1)], #[.slice none 0 0, .slice none 0 0]) := by kernel_rfl
theorem Tryz.sz36 : (Tryz.prog.info? 36).map (·.size) = some 2 := by kernel_rfl

set_option maxRecDepth 100000 in
set_option maxHeartbeats 1000000 in
theorem in_conf : RecC Tryz.prog 61 schConf := by
  intro F w bx B bad h hold
  have G := Lib.hid (InX.of h hold 1)
  have M0 : Hid (Mk w.heap.size 2 F (w.alloc (.cells (zeroc schConf).toArray 36)) bx B bad) := Lib.hid (Mk.start h hold _ _ (by decide))
  have Q0 : Hid (InPX (fun k => w.heap.size ≤ k ∧ k < w.heap.size + 1) .unit F w (w.alloc (.cells (zeroc schConf).toArray 36)) bx B bad B bad [] ()) := Lib.hid (InPX.begin h hold _ _)
  have hlt := h.lt
  clear h hold
  go_enter Tryz.func61, Tryz.ntmps61
  go_wp2_with fail
  refine (in_nums (M0.out.h) M0.out.old).mono ?_
  rintro e w1 ⟨a1, x1, B1, bad1, rfl, p1⟩
  obtain ⟨A1, n1, c1, rfl⟩ := lay_slice p1.lay
  have P1 := Lib.hid p1
  have M1 := Lib.hid (M0.out.next P1.out)
  have Q1 := Lib.hid (InPX.first Q0.out P1.out)
  clear p1 P1
  go_wp2_with fail
  refine (in_nums (M1.out.h) M1.out.old).mono ?_
  rintro e w2 ⟨a2, x2, B2, bad2, rfl, p2⟩
  obtain ⟨A2, n2, c2, rfl⟩ := lay_slice p2.lay
  have P2 := Lib.hid p2
  have M2 := Lib.hid (M1.out.next P2.out)
  have Q2 := Lib.hid (InPX.both hlt Q1.out P2.out)
  clear p2 P2
  have hlv : (([Value.slice A1 n1 c1] ++ [Value.slice A2 n2 c2])).length = 2 := Lay.len schConf Q2.out.lay
  obtain ⟨VS, hVS⟩ : ∃ VS : List Value, Hid (VS = ([Value.slice A1 n1 c1] ++ [Value.slice A2 n2 c2])) := ⟨_, Lib.hid rfl⟩
  have hlv2 : VS.length = 2 := by rw [hVS.out]; exact hlv
  have QF : Hid (InPX (fun k => w.heap.size ≤ k ∧ k < w.heap.size + 1) schConf F w w2 bx B bad B2 bad2 VS _) := Lib.hid (by rw [hVS.out]; exact Q2.out)
  have TV : Hid (w2.there w.heap.size 0 VS.toArray.size) := Lib.hid (by show w2.there w.heap.size 0 VS.length; rw [hlv2]; exact M2.out.th)
  have SV : Hid ((Tryz.prog.info? 36).map (·.size) = some VS.toArray.size) := Lib.hid (by show _ = some VS.length; rw [hlv2]; exact Tryz.sz36)
  have OV := Lib.hid (all_oneCell_toArray (Lay.one schConf QF.out.lay))
  clear hlv hlv2
  go_wp2_with (first
    | (refine wpList_build_vs rfl 36 _ rfl Tryz.shape36 [[Value.slice A1 n1 c1], [Value.slice A2 n2 c2]] ?_ VS ?_ ?_)
    | (refine wpList_store_mid rfl 36 _ _ rfl w.heap.size 0 VS.toArray rfl rfl TV.out SV.out OV.out ?_))
  · exact ⟨by simp, rfl, by simp, ⟨by simp, rfl, by simp, trivial⟩⟩
  · rw [hVS.out]; simp
  · refine ret_row1 rfl rfl Tryz.underlying36 rfl SV.out (At.setCells TV.out) rfl ?_
    exact ⟨VS, _, B2, bad2, rfl, (QF.out.sets G.out ⟨Nat.le_refl _, by omega⟩).done G.out⟩

end Go.Proofs
