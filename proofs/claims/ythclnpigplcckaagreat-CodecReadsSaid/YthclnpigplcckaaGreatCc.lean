/- Sum, frame, clone and the known frame. -/
import Derived.Test.YthclnpigplcckaaGreatProg
import Derived.Test.YthclnpigplcckaaGreatCb
import Derived.Test.YthclnpigplcckaaGreatLibs
import Derived.Test.YthclnpigplcckaaGreatPa
import Derived.Test.YthclnpigplcckaaGreatGa
import Derived.WalkSpells
import Derived.WalkLawsBesides
import Derived.Deep.LoopGhost
import Derived.Lib.Hide
import Derived.Deep.RegionWith
import Derived.Maps.AppendAt
import Derived.KernelRfl
import Derived.Lib.SlBytesConst
import Derived.Laws.IdiomStrings
set_option linter.unusedSimpArgs false
set_option linter.unusedVariables false

set_option linter.unusedSimpArgs false
namespace Go.Proofs
open Go Go.RowKit Cod

set_option maxRecDepth 100000 in
set_option maxHeartbeats 1000000 in
theorem known_c {w : World} : Calls Tryz.prog 8 #[] w (Says True w) := by
  have h14 := Lib.run_convert_bytes_const (P := Tryz.prog) w 22 5 #[.int .u8 97] 1 1 Tryz.underlying22 Tryz.underlying5
  have B0 : Hid (Bts (fun _ => True) (w.alloc (.cells #[.int .u8 97] 5 (1, 2))) (some ⟨w.heap.size, 0, none⟩) 1 [97]) := Lib.hid ⟨rfl, by omega, fun _ => ⟨_, _, rfl, trivial, At.one (by
    have : (w.alloc (.cells #[.int .u8 97] 5 (1, 2))).heap[w.heap.size]? = some (.cells #[.int .u8 97] 5 (1, 2)) := by
      show (w.heap.push (.cells #[.int .u8 97] 5 (1, 2)))[w.heap.size]? = _
      simp
    unfold World.cell?
    simp only [this]
    rfl)⟩⟩
  have U0 : Hid (Upd (fun _ _ => False) w (w.alloc (.cells #[.int .u8 97] 5 (1, 2)))) := Lib.hid ((Upd.refl _ w).alloc _)
  go_enter Tryz.func8, Tryz.ntmps8
  go_wp2_with fail
  refine (frame_c (c := 1) B0.out).mono ?_
  rintro e w1 ⟨A1, c1, rfl, hn1, hu1, hb1⟩
  have U1 : Hid (Upd (fun _ _ => False) w w1) := Lib.hid (U0.out.trans hu1)
  have F1 : Hid (Bts (fun _ => True) w1 A1 16 fr16) := Lib.hid (hb1.keep (fun _ _ => trivial) (fun _ _ _ => rfl))
  clear hu1 hb1
  go_wp2_with fail
  refine (unframe_c F1.out hn1).mono ?_
  rintro e w2 ⟨A2, c2, rfl, hn2, hu2, hb2⟩
  have U2 : Hid (Upd (fun _ _ => False) w w2) := Lib.hid (U1.out.trans hu2)
  have F2 : Hid (Bts (fun _ => True) w2 A1 16 fr16) := Lib.hid (F1.out.keep (fun _ h => h) (fun q _ hq => hu2.block q hq (fun _ h => h)))
  have D2 : Hid (Bts (fun _ => True) w2 A2 1 [97]) := Lib.hid (hb2.keep (fun _ _ => trivial) (fun _ _ _ => rfl))
  clear hu2 hb2
  go_wp2_with fail
  refine (putX6 (vs := zeroc schCmd) (F := fun _ => False) (x := zerov schCmd) (Lay.zero _ _ _) (fun _ h => h.elim) (okay_zero _)).mono ?_
  rintro e w3 ⟨A3, n3, c3, rfl, hn3, hu3, hb3⟩
  have e3 : enc schCmd (zerov schCmd) = List.replicate 27 0 := enc_zero schCmd
  rw [e3] at hb3
  have hl3 : n3 = 27 := by have := hb3.1; simp at this; omega
  subst hl3
  have U3 : Hid (Upd (fun _ _ => False) w w3) := Lib.hid (U2.out.trans hu3)
  have F3 : Hid (Bts (fun _ => True) w3 A1 16 fr16) := Lib.hid (F2.out.keep (fun _ h => h) (fun q _ hq => hu3.block q hq (fun _ h => h)))
  have D3 : Hid (Bts (fun _ => True) w3 A2 1 [97]) := Lib.hid (D2.out.keep (fun _ h => h) (fun q _ hq => hu3.block q hq (fun _ h => h)))
  have P3 : Hid (Bts (fun k => k < w3.heap.size) w3 A3 27 (List.replicate 27 0)) := Lib.hid (by
    refine ⟨hb3.1, hb3.2.1, fun h => ?_⟩
    obtain ⟨b, o, e, _, hA⟩ := hb3.2.2 h
    exact ⟨b, o, e, hA.lt (by simp), hA⟩)
  clear hu3 hb3 e3
  go_wp2_with fail
  refine (getX4 P3.out hn3 (fun _ h => h)).mono ?_
  rintro e w4 ⟨vs, x, ok, rfl, hu4, hL4, hW4⟩
  have hok : ok = true := by
    rcases hW4 with ⟨_, h⟩ | ⟨h, _⟩
    · exact h
    · have := parse_zero schCmd []
      rw [List.append_nil] at this
      exact absurd this (h _)
  subst hok
  have hl := Lay.len _ hL4
  have hlv : vs.length = 27 := hl
  have SV : Hid ((Tryz.prog.info? 38).map (·.size) = some vs.toArray.size) := Lib.hid (by show _ = some vs.length; rw [hlv]; exact Tryz.sz38)
  have CV : Hid (27 = vs.toArray.size) := Lib.hid hlv.symm
  have OV := Lib.hid (all_oneCell_toArray (Lay.one _ hL4))
  have U4 : Hid (Upd (fun _ _ => False) w (w4.alloc (.cells vs.toArray 38))) := Lib.hid ((U3.out.trans hu4).alloc _)
  have u4 : Upd (fun _ _ => False) w3 (w4.alloc (.cells vs.toArray 38)) := hu4.alloc _
  have F4 : Hid (Bts (fun _ => True) (w4.alloc (.cells vs.toArray 38)) A1 16 fr16) := Lib.hid (F3.out.keep (fun _ h => h) (fun q _ hq => u4.block q hq (fun _ h => h)))
  have D4 : Hid (Bts (fun _ => True) (w4.alloc (.cells vs.toArray 38)) A2 1 [97]) := Lib.hid (D3.out.keep (fun _ h => h) (fun q _ hq => u4.block q hq (fun _ h => h)))
  clear hu4 hL4 hW4 hl hlv u4
  obtain ⟨b1, o1, rfl, hl1, hc3⟩ := F4.out.byte (j := 3) (by omega)
  obtain ⟨b1', o1', e1, hl10, hc10⟩ := F4.out.byte (j := 10) (by omega)
  injection e1 with e1
  injection e1 with e1 e2
  subst e1
  subst e2
  have k3 : (w4.alloc (.cells vs.toArray 38)).cell? ⟨b1, o1 + 3, none⟩ = some (.int .u8 1) := hc3
  have k10 : (w4.alloc (.cells vs.toArray 38)).cell? ⟨b1, o1 + 10, none⟩ = some (.int .u8 2) := hc10
  obtain ⟨b2, o2, rfl, hl2, hd0⟩ := D4.out.byte (j := 0) (by omega)
  have hs : (convert 22 9 (.slice (some ⟨b2, o2, none⟩) 1 c2)).run Tryz.prog (w4.alloc (.cells vs.toArray 38)) = .ok (.string ⟨#[97]⟩) (w4.alloc (.cells vs.toArray 38)) := run_convert_bytes_back (P := Tryz.prog) (w4.alloc (.cells vs.toArray 38)) 22 9 5 ⟨b2, o2, none⟩ c2 [97] Tryz.underlying22 Tryz.underlying5 Tryz.underlying9 (by
    intro j hj
    obtain rfl : j = 0 := by simp at hj; omega
    rw [addr_add]
    exact hd0)
  clear hc3 hc10 hd0 hl1 hl10 hl2
  go_wp2_with (refine wpList_store_new rfl 38 _ _ rfl rfl rfl SV.out CV.out OV.out ?_)
  go_ret
  exact ⟨true, rfl, U4.out, by simp⟩
end Go.Proofs
