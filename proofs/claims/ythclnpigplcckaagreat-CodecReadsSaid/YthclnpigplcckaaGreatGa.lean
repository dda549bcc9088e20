/- Get functions of the kinds. -/
import Derived.Test.YthclnpigplcckaaGreatProg
import Derived.Test.YthclnpigplcckaaGreatLib
import Derived.Test.YthclnpigplcckaaGreatLibs
import Derived.Test.YthclnpigplcckaaGreatRl
import Derived.Test.YthclnpigplcckaaGreatRj
import Derived.WalkSpells
import Derived.WalkLawsBesides
import Derived.Deep.LoopGhost
import Derived.Lib.Hide
import Derived.Deep.RegionWith
import Derived.Maps.AppendAt
import Derived.KernelRfl
set_option linter.unusedSimpArgs false
set_option linter.unusedVariables false

set_option linter.unusedSimpArgs false
namespace Go.Proofs
open Go Go.RowKit Cod

theorem Tryz.sz38 : (Tryz.prog.info? 38).map (·.size) = some 27 := by kernel_rfl

set_option maxRecDepth 100000 in
set_option maxHeartbeats 1000000 in
theorem get21 {F : Nat → Prop} {w : World} {A : Option Addr} {n c : Nat} {B : List UInt8} (hb : Bts F w A n B) (hn : n ≤ c) (hF : ∀ k, F k → k < w.heap.size) :
    Calls Tryz.prog 21 #[.slice A n c, .func (.func 22) #[] #[]] w (GetPost schCmd w B) := by
  have HB := Lib.hid hb
  have HF := Lib.hid hF
  clear hb hF
  go_enter Tryz.func21, Tryz.ntmps21
  go_wp2_with fail
  refine (cmd_rd F _ (w.heap.size + 1 + 1 + 1) (w.heap.size + 1) 0 B false (RdH.start HB.out hn HF.out _ _ _ _ _ _ _ rfl)).mono ?_
  rintro e w5 ⟨rfl, B5, bad5, hp⟩
  obtain ⟨A5, n5, c5, d0, d1, d2, g0, g1, g2, hn5, hbt⟩ := hp.form.cells
  have hB5 := hbt.1
  obtain ⟨t0, t2, vs, hA, hl, h1, k1, k2⟩ := hp.get (by decide) rfl
  have T0 := Lib.hid t0
  have T2 := Lib.hid t2
  have HA := Lib.hid hA
  have K1 := Lib.hid k1
  have K2 := Lib.hid k2
  have hlv : vs.length = 27 := hl
  have TV : Hid (w5.there w.heap.size 0 vs.toArray.size) := Lib.hid (by show w5.there w.heap.size 0 vs.length; rw [hl]; exact t0)
  have SV : Hid ((Tryz.prog.info? 38).map (·.size) = some vs.toArray.size) := Lib.hid (by show _ = some vs.length; rw [hlv]; exact Tryz.sz38)
  have OV := Lib.hid (all_oneCell_toArray h1)
  have OZ : Hid ((zeroc schCmd).toArray.all (fun x => x.oneCell') = true) := Lib.hid (all_oneCell_toArray (Lay.one _ (Lay.zero schCmd F w)))
  clear hp hbt t0 t2 hA h1 k1 k2 hl d1 g0 g1 g2
  cases bad5 with
  | true =>
    go_wp2_with (first
      | (refine wpList_load_mid rfl 38 (.tmp 7) rfl (w.heap.size + 1 + 1) 0 rfl (zeroc schCmd) _ T2.out Tryz.underlying38 rfl Tryz.sz38 ?_)
      | (refine wpList_store_mid rfl 38 (.tmp 4) (.tmp 27) rfl w.heap.size 0 (zeroc schCmd).toArray rfl rfl T0.out Tryz.sz38 OZ.out ?_))
    refine ret_row (vs := zeroc schCmd) rfl rfl Tryz.underlying38 rfl Tryz.sz38 (At.setCells T0.out) rfl ?_
    exact K1.out (.inl trivial)
  | false =>
    by_cases hn0 : 0 < n5
    · go_wp2_with (first
        | (refine wpList_load_mid rfl 38 (.tmp 7) rfl (w.heap.size + 1 + 1) 0 rfl (zeroc schCmd) _ T2.out Tryz.underlying38 rfl Tryz.sz38 ?_)
        | (refine wpList_store_mid rfl 38 (.tmp 4) (.tmp 27) rfl w.heap.size 0 (zeroc schCmd).toArray rfl rfl T0.out Tryz.sz38 OZ.out ?_))
      refine ret_row (vs := zeroc schCmd) rfl rfl Tryz.underlying38 rfl Tryz.sz38 (At.setCells T0.out) rfl ?_
      have hne : B5 ≠ [] := by
        intro e
        rw [e] at hB5
        simp at hB5
        omega
      exact K1.out (by first | exact .inr hne | exact hne)
    · go_wp2_with (first
        | (refine wpList_load_mid rfl 38 (.tmp 6) rfl (w.heap.size + 1) 0 rfl vs _ HA.out Tryz.underlying38 rfl (by rw [hlv]; exact Tryz.sz38) ?_)
        | (refine wpList_store_mid rfl 38 (.tmp 4) (.tmp 28) rfl w.heap.size 0 vs.toArray rfl rfl TV.out SV.out OV.out ?_))
      refine ret_row rfl rfl Tryz.underlying38 rfl SV.out (At.setCells TV.out) rfl ?_
      exact K2.out trivial (List.eq_nil_of_length_eq_zero (by omega))

set_option maxRecDepth 100000 in
set_option maxHeartbeats 1000000 in
theorem getX4 {F : Nat → Prop} {w : World} {A : Option Addr} {n c : Nat} {B : List UInt8} (hb : Bts F w A n B) (hn : n ≤ c) (hF : ∀ k, F k → k < w.heap.size) :
    Calls Tryz.prog 4 #[.slice A n c] w (GetPost schCmd w B) := by
  have HB := Lib.hid hb
  have HF := Lib.hid hF
  clear hb hF
  go_enter Tryz.func4, Tryz.ntmps4
  go_wp2_with fail
  refine (get21 (F := F) (HB.out.keep (fun _ h => h) (fun q _ hlt => Below.heap_alloc _ _ _ hlt)) hn (fun q hq => by have := HF.out q hq; simp; omega)).mono ?_
  rintro e w1 ⟨vs, x, ok, rfl, hu, hL, hW⟩
  have t0 : w1.there w.heap.size 0 27 := hu.there (there_new w _ _ (by decide)) (by simp) (fun _ h => h)
  have hl := Lay.len _ hL
  have hlv : vs.length = 27 := hl
  have TV : Hid (w1.there w.heap.size 0 vs.toArray.size) := Lib.hid (by show w1.there w.heap.size 0 vs.length; rw [hlv]; exact t0)
  have SV : Hid ((Tryz.prog.info? 38).map (·.size) = some vs.toArray.size) := Lib.hid (by show _ = some vs.length; rw [hlv]; exact Tryz.sz38)
  have OV := Lib.hid (all_oneCell_toArray (Lay.one _ hL))
  have HU := Lib.hid hu
  have HL := Lib.hid hL
  have HW := Lib.hid hW
  clear hu hL hW t0 hl
  go_wp2_with (refine wpList_store_mid rfl 38 (.tmp 2) (.tmp 6) rfl w.heap.size 0 vs.toArray rfl rfl TV.out SV.out OV.out ?_)
  refine ret_row rfl rfl Tryz.underlying38 rfl SV.out (At.setCells TV.out) rfl ?_
  exact GetPost.up HU.out HL.out HW.out
end Go.Proofs

set_option linter.unusedSimpArgs false
namespace Go.Proofs
open Go Go.RowKit Cod

theorem Tryz.sz47 : (Tryz.prog.info? 47).map (·.size) = some 29 := by kernel_rfl

set_option maxRecDepth 100000 in
set_option maxHeartbeats 1000000 in
theorem get29 {F : Nat → Prop} {w : World} {A : Option Addr} {n c : Nat} {B : List UInt8} (hb : Bts F w A n B) (hn : n ≤ c) (hF : ∀ k, F k → k < w.heap.size) :
    Calls Tryz.prog 29 #[.slice A n c, .func (.func 30) #[] #[]] w (GetPost schEntry w B) := by
  have HB := Lib.hid hb
  have HF := Lib.hid hF
  clear hb hF
  go_enter Tryz.func29, Tryz.ntmps29
  go_wp2_with fail
  refine (entry_rd F _ (w.heap.size + 1 + 1 + 1) (w.heap.size + 1) 0 B false (RdH.start HB.out hn HF.out _ _ _ _ _ _ _ rfl)).mono ?_
  rintro e w5 ⟨rfl, B5, bad5, hp⟩
  obtain ⟨A5, n5, c5, d0, d1, d2, g0, g1, g2, hn5, hbt⟩ := hp.form.cells
  have hB5 := hbt.1
  obtain ⟨t0, t2, vs, hA, hl, h1, k1, k2⟩ := hp.get (by decide) rfl
  have T0 := Lib.hid t0
  have T2 := Lib.hid t2
  have HA := Lib.hid hA
  have K1 := Lib.hid k1
  have K2 := Lib.hid k2
  have hlv : vs.length = 29 := hl
  have TV : Hid (w5.there w.heap.size 0 vs.toArray.size) := Lib.hid (by show w5.there w.heap.size 0 vs.length; rw [hl]; exact t0)
  have SV : Hid ((Tryz.prog.info? 47).map (·.size) = some vs.toArray.size) := Lib.hid (by show _ = some vs.length; rw [hlv]; exact Tryz.sz47)
  have OV := Lib.hid (all_oneCell_toArray h1)
  have OZ : Hid ((zeroc schEntry).toArray.all (fun x => x.oneCell') = true) := Lib.hid (all_oneCell_toArray (Lay.one _ (Lay.zero schEntry F w)))
  clear hp hbt t0 t2 hA h1 k1 k2 hl d1 g0 g1 g2
  cases bad5 with
  | true =>
    go_wp2_with (first
      | (refine wpList_load_mid rfl 47 (.tmp 7) rfl (w.heap.size + 1 + 1) 0 rfl (zeroc schEntry) _ T2.out Tryz.underlying47 rfl Tryz.sz47 ?_)
      | (refine wpList_store_mid rfl 47 (.tmp 4) (.tmp 27) rfl w.heap.size 0 (zeroc schEntry).toArray rfl rfl T0.out Tryz.sz47 OZ.out ?_))
    refine ret_row (vs := zeroc schEntry) rfl rfl Tryz.underlying47 rfl Tryz.sz47 (At.setCells T0.out) rfl ?_
    exact K1.out (.inl trivial)
  | false =>
    by_cases hn0 : 0 < n5
    · go_wp2_with (first
        | (refine wpList_load_mid rfl 47 (.tmp 7) rfl (w.heap.size + 1 + 1) 0 rfl (zeroc schEntry) _ T2.out Tryz.underlying47 rfl Tryz.sz47 ?_)
        | (refine wpList_store_mid rfl 47 (.tmp 4) (.tmp 27) rfl w.heap.size 0 (zeroc schEntry).toArray rfl rfl T0.out Tryz.sz47 OZ.out ?_))
      refine ret_row (vs := zeroc schEntry) rfl rfl Tryz.underlying47 rfl Tryz.sz47 (At.setCells T0.out) rfl ?_
      have hne : B5 ≠ [] := by
        intro e
        rw [e] at hB5
        simp at hB5
        omega
      exact K1.out (by first | exact .inr hne | exact hne)
    · go_wp2_with (first
        | (refine wpList_load_mid rfl 47 (.tmp 6) rfl (w.heap.size + 1) 0 rfl vs _ HA.out Tryz.underlying47 rfl (by rw [hlv]; exact Tryz.sz47) ?_)
        | (refine wpList_store_mid rfl 47 (.tmp 4) (.tmp 28) rfl w.heap.size 0 vs.toArray rfl rfl TV.out SV.out OV.out ?_))
      refine ret_row rfl rfl Tryz.underlying47 rfl SV.out (At.setCells TV.out) rfl ?_
      exact K2.out trivial (List.eq_nil_of_length_eq_zero (by omega))

set_option maxRecDepth 100000 in
set_option maxHeartbeats 1000000 in
theorem getX9 {F : Nat → Prop} {w : World} {A : Option Addr} {n c : Nat} {B : List UInt8} (hb : Bts F w A n B) (hn : n ≤ c) (hF : ∀ k, F k → k < w.heap.size) :
    Calls Tryz.prog 9 #[.slice A n c] w (GetPost schEntry w B) := by
  have HB := Lib.hid hb
  have HF := Lib.hid hF
  clear hb hF
  go_enter Tryz.func9, Tryz.ntmps9
  go_wp2_with fail
  refine (get29 (F := F) (HB.out.keep (fun _ h => h) (fun q _ hlt => Below.heap_alloc _ _ _ hlt)) hn (fun q hq => by have := HF.out q hq; simp; omega)).mono ?_
  rintro e w1 ⟨vs, x, ok, rfl, hu, hL, hW⟩
  have t0 : w1.there w.heap.size 0 29 := hu.there (there_new w _ _ (by decide)) (by simp) (fun _ h => h)
  have hl := Lay.len _ hL
  have hlv : vs.length = 29 := hl
  have TV : Hid (w1.there w.heap.size 0 vs.toArray.size) := Lib.hid (by show w1.there w.heap.size 0 vs.length; rw [hlv]; exact t0)
  have SV : Hid ((Tryz.prog.info? 47).map (·.size) = some vs.toArray.size) := Lib.hid (by show _ = some vs.length; rw [hlv]; exact Tryz.sz47)
  have OV := Lib.hid (all_oneCell_toArray (Lay.one _ hL))
  have HU := Lib.hid hu
  have HL := Lib.hid hL
  have HW := Lib.hid hW
  clear hu hL hW t0 hl
  go_wp2_with (refine wpList_store_mid rfl 47 (.tmp 2) (.tmp 6) rfl w.heap.size 0 vs.toArray rfl rfl TV.out SV.out OV.out ?_)
  refine ret_row rfl rfl Tryz.underlying47 rfl SV.out (At.setCells TV.out) rfl ?_
  exact GetPost.up HU.out HL.out HW.out
end Go.Proofs
