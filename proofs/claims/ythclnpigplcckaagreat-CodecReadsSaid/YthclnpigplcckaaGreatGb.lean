/- Get functions of the kinds. -/
import Derived.Test.YthclnpigplcckaaGreatProg
import Derived.Test.YthclnpigplcckaaGreatLib
import Derived.Test.YthclnpigplcckaaGreatLibs
import Derived.Test.YthclnpigplcckaaGreatRl
import Derived.Test.YthclnpigplcckaaGreatRj
import Derived.WalkSpells
import Derived.WalkLawsBesides
import Derived.Deep.LoopGhost
import Derived.Lib.Hide
import Derived.Deep.RegionWith
import Derived.Maps.AppendAt
import Derived.KernelRfl
set_option linter.unusedSimpArgs false
set_option linter.unusedVariables false

set_option linter.unusedSimpArgs false
namespace Go.Proofs
open Go Go.RowKit Cod

theorem Tryz.sz55 : (Tryz.prog.info? 55).map (·.size) = some 46 := by kernel_rfl

set_option maxRecDepth 100000 in
set_option maxHeartbeats 1000000 in
theorem get34 {F : Nat → Prop} {w : World} {A : Option Addr} {n c : Nat} {B : List UInt8} (hb : Bts F w A n B) (hn : n ≤ c) (hF : ∀ k, F k → k < w.heap.size) :
    Calls Tryz.prog 34 #[.slice A n c, .func (.func 35) #[] #[]] w (GetPost schMsg w B) := by
  have HB := Lib.hid hb
  have HF := Lib.hid hF
  clear hb hF
  go_enter Tryz.func34, Tryz.ntmps34
  go_wp2_with fail
  refine (msg_rd F _ (w.heap.size + 1 + 1 + 1) (w.heap.size + 1) 0 B false (RdH.start HB.out hn HF.out _ _ _ _ _ _ _ rfl)).mono ?_
  rintro e w5 ⟨rfl, B5, bad5, hp⟩
  obtain ⟨A5, n5, c5, d0, d1, d2, g0, g1, g2, hn5, hbt⟩ := hp.form.cells
  have hB5 := hbt.1
  obtain ⟨t0, t2, vs, hA, hl, h1, k1, k2⟩ := hp.get (by decide) rfl
  have T0 := Lib.hid t0
  have T2 := Lib.hid t2
  have HA := Lib.hid hA
  have K1 := Lib.hid k1
  have K2 := Lib.hid k2
  have hlv : vs.length = 46 := hl
  have TV : Hid (w5.there w.heap.size 0 vs.toArray.size) := Lib.hid (by show w5.there w.heap.size 0 vs.length; rw [hl]; exact t0)
  have SV : Hid ((Tryz.prog.info? 55).map (·.size) = some vs.toArray.size) := Lib.hid (by show _ = some vs.length; rw [hlv]; exact Tryz.sz55)
  have OV := Lib.hid (all_oneCell_toArray h1)
  have OZ : Hid ((zeroc schMsg).toArray.all (fun x => x.oneCell') = true) := Lib.hid (all_oneCell_toArray (Lay.one _ (Lay.zero schMsg F w)))
  clear hp hbt t0 t2 hA h1 k1 k2 hl d1 g0 g1 g2
  cases bad5 with
  | true =>
    go_wp2_with (first
      | (refine wpList_load_mid rfl 55 (.tmp 7) rfl (w.heap.size + 1 + 1) 0 rfl (zeroc schMsg) _ T2.out Tryz.underlying55 rfl Tryz.sz55 ?_)
      | (refine wpList_store_mid rfl 55 (.tmp 4) (.tmp 27) rfl w.heap.size 0 (zeroc schMsg).toArray rfl rfl T0.out Tryz.sz55 OZ.out ?_))
    refine ret_row (vs := zeroc schMsg) rfl rfl Tryz.underlying55 rfl Tryz.sz55 (At.setCells T0.out) rfl ?_
    exact K1.out (.inl trivial)
  | false =>
    by_cases hn0 : 0 < n5
    · go_wp2_with (first
        | (refine wpList_load_mid rfl 55 (.tmp 7) rfl (w.heap.size + 1 + 1) 0 rfl (zeroc schMsg) _ T2.out Tryz.underlying55 rfl Tryz.sz55 ?_)
        | (refine wpList_store_mid rfl 55 (.tmp 4) (.tmp 27) rfl w.heap.size 0 (zeroc schMsg).toArray rfl rfl T0.out Tryz.sz55 OZ.out ?_))
      refine ret_row (vs := zeroc schMsg) rfl rfl Tryz.underlying55 rfl Tryz.sz55 (At.setCells T0.out) rfl ?_
      have hne : B5 ≠ [] := by
        intro e
        rw [e] at hB5
        simp at hB5
        omega
      exact K1.out (by first | exact .inr hne | exact hne)
    · go_wp2_with (first
        | (refine wpList_load_mid rfl 55 (.tmp 6) rfl (w.heap.size + 1) 0 rfl vs _ HA.out Tryz.underlying55 rfl (by rw [hlv]; exact Tryz.sz55) ?_)
        | (refine wpList_store_mid rfl 55 (.tmp 4) (.tmp 28) rfl w.heap.size 0 vs.toArray rfl rfl TV.out SV.out OV.out ?_))
      refine ret_row rfl rfl Tryz.underlying55 rfl SV.out (At.setCells TV.out) rfl ?_
      exact K2.out trivial (List.eq_nil_of_length_eq_zero (by omega))

set_option maxRecDepth 100000 in
set_option maxHeartbeats 1000000 in
theorem getX12 {F : Nat → Prop} {w : World} {A : Option Addr} {n c : Nat} {B : List UInt8} (hb : Bts F w A n B) (hn : n ≤ c) (hF : ∀ k, F k → k < w.heap.size) :
    Calls Tryz.prog 12 #[.slice A n c] w (GetPost schMsg w B) := by
  have HB := Lib.hid hb
  have HF := Lib.hid hF
  clear hb hF
  go_enter Tryz.func12, Tryz.ntmps12
  go_wp2_with fail
  refine (get34 (F := F) (HB.out.keep (fun _ h => h) (fun q _ hlt => Below.heap_alloc _ _ _ hlt)) hn (fun q hq => by have := HF.out q hq; simp; omega)).mono ?_
  rintro e w1 ⟨vs, x, ok, rfl, hu, hL, hW⟩
  have t0 : w1.there w.heap.size 0 46 := hu.there (there_new w _ _ (by decide)) (by simp) (fun _ h => h)
  have hl := Lay.len _ hL
  have hlv : vs.length = 46 := hl
  have TV : Hid (w1.there w.heap.size 0 vs.toArray.size) := Lib.hid (by show w1.there w.heap.size 0 vs.length; rw [hlv]; exact t0)
  have SV : Hid ((Tryz.prog.info? 55).map (·.size) = some vs.toArray.size) := Lib.hid (by show _ = some vs.length; rw [hlv]; exact Tryz.sz55)
  have OV := Lib.hid (all_oneCell_toArray (Lay.one _ hL))
  have HU := Lib.hid hu
  have HL := Lib.hid hL
  have HW := Lib.hid hW
  clear hu hL hW t0 hl
  go_wp2_with (refine wpList_store_mid rfl 55 (.tmp 2) (.tmp 6) rfl w.heap.size 0 vs.toArray rfl rfl TV.out SV.out OV.out ?_)
  refine ret_row rfl rfl Tryz.underlying55 rfl SV.out (At.setCells TV.out) rfl ?_
  exact GetPost.up HU.out HL.out HW.out
end Go.Proofs

set_option linter.unusedSimpArgs false
namespace Go.Proofs
open Go Go.RowKit Cod

theorem Tryz.sz60 : (Tryz.prog.info? 60).map (·.size) = some 5 := by kernel_rfl

set_option maxRecDepth 100000 in
set_option maxHeartbeats 1000000 in
theorem get39 {F : Nat → Prop} {w : World} {A : Option Addr} {n c : Nat} {B : List UInt8} (hb : Bts F w A n B) (hn : n ≤ c) (hF : ∀ k, F k → k < w.heap.size) :
    Calls Tryz.prog 39 #[.slice A n c, .func (.func 40) #[] #[]] w (GetPost schSnapshot w B) := by
  have HB := Lib.hid hb
  have HF := Lib.hid hF
  clear hb hF
  go_enter Tryz.func39, Tryz.ntmps39
  go_wp2_with fail
  refine (snapshot_rd F _ (w.heap.size + 1 + 1 + 1) (w.heap.size + 1) 0 B false (RdH.start HB.out hn HF.out _ _ _ _ _ _ _ rfl)).mono ?_
  rintro e w5 ⟨rfl, B5, bad5, hp⟩
  obtain ⟨A5, n5, c5, d0, d1, d2, g0, g1, g2, hn5, hbt⟩ := hp.form.cells
  have hB5 := hbt.1
  obtain ⟨t0, t2, vs, hA, hl, h1, k1, k2⟩ := hp.get (by decide) rfl
  have T0 := Lib.hid t0
  have T2 := Lib.hid t2
  have HA := Lib.hid hA
  have K1 := Lib.hid k1
  have K2 := Lib.hid k2
  have hlv : vs.length = 5 := hl
  have TV : Hid (w5.there w.heap.size 0 vs.toArray.size) := Lib.hid (by show w5.there w.heap.size 0 vs.length; rw [hl]; exact t0)
  have SV : Hid ((Tryz.prog.info? 60).map (·.size) = some vs.toArray.size) := Lib.hid (by show _ = some vs.length; rw [hlv]; exact Tryz.sz60)
  have OV := Lib.hid (all_oneCell_toArray h1)
  have OZ : Hid ((zeroc schSnapshot).toArray.all (fun x => x.oneCell') = true) := Lib.hid (all_oneCell_toArray (Lay.one _ (Lay.zero schSnapshot F w)))
  clear hp hbt t0 t2 hA h1 k1 k2 hl d1 g0 g1 g2
  cases bad5 with
  | true =>
    go_wp2_with (first
      | (refine wpList_load_mid rfl 60 (.tmp 7) rfl (w.heap.size + 1 + 1) 0 rfl (zeroc schSnapshot) _ T2.out Tryz.underlying60 rfl Tryz.sz60 ?_)
      | (refine wpList_store_mid rfl 60 (.tmp 4) (.tmp 27) rfl w.heap.size 0 (zeroc schSnapshot).toArray rfl rfl T0.out Tryz.sz60 OZ.out ?_))
    refine ret_row (vs := zeroc schSnapshot) rfl rfl Tryz.underlying60 rfl Tryz.sz60 (At.setCells T0.out) rfl ?_
    exact K1.out (.inl trivial)
  | false =>
    by_cases hn0 : 0 < n5
    · go_wp2_with (first
        | (refine wpList_load_mid rfl 60 (.tmp 7) rfl (w.heap.size + 1 + 1) 0 rfl (zeroc schSnapshot) _ T2.out Tryz.underlying60 rfl Tryz.sz60 ?_)
        | (refine wpList_store_mid rfl 60 (.tmp 4) (.tmp 27) rfl w.heap.size 0 (zeroc schSnapshot).toArray rfl rfl T0.out Tryz.sz60 OZ.out ?_))
      refine ret_row (vs := zeroc schSnapshot) rfl rfl Tryz.underlying60 rfl Tryz.sz60 (At.setCells T0.out) rfl ?_
      have hne : B5 ≠ [] := by
        intro e
        rw [e] at hB5
        simp at hB5
        omega
      exact K1.out (by first | exact .inr hne | exact hne)
    · go_wp2_with (first
        | (refine wpList_load_mid rfl 60 (.tmp 6) rfl (w.heap.size + 1) 0 rfl vs _ HA.out Tryz.underlying60 rfl (by rw [hlv]; exact Tryz.sz60) ?_)
        | (refine wpList_store_mid rfl 60 (.tmp 4) (.tmp 28) rfl w.heap.size 0 vs.toArray rfl rfl TV.out SV.out OV.out ?_))
      refine ret_row rfl rfl Tryz.underlying60 rfl SV.out (At.setCells TV.out) rfl ?_
      exact K2.out trivial (List.eq_nil_of_length_eq_zero (by omega))

set_option maxRecDepth 100000 in
set_option maxHeartbeats 1000000 in
theorem getX15 {F : Nat → Prop} {w : World} {A : Option Addr} {n c : Nat} {B : List UInt8} (hb : Bts F w A n B) (hn : n ≤ c) (hF : ∀ k, F k → k < w.heap.size) :
    Calls Tryz.prog 15 #[.slice A n c] w (GetPost schSnapshot w B) := by
  have HB := Lib.hid hb
  have HF := Lib.hid hF
  clear hb hF
  go_enter Tryz.func15, Tryz.ntmps15
  go_wp2_with fail
  refine (get39 (F := F) (HB.out.keep (fun _ h => h) (fun q _ hlt => Below.heap_alloc _ _ _ hlt)) hn (fun q hq => by have := HF.out q hq; simp; omega)).mono ?_
  rintro e w1 ⟨vs, x, ok, rfl, hu, hL, hW⟩
  have t0 : w1.there w.heap.size 0 5 := hu.there (there_new w _ _ (by decide)) (by simp) (fun _ h => h)
  have hl := Lay.len _ hL
  have hlv : vs.length = 5 := hl
  have TV : Hid (w1.there w.heap.size 0 vs.toArray.size) := Lib.hid (by show w1.there w.heap.size 0 vs.length; rw [hlv]; exact t0)
  have SV : Hid ((Tryz.prog.info? 60).map (·.size) = some vs.toArray.size) := Lib.hid (by show _ = some vs.length; rw [hlv]; exact Tryz.sz60)
  have OV := Lib.hid (all_oneCell_toArray (Lay.one _ hL))
  have HU := Lib.hid hu
  have HL := Lib.hid hL
  have HW := Lib.hid hW
  clear hu hL hW t0 hl
  go_wp2_with (refine wpList_store_mid rfl 60 (.tmp 2) (.tmp 6) rfl w.heap.size 0 vs.toArray rfl rfl TV.out SV.out OV.out ?_)
  refine ret_row rfl rfl Tryz.underlying60 rfl SV.out (At.setCells TV.out) rfl ?_
  exact GetPost.up HU.out HL.out HW.out
end Go.Proofs

set_option linter.unusedSimpArgs false
namespace Go.Proofs
open Go Go.RowKit Cod

theorem Tryz.sz70 : (Tryz.prog.info? 70).map (·.size) = some 9 := by kernel_rfl

set_option maxRecDepth 100000 in
set_option maxHeartbeats 1000000 in
theorem get44 {F : Nat → Prop} {w : World} {A : Option Addr} {n c : Nat} {B : List UInt8} (hb : Bts F w A n B) (hn : n ≤ c) (hF : ∀ k, F k → k < w.heap.size) :
    Calls Tryz.prog 44 #[.slice A n c, .func (.func 45) #[] #[]] w (GetPost schStore w B) := by
  have HB := Lib.hid hb
  have HF := Lib.hid hF
  clear hb hF
  go_enter Tryz.func44, Tryz.ntmps44
  go_wp2_with fail
  refine (store_rd F _ (w.heap.size + 1 + 1 + 1) (w.heap.size + 1) 0 B false (RdH.start HB.out hn HF.out _ _ _ _ _ _ _ rfl)).mono ?_
  rintro e w5 ⟨rfl, B5, bad5, hp⟩
  obtain ⟨A5, n5, c5, d0, d1, d2, g0, g1, g2, hn5, hbt⟩ := hp.form.cells
  have hB5 := hbt.1
  obtain ⟨t0, t2, vs, hA, hl, h1, k1, k2⟩ := hp.get (by decide) rfl
  have T0 := Lib.hid t0
  have T2 := Lib.hid t2
  have HA := Lib.hid hA
  have K1 := Lib.hid k1
  have K2 := Lib.hid k2
  have hlv : vs.length = 9 := hl
  have TV : Hid (w5.there w.heap.size 0 vs.toArray.size) := Lib.hid (by show w5.there w.heap.size 0 vs.length; rw [hl]; exact t0)
  have SV : Hid ((Tryz.prog.info? 70).map (·.size) = some vs.toArray.size) := Lib.hid (by show _ = some vs.length; rw [hlv]; exact Tryz.sz70)
  have OV := Lib.hid (all_oneCell_toArray h1)
  have OZ : Hid ((zeroc schStore).toArray.all (fun x => x.oneCell') = true) := Lib.hid (all_oneCell_toArray (Lay.one _ (Lay.zero schStore F w)))
  clear hp hbt t0 t2 hA h1 k1 k2 hl d1 g0 g1 g2
  cases bad5 with
  | true =>
    go_wp2_with (first
      | (refine wpList_load_mid rfl 70 (.tmp 7) rfl (w.heap.size + 1 + 1) 0 rfl (zeroc schStore) _ T2.out Tryz.underlying70 rfl Tryz.sz70 ?_)
      | (refine wpList_store_mid rfl 70 (.tmp 4) (.tmp 27) rfl w.heap.size 0 (zeroc schStore).toArray rfl rfl T0.out Tryz.sz70 OZ.out ?_))
    refine ret_row (vs := zeroc schStore) rfl rfl Tryz.underlying70 rfl Tryz.sz70 (At.setCells T0.out) rfl ?_
    exact K1.out (.inl trivial)
  | false =>
    by_cases hn0 : 0 < n5
    · go_wp2_with (first
        | (refine wpList_load_mid rfl 70 (.tmp 7) rfl (w.heap.size + 1 + 1) 0 rfl (zeroc schStore) _ T2.out Tryz.underlying70 rfl Tryz.sz70 ?_)
        | (refine wpList_store_mid rfl 70 (.tmp 4) (.tmp 27) rfl w.heap.size 0 (zeroc schStore).toArray rfl rfl T0.out Tryz.sz70 OZ.out ?_))
      refine ret_row (vs := zeroc schStore) rfl rfl Tryz.underlying70 rfl Tryz.sz70 (At.setCells T0.out) rfl ?_
      have hne : B5 ≠ [] := by
        intro e
        rw [e] at hB5
        simp at hB5
        omega
      exact K1.out (by first | exact .inr hne | exact hne)
    · go_wp2_with (first
        | (refine wpList_load_mid rfl 70 (.tmp 6) rfl (w.heap.size + 1) 0 rfl vs _ HA.out Tryz.underlying70 rfl (by rw [hlv]; exact Tryz.sz70) ?_)
        | (refine wpList_store_mid rfl 70 (.tmp 4) (.tmp 28) rfl w.heap.size 0 vs.toArray rfl rfl TV.out SV.out OV.out ?_))
      refine ret_row rfl rfl Tryz.underlying70 rfl SV.out (At.setCells TV.out) rfl ?_
      exact K2.out trivial (List.eq_nil_of_length_eq_zero (by omega))

set_option maxRecDepth 100000 in
set_option maxHeartbeats 1000000 in
theorem getX18 {F : Nat → Prop} {w : World} {A : Option Addr} {n c : Nat} {B : List UInt8} (hb : Bts F w A n B) (hn : n ≤ c) (hF : ∀ k, F k → k < w.heap.size) :
    Calls Tryz.prog 18 #[.slice A n c] w (GetPost schStore w B) := by
  have HB := Lib.hid hb
  have HF := Lib.hid hF
  clear hb hF
  go_enter Tryz.func18, Tryz.ntmps18
  go_wp2_with fail
  refine (get44 (F := F) (HB.out.keep (fun _ h => h) (fun q _ hlt => Below.heap_alloc _ _ _ hlt)) hn (fun q hq => by have := HF.out q hq; simp; omega)).mono ?_
  rintro e w1 ⟨vs, x, ok, rfl, hu, hL, hW⟩
  have t0 : w1.there w.heap.size 0 9 := hu.there (there_new w _ _ (by decide)) (by simp) (fun _ h => h)
  have hl := Lay.len _ hL
  have hlv : vs.length = 9 := hl
  have TV : Hid (w1.there w.heap.size 0 vs.toArray.size) := Lib.hid (by show w1.there w.heap.size 0 vs.length; rw [hlv]; exact t0)
  have SV : Hid ((Tryz.prog.info? 70).map (·.size) = some vs.toArray.size) := Lib.hid (by show _ = some vs.length; rw [hlv]; exact Tryz.sz70)
  have OV := Lib.hid (all_oneCell_toArray (Lay.one _ hL))
  have HU := Lib.hid hu
  have HL := Lib.hid hL
  have HW := Lib.hid hW
  clear hu hL hW t0 hl
  go_wp2_with (refine wpList_store_mid rfl 70 (.tmp 2) (.tmp 6) rfl w.heap.size 0 vs.toArray rfl rfl TV.out SV.out OV.out ?_)
  refine ret_row rfl rfl Tryz.underlying70 rfl SV.out (At.setCells TV.out) rfl ?_
  exact GetPost.up HU.out HL.out HW.out
end Go.Proofs
