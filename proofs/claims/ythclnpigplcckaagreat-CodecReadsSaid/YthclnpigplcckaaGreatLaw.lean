/- The law itself walked. -/
import Derived.Test.YthclnpigplcckaaGreatProg
import Derived.Test.YthclnpigplcckaaGreatLibs
import Derived.Test.YthclnpigplcckaaGreatCc
import Derived.Test.YthclnpigplcckaaGreatNb
import Derived.Test.YthclnpigplcckaaGreatNc
import Derived.Test.YthclnpigplcckaaGreatNd
import Derived.Test.YthclnpigplcckaaGreatNe
import Derived.Test.YthclnpigplcckaaGreatNf
import Derived.Test.YthclnpigplcckaaGreatPa
import Derived.Test.YthclnpigplcckaaGreatGa
import Derived.Test.YthclnpigplcckaaGreatGb
import Derived.WalkSpells
import Derived.WalkLawsBesides
import Derived.Deep.LoopGhost
import Derived.Lib.Hide
import Derived.Deep.RegionWith
import Derived.Maps.AppendAt
import Derived.KernelRfl
import Derived.Deep.Cut
set_option linter.unusedSimpArgs false
set_option linter.unusedVariables false

set_option linter.unusedSimpArgs false
namespace Go.Proofs
open Go Go.RowKit Cod

theorem whole_iff {s : Sch} {B : List UInt8} {ok : Bool} {x : Ty s} (h : Whole s B ok x) : ok = true ↔ ∃ y, parse s B = some (y, []) := by
  rcases h with ⟨h, rfl⟩ | ⟨h, rfl, _⟩
  · exact ⟨fun _ => ⟨x, h⟩, fun _ => rfl⟩
  · exact ⟨(fun h => nomatch h), fun ⟨y, hy⟩ => absurd hy (h y)⟩
theorem bool_iff {a b : Bool} {p : Prop} (h : a = true ↔ p) (k : b = true ↔ p) : b = a := by
  cases a <;> cases b <;> simp_all

set_option maxRecDepth 100000 in
set_option maxHeartbeats 4000000 in
theorem law_c {w : World} {A : Option Addr} {n c : Nat} {B : List UInt8} (hb : Bts (fun k => k < w.heap.size) w A n B) (hn : n ≤ c) :
    Calls Tryz.prog 3 #[.slice A n c] w (Says True w) := by
  have D0 := Lib.hid hb
  have E0 : Hid (Upd (fun _ _ => False) w w) := Lib.hid (Upd.refl _ w)
  clear hb
  go_enter Tryz.func3, Tryz.ntmps3
  have Da0 : Hid (Bts (fun k => k < w.heap.size) w A n B) := Lib.hid (D0.out.keep (fun _ h => h) (fun q _ hq => E0.out.block q hq (fun _ h => h)))
  have Ha0 : Hid (∀ k, k < w.heap.size → k < w.heap.size) := Lib.hid (fun k hk => Nat.lt_of_lt_of_le hk E0.out.size)
  go_wp2_with fail
  refine (getX4 Da0.out hn Ha0.out).mono ?_
  rintro e w1 ⟨vs, x, ok, rfl, hu, hL, hW⟩
  have hl := Lay.len _ hL
  have hlv : vs.length = 27 := hl
  have SV : Hid ((Tryz.prog.info? 38).map (·.size) = some vs.toArray.size) := Lib.hid (by show _ = some vs.length; rw [hlv]; exact Tryz.sz38)
  have CV : Hid (27 = vs.toArray.size) := Lib.hid hlv.symm
  have OV := Lib.hid (all_oneCell_toArray (Lay.one _ hL))
  have E1 : Hid (Upd (fun _ _ => False) w (w1.alloc (.cells vs.toArray 38))) := Lib.hid ((E0.out.trans hu).alloc _)
  have D1 : Hid (Bts (fun k => k < w.heap.size) (w1.alloc (.cells vs.toArray 38)) A n B) := Lib.hid (D0.out.keep (fun _ h => h) (fun q _ hq => E1.out.block q hq (fun _ h => h)))
  have H1 : Hid (∀ k, k < w.heap.size → k < (w1.alloc (.cells vs.toArray 38)).heap.size) := Lib.hid (fun k hk => Nat.lt_of_lt_of_le hk E1.out.size)
  have A1 : Hid (At (w1.alloc (.cells vs.toArray 38)) w1.heap.size 0 vs) := Lib.hid (At.new w1 vs.toArray 38)
  have L1 : Hid (Lay schCmd (fun k => k < w1.heap.size) (w1.alloc (.cells vs.toArray 38)) vs x) := Lib.hid (Lay.keep _ (Lay.within _ hL) (fun k hk => hk.2) (fun k _ hk2 => Below.heap_alloc _ _ _ hk2))
  have HW := Lib.hid hW
  clear hu hL hW hl hlv
  go_wp2_with (refine wpList_store_new rfl 38 _ _ rfl rfl rfl SV.out CV.out OV.out ?_)
  refine (getR5 D1.out hn H1.out).mono ?_
  rintro e w2 ⟨us, ok2, rfl, hu2, hl2, h12, hok2⟩
  obtain rfl : ok2 = ok := bool_iff (whole_iff HW.out) hok2
  have hlu : us.length = 27 := hl2
  have SU : Hid ((Tryz.prog.info? 38).map (·.size) = some us.toArray.size) := Lib.hid (by show _ = some us.length; rw [hlu]; exact Tryz.sz38)
  have CU : Hid (27 = us.toArray.size) := Lib.hid hlu.symm
  have OU := Lib.hid (all_oneCell_toArray h12)
  have u2 : Upd (fun _ _ => False) (w1.alloc (.cells vs.toArray 38)) (w2.alloc (.cells us.toArray 38)) := hu2.alloc _
  clear hlu
  have E2 : Hid (Upd (fun _ _ => False) w (w2.alloc (.cells us.toArray 38))) := Lib.hid (E1.out.trans u2)
  have A2 : Hid (At (w2.alloc (.cells us.toArray 38)) w1.heap.size 0 vs) := Lib.hid (u2.at A1.out (fun _ _ h => h))
  have L2 : Hid (Lay schCmd (fun k => k < w1.heap.size) (w2.alloc (.cells us.toArray 38)) vs x) := Lib.hid (Lay.keep _ L1.out (fun _ h => h) (fun k _ hk2 => u2.block k hk2 (fun _ h => h)))
  have H2 : Hid (∀ k, k < w1.heap.size → k < (w2.alloc (.cells us.toArray 38)).heap.size) := Lib.hid (fun k hk => Nat.lt_of_lt_of_le (by simp; omega) u2.size)
  clear hu2 hl2 h12 hok2 u2
  go_wp2_with (first
    | (refine wpList_store_new rfl 38 _ _ rfl rfl rfl SU.out CU.out OU.out ?_)
    | (refine wpList_load_mid rfl 38 _ rfl w1.heap.size 0 rfl vs _ A2.out Tryz.underlying38 rfl SV.out ?_))
  refine (putX6 L2.out H2.out HW.out.okay).mono ?_
  rintro e w3 ⟨A3, n3, c3, rfl, hn3, hu3, hb3⟩
  have E3 : Hid (Upd (fun _ _ => False) w w3) := Lib.hid (E2.out.trans hu3)
  have D3 : Hid (Bts (fun k => k < w.heap.size) w3 A n B) := Lib.hid (D0.out.keep (fun _ h => h) (fun q _ hq => E3.out.block q hq (fun _ h => h)))
  have B3 := Lib.hid hb3
  clear hu3 hb3 D1 H1 A1 L1 A2 L2 H2 E1 E2 Da0 Ha0 SV CV OV SU CU OU
  go_upto_region 4 with (fail)
  go_cut [47] from 13 (fun v w' => v = .bool false ∧ Upd (fun _ _ => False) w w')
  case first =>
    cases ok2 with
    | false =>
      go_wp2_with fail
      refine (known_c (w := w3)).mono ?_
      rintro e w5 ⟨t5, rfl, hu5, h5⟩
      have E5 := Lib.hid (E3.out.trans hu5)
      obtain rfl : t5 = true := h5.2 trivial
      clear hu5 h5
      go_wp2_with fail
      go_meet
      case rel => exact ⟨rfl, E5.out⟩
    | true =>
      have hsame := HW.out.same rfl
      go_wp2_with fail
      refine (same (c := c3) (c' := c) B3.out D3.out).mono ?_
      rintro e w4 ⟨t4, rfl, hu4, h4⟩
      obtain rfl : t4 = true := h4.2 hsame
      have E4 := Lib.hid (E3.out.trans hu4)
      clear hu4 h4 hsame
      go_wp2_with fail
      refine (known_c (w := w4)).mono ?_
      rintro e w5 ⟨t5, rfl, hu5, h5⟩
      have E5 := Lib.hid (E4.out.trans hu5)
      obtain rfl : t5 = true := h5.2 trivial
      clear hu5 h5
      go_wp2_with fail
      go_meet
      case rel => exact ⟨rfl, E5.out⟩
  obtain ⟨hv, hcut⟩ := hcut
  subst hv
  have E10 := Lib.hid hcut
  obtain ⟨wb1, hwb⟩ : ∃ w', w' = wc := ⟨_, rfl⟩
  rw [← hwb] at E10 ⊢
  clear hcut hwb E3 D3 B3 HW
  have Da1 : Hid (Bts (fun k => k < w.heap.size) wb1 A n B) := Lib.hid (D0.out.keep (fun _ h => h) (fun q _ hq => E10.out.block q hq (fun _ h => h)))
  have Ha1 : Hid (∀ k, k < w.heap.size → k < wb1.heap.size) := Lib.hid (fun k hk => Nat.lt_of_lt_of_le hk E10.out.size)
  go_wp2_with fail
  refine (getX9 Da1.out hn Ha1.out).mono ?_
  rintro e w1 ⟨vs, x, ok, rfl, hu, hL, hW⟩
  have hl := Lay.len _ hL
  have hlv : vs.length = 29 := hl
  have SV : Hid ((Tryz.prog.info? 47).map (·.size) = some vs.toArray.size) := Lib.hid (by show _ = some vs.length; rw [hlv]; exact Tryz.sz47)
  have CV : Hid (29 = vs.toArray.size) := Lib.hid hlv.symm
  have OV := Lib.hid (all_oneCell_toArray (Lay.one _ hL))
  have E1 : Hid (Upd (fun _ _ => False) w (w1.alloc (.cells vs.toArray 47))) := Lib.hid ((E10.out.trans hu).alloc _)
  have D1 : Hid (Bts (fun k => k < w.heap.size) (w1.alloc (.cells vs.toArray 47)) A n B) := Lib.hid (D0.out.keep (fun _ h => h) (fun q _ hq => E1.out.block q hq (fun _ h => h)))
  have H1 : Hid (∀ k, k < w.heap.size → k < (w1.alloc (.cells vs.toArray 47)).heap.size) := Lib.hid (fun k hk => Nat.lt_of_lt_of_le hk E1.out.size)
  have A1 : Hid (At (w1.alloc (.cells vs.toArray 47)) w1.heap.size 0 vs) := Lib.hid (At.new w1 vs.toArray 47)
  have L1 : Hid (Lay schEntry (fun k => k < w1.heap.size) (w1.alloc (.cells vs.toArray 47)) vs x) := Lib.hid (Lay.keep _ (Lay.within _ hL) (fun k hk => hk.2) (fun k _ hk2 => Below.heap_alloc _ _ _ hk2))
  have HW := Lib.hid hW
  clear hu hL hW hl hlv
  go_wp2_with (refine wpList_store_new rfl 47 _ _ rfl rfl rfl SV.out CV.out OV.out ?_)
  refine (getR10 D1.out hn H1.out).mono ?_
  rintro e w2 ⟨us, ok2, rfl, hu2, hl2, h12, hok2⟩
  obtain rfl : ok2 = ok := bool_iff (whole_iff HW.out) hok2
  have u2 := hu2
  have E2 : Hid (Upd (fun _ _ => False) w w2) := Lib.hid (E1.out.trans u2)
  have A2 : Hid (At w2 w1.heap.size 0 vs) := Lib.hid (u2.at A1.out (fun _ _ h => h))
  have L2 : Hid (Lay schEntry (fun k => k < w1.heap.size) w2 vs x) := Lib.hid (Lay.keep _ L1.out (fun _ h => h) (fun k _ hk2 => u2.block k hk2 (fun _ h => h)))
  have H2 : Hid (∀ k, k < w1.heap.size → k < w2.heap.size) := Lib.hid (fun k hk => Nat.lt_of_lt_of_le (by simp; omega) u2.size)
  clear hu2 hl2 h12 hok2 u2
  go_wp2_with (first
    | (refine wpList_load_mid rfl 47 _ rfl w1.heap.size 0 rfl vs _ A2.out Tryz.underlying47 rfl SV.out ?_))
  refine (putX11 L2.out H2.out HW.out.okay).mono ?_
  rintro e w3 ⟨A3, n3, c3, rfl, hn3, hu3, hb3⟩
  have E3 : Hid (Upd (fun _ _ => False) w w3) := Lib.hid (E2.out.trans hu3)
  have D3 : Hid (Bts (fun k => k < w.heap.size) w3 A n B) := Lib.hid (D0.out.keep (fun _ h => h) (fun q _ hq => E3.out.block q hq (fun _ h => h)))
  have B3 := Lib.hid hb3
  clear hu3 hb3 D1 H1 A1 L1 A2 L2 H2 E1 E2 Da1 Ha1 SV CV OV
  go_upto_region 9 with (fail)
  go_cut [78] from 13 (fun v w' => v = .bool false ∧ Upd (fun _ _ => False) w w')
  case first =>
    cases ok2 with
    | false =>
      go_wp2_with fail
      go_meet
      case rel => exact ⟨rfl, E3.out⟩
    | true =>
      have hsame := HW.out.same rfl
      go_wp2_with fail
      refine (same (c := c3) (c' := c) B3.out D3.out).mono ?_
      rintro e w4 ⟨t4, rfl, hu4, h4⟩
      obtain rfl : t4 = true := h4.2 hsame
      have E4 := Lib.hid (E3.out.trans hu4)
      clear hu4 h4 hsame
      go_wp2_with fail
      go_meet
      case rel => exact ⟨rfl, E4.out⟩
  obtain ⟨hv, hcut⟩ := hcut
  subst hv
  have E20 := Lib.hid hcut
  obtain ⟨wb2, hwb⟩ : ∃ w', w' = wc := ⟨_, rfl⟩
  rw [← hwb] at E20 ⊢
  clear hcut hwb E3 D3 B3 HW
  have Da2 : Hid (Bts (fun k => k < w.heap.size) wb2 A n B) := Lib.hid (D0.out.keep (fun _ h => h) (fun q _ hq => E20.out.block q hq (fun _ h => h)))
  have Ha2 : Hid (∀ k, k < w.heap.size → k < wb2.heap.size) := Lib.hid (fun k hk => Nat.lt_of_lt_of_le hk E20.out.size)
  go_wp2_with fail
  refine (getX12 Da2.out hn Ha2.out).mono ?_
  rintro e w1 ⟨vs, x, ok, rfl, hu, hL, hW⟩
  have hl := Lay.len _ hL
  have hlv : vs.length = 46 := hl
  have SV : Hid ((Tryz.prog.info? 55).map (·.size) = some vs.toArray.size) := Lib.hid (by show _ = some vs.length; rw [hlv]; exact Tryz.sz55)
  have CV : Hid (46 = vs.toArray.size) := Lib.hid hlv.symm
  have OV := Lib.hid (all_oneCell_toArray (Lay.one _ hL))
  have E1 : Hid (Upd (fun _ _ => False) w (w1.alloc (.cells vs.toArray 55))) := Lib.hid ((E20.out.trans hu).alloc _)
  have D1 : Hid (Bts (fun k => k < w.heap.size) (w1.alloc (.cells vs.toArray 55)) A n B) := Lib.hid (D0.out.keep (fun _ h => h) (fun q _ hq => E1.out.block q hq (fun _ h => h)))
  have H1 : Hid (∀ k, k < w.heap.size → k < (w1.alloc (.cells vs.toArray 55)).heap.size) := Lib.hid (fun k hk => Nat.lt_of_lt_of_le hk E1.out.size)
  have A1 : Hid (At (w1.alloc (.cells vs.toArray 55)) w1.heap.size 0 vs) := Lib.hid (At.new w1 vs.toArray 55)
  have L1 : Hid (Lay schMsg (fun k => k < w1.heap.size) (w1.alloc (.cells vs.toArray 55)) vs x) := Lib.hid (Lay.keep _ (Lay.within _ hL) (fun k hk => hk.2) (fun k _ hk2 => Below.heap_alloc _ _ _ hk2))
  have HW := Lib.hid hW
  clear hu hL hW hl hlv
  go_wp2_with (refine wpList_store_new rfl 55 _ _ rfl rfl rfl SV.out CV.out OV.out ?_)
  refine (getR13 D1.out hn H1.out).mono ?_
  rintro e w2 ⟨us, ok2, rfl, hu2, hl2, h12, hok2⟩
  obtain rfl : ok2 = ok := bool_iff (whole_iff HW.out) hok2
  have u2 := hu2
  have E2 : Hid (Upd (fun _ _ => False) w w2) := Lib.hid (E1.out.trans u2)
  have A2 : Hid (At w2 w1.heap.size 0 vs) := Lib.hid (u2.at A1.out (fun _ _ h => h))
  have L2 : Hid (Lay schMsg (fun k => k < w1.heap.size) w2 vs x) := Lib.hid (Lay.keep _ L1.out (fun _ h => h) (fun k _ hk2 => u2.block k hk2 (fun _ h => h)))
  have H2 : Hid (∀ k, k < w1.heap.size → k < w2.heap.size) := Lib.hid (fun k hk => Nat.lt_of_lt_of_le (by simp; omega) u2.size)
  clear hu2 hl2 h12 hok2 u2
  go_wp2_with (first
    | (refine wpList_load_mid rfl 55 _ rfl w1.heap.size 0 rfl vs _ A2.out Tryz.underlying55 rfl SV.out ?_))
  refine (putX14 L2.out H2.out HW.out.okay).mono ?_
  rintro e w3 ⟨A3, n3, c3, rfl, hn3, hu3, hb3⟩
  have E3 : Hid (Upd (fun _ _ => False) w w3) := Lib.hid (E2.out.trans hu3)
  have D3 : Hid (Bts (fun k => k < w.heap.size) w3 A n B) := Lib.hid (D0.out.keep (fun _ h => h) (fun q _ hq => E3.out.block q hq (fun _ h => h)))
  have B3 := Lib.hid hb3
  clear hu3 hb3 D1 H1 A1 L1 A2 L2 H2 E1 E2 Da2 Ha2 SV CV OV
  go_upto_region 14 with (fail)
  go_cut [109] from 13 (fun v w' => v = .bool false ∧ Upd (fun _ _ => False) w w')
  case first =>
    cases ok2 with
    | false =>
      go_wp2_with fail
      go_meet
      case rel => exact ⟨rfl, E3.out⟩
    | true =>
      have hsame := HW.out.same rfl
      go_wp2_with fail
      refine (same (c := c3) (c' := c) B3.out D3.out).mono ?_
      rintro e w4 ⟨t4, rfl, hu4, h4⟩
      obtain rfl : t4 = true := h4.2 hsame
      have E4 := Lib.hid (E3.out.trans hu4)
      clear hu4 h4 hsame
      go_wp2_with fail
      go_meet
      case rel => exact ⟨rfl, E4.out⟩
  obtain ⟨hv, hcut⟩ := hcut
  subst hv
  have E30 := Lib.hid hcut
  obtain ⟨wb3, hwb⟩ : ∃ w', w' = wc := ⟨_, rfl⟩
  rw [← hwb] at E30 ⊢
  clear hcut hwb E3 D3 B3 HW
  have Da3 : Hid (Bts (fun k => k < w.heap.size) wb3 A n B) := Lib.hid (D0.out.keep (fun _ h => h) (fun q _ hq => E30.out.block q hq (fun _ h => h)))
  have Ha3 : Hid (∀ k, k < w.heap.size → k < wb3.heap.size) := Lib.hid (fun k hk => Nat.lt_of_lt_of_le hk E30.out.size)
  go_wp2_with fail
  refine (getX15 Da3.out hn Ha3.out).mono ?_
  rintro e w1 ⟨vs, x, ok, rfl, hu, hL, hW⟩
  have hl := Lay.len _ hL
  have hlv : vs.length = 5 := hl
  have SV : Hid ((Tryz.prog.info? 60).map (·.size) = some vs.toArray.size) := Lib.hid (by show _ = some vs.length; rw [hlv]; exact Tryz.sz60)
  have CV : Hid (5 = vs.toArray.size) := Lib.hid hlv.symm
  have OV := Lib.hid (all_oneCell_toArray (Lay.one _ hL))
  have E1 : Hid (Upd (fun _ _ => False) w (w1.alloc (.cells vs.toArray 60))) := Lib.hid ((E30.out.trans hu).alloc _)
  have D1 : Hid (Bts (fun k => k < w.heap.size) (w1.alloc (.cells vs.toArray 60)) A n B) := Lib.hid (D0.out.keep (fun _ h => h) (fun q _ hq => E1.out.block q hq (fun _ h => h)))
  have H1 : Hid (∀ k, k < w.heap.size → k < (w1.alloc (.cells vs.toArray 60)).heap.size) := Lib.hid (fun k hk => Nat.lt_of_lt_of_le hk E1.out.size)
  have A1 : Hid (At (w1.alloc (.cells vs.toArray 60)) w1.heap.size 0 vs) := Lib.hid (At.new w1 vs.toArray 60)
  have L1 : Hid (Lay schSnapshot (fun k => k < w1.heap.size) (w1.alloc (.cells vs.toArray 60)) vs x) := Lib.hid (Lay.keep _ (Lay.within _ hL) (fun k hk => hk.2) (fun k _ hk2 => Below.heap_alloc _ _ _ hk2))
  have HW := Lib.hid hW
  clear hu hL hW hl hlv
  go_wp2_with (refine wpList_store_new rfl 60 _ _ rfl rfl rfl SV.out CV.out OV.out ?_)
  refine (getR16 D1.out hn H1.out).mono ?_
  rintro e w2 ⟨us, ok2, rfl, hu2, hl2, h12, hok2⟩
  obtain rfl : ok2 = ok := bool_iff (whole_iff HW.out) hok2
  have u2 := hu2
  have E2 : Hid (Upd (fun _ _ => False) w w2) := Lib.hid (E1.out.trans u2)
  have A2 : Hid (At w2 w1.heap.size 0 vs) := Lib.hid (u2.at A1.out (fun _ _ h => h))
  have L2 : Hid (Lay schSnapshot (fun k => k < w1.heap.size) w2 vs x) := Lib.hid (Lay.keep _ L1.out (fun _ h => h) (fun k _ hk2 => u2.block k hk2 (fun _ h => h)))
  have H2 : Hid (∀ k, k < w1.heap.size → k < w2.heap.size) := Lib.hid (fun k hk => Nat.lt_of_lt_of_le (by simp; omega) u2.size)
  clear hu2 hl2 h12 hok2 u2
  go_wp2_with (first
    | (refine wpList_load_mid rfl 60 _ rfl w1.heap.size 0 rfl vs _ A2.out Tryz.underlying60 rfl SV.out ?_))
  refine (putX17 L2.out H2.out HW.out.okay).mono ?_
  rintro e w3 ⟨A3, n3, c3, rfl, hn3, hu3, hb3⟩
  have E3 : Hid (Upd (fun _ _ => False) w w3) := Lib.hid (E2.out.trans hu3)
  have D3 : Hid (Bts (fun k => k < w.heap.size) w3 A n B) := Lib.hid (D0.out.keep (fun _ h => h) (fun q _ hq => E3.out.block q hq (fun _ h => h)))
  have B3 := Lib.hid hb3
  clear hu3 hb3 D1 H1 A1 L1 A2 L2 H2 E1 E2 Da3 Ha3 SV CV OV
  go_upto_region 19 with (fail)
  go_cut [140] from 13 (fun v w' => v = .bool false ∧ Upd (fun _ _ => False) w w')
  case first =>
    cases ok2 with
    | false =>
      go_wp2_with fail
      go_meet
      case rel => exact ⟨rfl, E3.out⟩
    | true =>
      have hsame := HW.out.same rfl
      go_wp2_with fail
      refine (same (c := c3) (c' := c) B3.out D3.out).mono ?_
      rintro e w4 ⟨t4, rfl, hu4, h4⟩
      obtain rfl : t4 = true := h4.2 hsame
      have E4 := Lib.hid (E3.out.trans hu4)
      clear hu4 h4 hsame
      go_wp2_with fail
      go_meet
      case rel => exact ⟨rfl, E4.out⟩
  obtain ⟨hv, hcut⟩ := hcut
  subst hv
  have E40 := Lib.hid hcut
  obtain ⟨wb4, hwb⟩ : ∃ w', w' = wc := ⟨_, rfl⟩
  rw [← hwb] at E40 ⊢
  clear hcut hwb E3 D3 B3 HW
  have Da4 : Hid (Bts (fun k => k < w.heap.size) wb4 A n B) := Lib.hid (D0.out.keep (fun _ h => h) (fun q _ hq => E40.out.block q hq (fun _ h => h)))
  have Ha4 : Hid (∀ k, k < w.heap.size → k < wb4.heap.size) := Lib.hid (fun k hk => Nat.lt_of_lt_of_le hk E40.out.size)
  go_wp2_with fail
  refine (getX18 Da4.out hn Ha4.out).mono ?_
  rintro e w1 ⟨vs, x, ok, rfl, hu, hL, hW⟩
  have hl := Lay.len _ hL
  have hlv : vs.length = 9 := hl
  have SV : Hid ((Tryz.prog.info? 70).map (·.size) = some vs.toArray.size) := Lib.hid (by show _ = some vs.length; rw [hlv]; exact Tryz.sz70)
  have CV : Hid (9 = vs.toArray.size) := Lib.hid hlv.symm
  have OV := Lib.hid (all_oneCell_toArray (Lay.one _ hL))
  have E1 : Hid (Upd (fun _ _ => False) w (w1.alloc (.cells vs.toArray 70))) := Lib.hid ((E40.out.trans hu).alloc _)
  have D1 : Hid (Bts (fun k => k < w.heap.size) (w1.alloc (.cells vs.toArray 70)) A n B) := Lib.hid (D0.out.keep (fun _ h => h) (fun q _ hq => E1.out.block q hq (fun _ h => h)))
  have H1 : Hid (∀ k, k < w.heap.size → k < (w1.alloc (.cells vs.toArray 70)).heap.size) := Lib.hid (fun k hk => Nat.lt_of_lt_of_le hk E1.out.size)
  have A1 : Hid (At (w1.alloc (.cells vs.toArray 70)) w1.heap.size 0 vs) := Lib.hid (At.new w1 vs.toArray 70)
  have L1 : Hid (Lay schStore (fun k => k < w1.heap.size) (w1.alloc (.cells vs.toArray 70)) vs x) := Lib.hid (Lay.keep _ (Lay.within _ hL) (fun k hk => hk.2) (fun k _ hk2 => Below.heap_alloc _ _ _ hk2))
  have HW := Lib.hid hW
  clear hu hL hW hl hlv
  go_wp2_with (refine wpList_store_new rfl 70 _ _ rfl rfl rfl SV.out CV.out OV.out ?_)
  refine (getR19 D1.out hn H1.out).mono ?_
  rintro e w2 ⟨us, ok2, rfl, hu2, hl2, h12, hok2⟩
  obtain rfl : ok2 = ok := bool_iff (whole_iff HW.out) hok2
  have u2 := hu2
  have E2 : Hid (Upd (fun _ _ => False) w w2) := Lib.hid (E1.out.trans u2)
  have A2 : Hid (At w2 w1.heap.size 0 vs) := Lib.hid (u2.at A1.out (fun _ _ h => h))
  have L2 : Hid (Lay schStore (fun k => k < w1.heap.size) w2 vs x) := Lib.hid (Lay.keep _ L1.out (fun _ h => h) (fun k _ hk2 => u2.block k hk2 (fun _ h => h)))
  have H2 : Hid (∀ k, k < w1.heap.size → k < w2.heap.size) := Lib.hid (fun k hk => Nat.lt_of_lt_of_le (by simp; omega) u2.size)
  clear hu2 hl2 h12 hok2 u2
  go_wp2_with (first
    | (refine wpList_load_mid rfl 70 _ rfl w1.heap.size 0 rfl vs _ A2.out Tryz.underlying70 rfl SV.out ?_))
  refine (putX20 L2.out H2.out HW.out.okay).mono ?_
  rintro e w3 ⟨A3, n3, c3, rfl, hn3, hu3, hb3⟩
  have E3 : Hid (Upd (fun _ _ => False) w w3) := Lib.hid (E2.out.trans hu3)
  have D3 : Hid (Bts (fun k => k < w.heap.size) w3 A n B) := Lib.hid (D0.out.keep (fun _ h => h) (fun q _ hq => E3.out.block q hq (fun _ h => h)))
  have B3 := Lib.hid hb3
  clear hu3 hb3 D1 H1 A1 L1 A2 L2 H2 E1 E2 Da4 Ha4 SV CV OV
  cases ok2 with
  | false =>
    go_wp2_with fail
    go_ret
    exact ⟨true, rfl, E3.out, by simp⟩
  | true =>
    have hsame := HW.out.same rfl
    go_wp2_with fail
    refine (same (c := c3) (c' := c) B3.out D3.out).mono ?_
    rintro e w4 ⟨t4, rfl, hu4, h4⟩
    obtain rfl : t4 = true := h4.2 hsame
    have E4 := Lib.hid (E3.out.trans hu4)
    clear hu4 h4 hsame
    go_wp2_with fail
    go_ret
    exact ⟨true, rfl, E4.out, by simp⟩
end Go.Proofs
