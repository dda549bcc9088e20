/- Put functions of the kinds. -/
import Derived.Test.YthclnpigplcckaaGreatProg
import Derived.Test.YthclnpigplcckaaGreatLibs
import Derived.Test.YthclnpigplcckaaGreatWh
import Derived.Test.YthclnpigplcckaaGreatGa
import Derived.WalkSpells
import Derived.WalkLawsBesides
import Derived.Deep.LoopGhost
import Derived.Lib.Hide
import Derived.Deep.RegionWith
import Derived.Maps.AppendAt
import Derived.KernelRfl
import Derived.Test.YthclnpigplcckaaGreatGb
set_option linter.unusedSimpArgs false
set_option linter.unusedVariables false

set_option linter.unusedSimpArgs false
namespace Go.Proofs
open Go Go.RowKit Cod

set_option maxRecDepth 100000 in
set_option maxHeartbeats 1000000 in
theorem put26 {F : Nat → Prop} {w : World} {vs : List Value} {x : Ty schCmd} (hL : Lay schCmd F w vs x) (hF : ∀ k, F k → k < w.heap.size) (ho : Cod.okay schCmd x = true) :
    Calls Tryz.prog 26 #[.agg vs.toArray, .func (.func 22) #[] #[]] w (PutPost (enc schCmd x) w) := by
  have HL := Lib.hid hL
  have HF := Lib.hid hF
  have HO := Lib.hid ho
  clear hL hF ho
  go_enter Tryz.func26, Tryz.ntmps26
  go_wp2_with fail
  refine (cmd_wr (w.heap.size + 2) F _ (w.heap.size + 1) w.heap.size 0 (.slice none 0 0) [] x (WoH.start HL.out HF.out HO.out (by decide) _ _)).mono ?_
  rintro e w1 ⟨rfl, v1, p⟩
  have c0 := p.form.cell
  have c2 := p.form.flag 1 (by omega)
  obtain ⟨A, n, c, rfl, h⟩ := p.put
  have HP := Lib.hid h
  clear p h
  go_wp2_with fail
  go_ret2
  exact HP.out

set_option maxRecDepth 100000 in
set_option maxHeartbeats 1000000 in
theorem putX6 {F : Nat → Prop} {w : World} {vs : List Value} {x : Ty schCmd} (hL : Lay schCmd F w vs x) (hF : ∀ k, F k → k < w.heap.size) (ho : Cod.okay schCmd x = true) :
    Calls Tryz.prog 6 #[.agg vs.toArray] w (PutPost (enc schCmd x) w) := by
  have HL := Lib.hid hL
  have HF := Lib.hid hF
  have HO := Lib.hid ho
  have hlv : vs.length = 27 := Lay.len _ hL
  have SV : Hid ((Tryz.prog.info? 38).map (·.size) = some vs.length) := Lib.hid (by rw [hlv]; exact Tryz.sz38)
  have HA : Hid (At (w.alloc (.cells vs.toArray 38)) w.heap.size 0 vs) := Lib.hid (At.new w vs.toArray 38)
  clear hL hF ho hlv
  go_enter Tryz.func6, Tryz.ntmps6
  go_wp2_with (refine wpList_load_mid rfl 38 (.tmp 1) rfl w.heap.size 0 rfl vs _ HA.out Tryz.underlying38 rfl SV.out ?_)
  refine (put26 (F := F) (Lay.keep _ HL.out (fun _ h => h) (fun q hq _ => Below.heap_alloc _ _ _ (HF.out q hq))) (fun q hq => by have := HF.out q hq; simp; omega) HO.out).mono ?_
  intro e w1 h
  have HP := Lib.hid h.up
  obtain ⟨A, n, c, rfl, _⟩ := h
  go_wp2_with fail
  go_ret2
  exact HP.out
end Go.Proofs

set_option linter.unusedSimpArgs false
namespace Go.Proofs
open Go Go.RowKit Cod

set_option maxRecDepth 100000 in
set_option maxHeartbeats 1000000 in
theorem put33 {F : Nat → Prop} {w : World} {vs : List Value} {x : Ty schEntry} (hL : Lay schEntry F w vs x) (hF : ∀ k, F k → k < w.heap.size) (ho : Cod.okay schEntry x = true) :
    Calls Tryz.prog 33 #[.agg vs.toArray, .func (.func 30) #[] #[]] w (PutPost (enc schEntry x) w) := by
  have HL := Lib.hid hL
  have HF := Lib.hid hF
  have HO := Lib.hid ho
  clear hL hF ho
  go_enter Tryz.func33, Tryz.ntmps33
  go_wp2_with fail
  refine (entry_wr (w.heap.size + 2) F _ (w.heap.size + 1) w.heap.size 0 (.slice none 0 0) [] x (WoH.start HL.out HF.out HO.out (by decide) _ _)).mono ?_
  rintro e w1 ⟨rfl, v1, p⟩
  have c0 := p.form.cell
  have c2 := p.form.flag 1 (by omega)
  obtain ⟨A, n, c, rfl, h⟩ := p.put
  have HP := Lib.hid h
  clear p h
  go_wp2_with fail
  go_ret2
  exact HP.out

set_option maxRecDepth 100000 in
set_option maxHeartbeats 1000000 in
theorem putX11 {F : Nat → Prop} {w : World} {vs : List Value} {x : Ty schEntry} (hL : Lay schEntry F w vs x) (hF : ∀ k, F k → k < w.heap.size) (ho : Cod.okay schEntry x = true) :
    Calls Tryz.prog 11 #[.agg vs.toArray] w (PutPost (enc schEntry x) w) := by
  have HL := Lib.hid hL
  have HF := Lib.hid hF
  have HO := Lib.hid ho
  have hlv : vs.length = 29 := Lay.len _ hL
  have SV : Hid ((Tryz.prog.info? 47).map (·.size) = some vs.length) := Lib.hid (by rw [hlv]; exact Tryz.sz47)
  have HA : Hid (At (w.alloc (.cells vs.toArray 47)) w.heap.size 0 vs) := Lib.hid (At.new w vs.toArray 47)
  clear hL hF ho hlv
  go_enter Tryz.func11, Tryz.ntmps11
  go_wp2_with (refine wpList_load_mid rfl 47 (.tmp 1) rfl w.heap.size 0 rfl vs _ HA.out Tryz.underlying47 rfl SV.out ?_)
  refine (put33 (F := F) (Lay.keep _ HL.out (fun _ h => h) (fun q hq _ => Below.heap_alloc _ _ _ (HF.out q hq))) (fun q hq => by have := HF.out q hq; simp; omega) HO.out).mono ?_
  intro e w1 h
  have HP := Lib.hid h.up
  obtain ⟨A, n, c, rfl, _⟩ := h
  go_wp2_with fail
  go_ret2
  exact HP.out
end Go.Proofs

set_option linter.unusedSimpArgs false
namespace Go.Proofs
open Go Go.RowKit Cod

set_option maxRecDepth 100000 in
set_option maxHeartbeats 1000000 in
theorem put38 {F : Nat → Prop} {w : World} {vs : List Value} {x : Ty schMsg} (hL : Lay schMsg F w vs x) (hF : ∀ k, F k → k < w.heap.size) (ho : Cod.okay schMsg x = true) :
    Calls Tryz.prog 38 #[.agg vs.toArray, .func (.func 35) #[] #[]] w (PutPost (enc schMsg x) w) := by
  have HL := Lib.hid hL
  have HF := Lib.hid hF
  have HO := Lib.hid ho
  clear hL hF ho
  go_enter Tryz.func38, Tryz.ntmps38
  go_wp2_with fail
  refine (msg_wr (w.heap.size + 2) F _ (w.heap.size + 1) w.heap.size 0 (.slice none 0 0) [] x (WoH.start HL.out HF.out HO.out (by decide) _ _)).mono ?_
  rintro e w1 ⟨rfl, v1, p⟩
  have c0 := p.form.cell
  have c2 := p.form.flag 1 (by omega)
  obtain ⟨A, n, c, rfl, h⟩ := p.put
  have HP := Lib.hid h
  clear p h
  go_wp2_with fail
  go_ret2
  exact HP.out

set_option maxRecDepth 100000 in
set_option maxHeartbeats 1000000 in
theorem putX14 {F : Nat → Prop} {w : World} {vs : List Value} {x : Ty schMsg} (hL : Lay schMsg F w vs x) (hF : ∀ k, F k → k < w.heap.size) (ho : Cod.okay schMsg x = true) :
    Calls Tryz.prog 14 #[.agg vs.toArray] w (PutPost (enc schMsg x) w) := by
  have HL := Lib.hid hL
  have HF := Lib.hid hF
  have HO := Lib.hid ho
  have hlv : vs.length = 46 := Lay.len _ hL
  have SV : Hid ((Tryz.prog.info? 55).map (·.size) = some vs.length) := Lib.hid (by rw [hlv]; exact Tryz.sz55)
  have HA : Hid (At (w.alloc (.cells vs.toArray 55)) w.heap.size 0 vs) := Lib.hid (At.new w vs.toArray 55)
  clear hL hF ho hlv
  go_enter Tryz.func14, Tryz.ntmps14
  go_wp2_with (refine wpList_load_mid rfl 55 (.tmp 1) rfl w.heap.size 0 rfl vs _ HA.out Tryz.underlying55 rfl SV.out ?_)
  refine (put38 (F := F) (Lay.keep _ HL.out (fun _ h => h) (fun q hq _ => Below.heap_alloc _ _ _ (HF.out q hq))) (fun q hq => by have := HF.out q hq; simp; omega) HO.out).mono ?_
  intro e w1 h
  have HP := Lib.hid h.up
  obtain ⟨A, n, c, rfl, _⟩ := h
  go_wp2_with fail
  go_ret2
  exact HP.out
end Go.Proofs

set_option linter.unusedSimpArgs false
namespace Go.Proofs
open Go Go.RowKit Cod

set_option maxRecDepth 100000 in
set_option maxHeartbeats 1000000 in
theorem put43 {F : Nat → Prop} {w : World} {vs : List Value} {x : Ty schSnapshot} (hL : Lay schSnapshot F w vs x) (hF : ∀ k, F k → k < w.heap.size) (ho : Cod.okay schSnapshot x = true) :
    Calls Tryz.prog 43 #[.agg vs.toArray, .func (.func 40) #[] #[]] w (PutPost (enc schSnapshot x) w) := by
  have HL := Lib.hid hL
  have HF := Lib.hid hF
  have HO := Lib.hid ho
  clear hL hF ho
  go_enter Tryz.func43, Tryz.ntmps43
  go_wp2_with fail
  refine (snapshot_wr (w.heap.size + 2) F _ (w.heap.size + 1) w.heap.size 0 (.slice none 0 0) [] x (WoH.start HL.out HF.out HO.out (by decide) _ _)).mono ?_
  rintro e w1 ⟨rfl, v1, p⟩
  have c0 := p.form.cell
  have c2 := p.form.flag 1 (by omega)
  obtain ⟨A, n, c, rfl, h⟩ := p.put
  have HP := Lib.hid h
  clear p h
  go_wp2_with fail
  go_ret2
  exact HP.out

set_option maxRecDepth 100000 in
set_option maxHeartbeats 1000000 in
theorem putX17 {F : Nat → Prop} {w : World} {vs : List Value} {x : Ty schSnapshot} (hL : Lay schSnapshot F w vs x) (hF : ∀ k, F k → k < w.heap.size) (ho : Cod.okay schSnapshot x = true) :
    Calls Tryz.prog 17 #[.agg vs.toArray] w (PutPost (enc schSnapshot x) w) := by
  have HL := Lib.hid hL
  have HF := Lib.hid hF
  have HO := Lib.hid ho
  have hlv : vs.length = 5 := Lay.len _ hL
  have SV : Hid ((Tryz.prog.info? 60).map (·.size) = some vs.length) := Lib.hid (by rw [hlv]; exact Tryz.sz60)
  have HA : Hid (At (w.alloc (.cells vs.toArray 60)) w.heap.size 0 vs) := Lib.hid (At.new w vs.toArray 60)
  clear hL hF ho hlv
  go_enter Tryz.func17, Tryz.ntmps17
  go_wp2_with (refine wpList_load_mid rfl 60 (.tmp 1) rfl w.heap.size 0 rfl vs _ HA.out Tryz.underlying60 rfl SV.out ?_)
  refine (put43 (F := F) (Lay.keep _ HL.out (fun _ h => h) (fun q hq _ => Below.heap_alloc _ _ _ (HF.out q hq))) (fun q hq => by have := HF.out q hq; simp; omega) HO.out).mono ?_
  intro e w1 h
  have HP := Lib.hid h.up
  obtain ⟨A, n, c, rfl, _⟩ := h
  go_wp2_with fail
  go_ret2
  exact HP.out
end Go.Proofs

set_option linter.unusedSimpArgs false
namespace Go.Proofs
open Go Go.RowKit Cod

set_option maxRecDepth 100000 in
set_option maxHeartbeats 1000000 in
theorem put48 {F : Nat → Prop} {w : World} {vs : List Value} {x : Ty schStore} (hL : Lay schStore F w vs x) (hF : ∀ k, F k → k < w.heap.size) (ho : Cod.okay schStore x = true) :
    Calls Tryz.prog 48 #[.agg vs.toArray, .func (.func 45) #[] #[]] w (PutPost (enc schStore x) w) := by
  have HL := Lib.hid hL
  have HF := Lib.hid hF
  have HO := Lib.hid ho
  clear hL hF ho
  go_enter Tryz.func48, Tryz.ntmps48
  go_wp2_with fail
  refine (store_wr (w.heap.size + 2) F _ (w.heap.size + 1) w.heap.size 0 (.slice none 0 0) [] x (WoH.start HL.out HF.out HO.out (by decide) _ _)).mono ?_
  rintro e w1 ⟨rfl, v1, p⟩
  have c0 := p.form.cell
  have c2 := p.form.flag 1 (by omega)
  obtain ⟨A, n, c, rfl, h⟩ := p.put
  have HP := Lib.hid h
  clear p h
  go_wp2_with fail
  go_ret2
  exact HP.out

set_option maxRecDepth 100000 in
set_option maxHeartbeats 1000000 in
theorem putX20 {F : Nat → Prop} {w : World} {vs : List Value} {x : Ty schStore} (hL : Lay schStore F w vs x) (hF : ∀ k, F k → k < w.heap.size) (ho : Cod.okay schStore x = true) :
    Calls Tryz.prog 20 #[.agg vs.toArray] w (PutPost (enc schStore x) w) := by
  have HL := Lib.hid hL
  have HF := Lib.hid hF
  have HO := Lib.hid ho
  have hlv : vs.length = 9 := Lay.len _ hL
  have SV : Hid ((Tryz.prog.info? 70).map (·.size) = some vs.length) := Lib.hid (by rw [hlv]; exact Tryz.sz70)
  have HA : Hid (At (w.alloc (.cells vs.toArray 70)) w.heap.size 0 vs) := Lib.hid (At.new w vs.toArray 70)
  clear hL hF ho hlv
  go_enter Tryz.func20, Tryz.ntmps20
  go_wp2_with (refine wpList_load_mid rfl 70 (.tmp 1) rfl w.heap.size 0 rfl vs _ HA.out Tryz.underlying70 rfl SV.out ?_)
  refine (put48 (F := F) (Lay.keep _ HL.out (fun _ h => h) (fun q hq _ => Below.heap_alloc _ _ _ (HF.out q hq))) (fun q hq => by have := HF.out q hq; simp; omega) HO.out).mono ?_
  intro e w1 h
  have HP := Lib.hid h.up
  obtain ⟨A, n, c, rfl, _⟩ := h
  go_wp2_with fail
  go_ret2
  exact HP.out
end Go.Proofs
