/- The document and the program read and write the same. -/
import Derived.Test.YthclnpigplcckaaGreatProg
import Derived.Test.YthclnpigplcckaaGreatLibs
import Derived.WalkSpells
import Derived.WalkLawsBesides
import Derived.Deep.LoopGhost
import Derived.Lib.Hide
import Derived.Deep.RegionWith
import Derived.Maps.AppendAt
import Derived.KernelRfl
set_option linter.unusedSimpArgs false
set_option linter.unusedVariables false

set_option linter.unusedSimpArgs false
namespace Go.Proofs
open Go Go.RowKit Cod

set_option maxRecDepth 100000 in
set_option maxHeartbeats 1000000 in
theorem told {w : World} {bf : Nat} {A : Option Addr} {n c : Nat} (h0 : w.cell? ⟨bf, 0, none⟩ = some (.slice A n c)) (h1 : w.cell? ⟨bf, 1, none⟩ = some (.bool false)) :
    Calls Tryz.prog 63 #[.pointer (some ⟨bf, 0, none⟩)] w (fun e w' => e = .returned (.tuple #[.slice A n c, .int .i64 0]) ∧ w' = w) := by
  go_enter Tryz.func63, Tryz.ntmps63
  go_wp2_with fail
  go_ret2
  exact ⟨rfl, rfl⟩

set_option maxRecDepth 100000 in
set_option maxHeartbeats 1000000 in
theorem done {F : Nat → Prop} {w : World} {bx : Nat} {B : List UInt8} {bad : Bool} (h : InR F w bx B bad) :
    Calls Tryz.prog 25 #[.pointer (some ⟨bx, 0, none⟩)] w (Says (bad = false ∧ B = []) w) := by
  obtain ⟨A, n, c, c0, c1, f0, f1, hn, hb⟩ := h.cells
  have hl := hb.1
  clear h hb f0 f1 hn
  go_enter Tryz.func25, Tryz.ntmps25
  cases bad
  all_goals
    by_cases h0 : n = 0
    all_goals
      go_wp2_with fail
      go_ret
      refine ⟨_, rfl, Upd.refl _ _, ?_⟩
      simp only [← List.length_eq_zero_iff, hl]
      simp [h0]

set_option maxRecDepth 100000 in
set_option maxHeartbeats 1000000 in
theorem same {F F' : Nat → Prop} {w : World} {A A' : Option Addr} {n n' c c' : Nat} {l l' : List UInt8} (h : Bts F w A n l) (h' : Bts F' w A' n' l') :
    Calls Tryz.prog 7 #[.slice A n c, .slice A' n' c'] w (Says (l = l') w) := by
  have H := Lib.hid h
  have H' := Lib.hid h'
  have hl := h.1
  have hl' := h'.1
  have hm := h.2.1
  clear h h'
  go_enter Tryz.func7, Tryz.ntmps7
  by_cases hn : n = n'
  · subst hn
    go_wp2_with fail
    go_loopw [5] (fun i wr => ∃ (j : Nat), j ≤ n ∧ i = .int .i64 j ∧ Upd (fun _ _ => False) w wr ∧ l.take j = l'.take j) (fun i _ => n - (intOf i).toNat)
    case atStart => exact ⟨0, by omega, rfl, Upd.refl _ _, by simp⟩
    case round =>
      obtain ⟨j, hj, rfl, hu, ht⟩ := hrel
      have HT := Lib.hid ht
      have HU := Lib.hid hu
      have H1 := Lib.hid (H.out.keep (fun _ h => h) (fun q _ hq => hu.block q hq (fun _ h => h)))
      have H2 := Lib.hid (H'.out.keep (fun _ h => h) (fun q _ hq => hu.block q hq (fun _ h => h)))
      clear ht hu
      by_cases hjn : j < n
      · obtain ⟨b, o, hA, hlj, hb⟩ := H1.out.byte hjn
        obtain ⟨b', o', hA', hlj', hb'⟩ := H2.out.byte hjn
        subst hA
        subst hA'
        obtain ⟨x, hx, hbx⟩ : ∃ x : Nat, Hid (x = (l[j]).toNat) ∧ wr.cell? ⟨b, o + j, none⟩ = some (.int .u8 (x : Int)) := ⟨_, Lib.hid rfl, hb⟩
        obtain ⟨x', hx', hbx'⟩ : ∃ x : Nat, Hid (x = (l'[j]).toNat) ∧ wr.cell? ⟨b', o' + j, none⟩ = some (.int .u8 (x : Int)) := ⟨_, Lib.hid rfl, hb'⟩
        clear hb hb'
        by_cases he : x = x'
        · subst he
          go_wp2_with fail
          go_region
          all_goals
            go_wp2_with fail
            go_roundw
            case rel =>
              refine ⟨j + 1, by omega, by go_num, HU.out.drew, ?_⟩
              rw [List.take_succ_eq_append_getElem hlj, List.take_succ_eq_append_getElem hlj', HT.out]
              congr 2
              exact UInt8.toNat_inj.1 (hx.out.symm.trans hx'.out)
            case measure => simp [intOf]; omega
        · have he' : ((x : Int) == (x' : Int)) = false := by simp; omega
          go_wp2_with fail
          go_region
          all_goals
            go_wp2_with fail
            go_ret
            refine ⟨false, rfl, HU.out.drew, ⟨(fun h => nomatch h), fun h => ?_⟩⟩
            subst h
            exact absurd (hx.out.trans hx'.out.symm) he
      · go_wp2_with fail
        go_ret
        refine ⟨true, rfl, HU.out, ⟨fun _ => ?_, fun _ => rfl⟩⟩
        have := HT.out
        rwa [List.take_of_length_le (by omega), List.take_of_length_le (by omega)] at this
  · go_wp2_with fail
    go_ret
    refine ⟨false, rfl, Upd.refl _ _, ?_⟩
    simp only [Bool.false_eq_true, false_iff]
    intro h
    subst h
    omega
end Go.Proofs
