/- The document's reader, its first functions. -/
import Derived.Test.YthclnpigplcckaaGreatProg
import Derived.Test.YthclnpigplcckaaGreatLibs
import Derived.WalkSpells
import Derived.WalkLawsBesides
import Derived.Deep.LoopGhost
import Derived.Lib.Hide
import Derived.Deep.RegionWith
import Derived.Maps.AppendAt
import Derived.KernelRfl
set_option linter.unusedSimpArgs false
set_option linter.unusedVariables false

set_option linter.unusedSimpArgs false
namespace Go.Proofs
open Go Go.RowKit Cod

set_option maxRecDepth 100000 in
set_option maxHeartbeats 1000000 in
theorem in_in {w : World} {bx : Nat} {n : Int} {bad : Bool} (h1 : w.cell? ⟨bx, 1, none⟩ = some (.bool bad)) (f1 : w.frozen? ⟨bx, 1, none⟩ = false) :
    Calls Tryz.prog 96 #[.pointer (some ⟨bx, 0, none⟩), .int .i64 n] w (InIn w bx n) := by
  go_enter Tryz.func96, Tryz.ntmps96
  go_wp2_with fail
  all_goals
    go_ret
    first
    | exact ⟨_, rfl, .inl ⟨(inR_iff _).2 (by omega), rfl, rfl⟩⟩
    | exact ⟨_, rfl, .inr ⟨inR_no (by omega), rfl, rfl⟩⟩

theorem in_in' {w : World} {bx : Nat} {n m : Int} {bad : Bool} (h : m = n) (h1 : w.cell? ⟨bx, 1, none⟩ = some (.bool bad)) (f1 : w.frozen? ⟨bx, 1, none⟩ = false) :
    Calls Tryz.prog 96 #[.pointer (some ⟨bx, 0, none⟩), .int .i64 m] w (InIn w bx n) := h ▸ in_in h1 f1

set_option maxRecDepth 100000 in
set_option maxHeartbeats 1000000 in
theorem in_full {F : Nat → Prop} {w : World} {bf bd od c : Nat} {B : List UInt8} {bad : Bool} (hf : Hid (InR F w bf B bad)) (hF : Hid (¬ F bf)) (hbt : Hid (Bts F w (some ⟨bd, od, none⟩) B.length B))
    (_hB : B.length ≤ 9223372036854775807) (hc : B.length ≤ c)
    (h0 : w.cell? ⟨bf, 0, none⟩ = some (.slice (some ⟨bd, od, none⟩) B.length c))
    (h1 : w.cell? ⟨bf, 1, none⟩ = some (.bool bad))
    (f0 : w.frozen? ⟨bf, 0, none⟩ = false) (f1 : w.frozen? ⟨bf, 1, none⟩ = false)
    (hd : Hid (∀ i, (hi : i < B.length) → w.cell? ⟨bd, od + i, none⟩ = some (.int .u8 ((B[i]).toNat : Int)))) :
    Calls Tryz.prog 56 #[.pointer (some ⟨bf, 0, none⟩)] w (InNPost F w bf B bad) := by
  go_enter Tryz.func56, Tryz.ntmps56
  go_wp2_with fail
  go_loop [3, 4] (fun u i => ∃ (k acc : Nat), k ≤ 6 ∧ i = .int .i64 k ∧ u = .int .i64 acc ∧ Acc B k acc) (fun _ i => 6 - (intOf i).toNat)
  case atStart => exact ⟨0, 0, by omega, rfl, rfl, Acc.zero B⟩
  case round =>
    obtain ⟨k, acc, hk, rfl, rfl, hacc⟩ := hrel
    have hacc' := Lib.hid hacc
    clear hacc
    by_cases h6 : k < 6
    · by_cases hl : k < B.length
      · obtain ⟨x, hxd, hlt, hb⟩ : ∃ x : Nat, Hid (x = (B[k]).toNat) ∧ x < 256 ∧ w.cell? ⟨bd, od + k, none⟩ = some (.int .u8 (x : Int)) := ⟨_, Lib.hid rfl, (B[k]).toNat_lt, hd.out k hl⟩
        obtain ⟨U, hUd, hUlt, hU⟩ : ∃ U : Nat, Hid (U = acc + 128 ^ k * (x % 128)) ∧ U < 4398046511104 ∧ wrap64 ((acc : Int) + wrap64 ((x : Int) % 128 * 2 ^ (7 * k))) = (U : Int) :=
          ⟨_, Lib.hid rfl, Last.small hacc'.out h6, add_step acc x k h6 hacc'.out.2.1 hlt⟩
        by_cases hx : x < 128
        · have HL : Hid (Last B k acc x U) := ⟨hacc'.out, h6, hl, hxd.out, hx, hUd.out⟩
          have hz : ((x : Int) == 0) = decide (x = 0) := by rw [Bool.eq_iff_iff]; simp
          by_cases hcap : c = k + 1
          all_goals
            by_cases hodd : U % 2 = 1
            · cases bad
              all_goals
                by_cases hk0 : 0 < k
                all_goals
                  go_wp2_with fail
                  refine (in_in' (odd_step hodd hUlt) (cell_after h1) (frozen_after f1)).mono ?_
                  intro e w1 hi
                  have HI := Lib.hid hi
                  obtain ⟨v, rfl, _⟩ := hi
                  go_wp2_with fail
                  go_ret
                  exact in_last hf.out hF.out hbt.out hc HL.out (by simp [hcap]) rfl (by omega) (by first | (simp; done) | (simp; omega)) HI.out
            · cases bad
              all_goals
                by_cases hk0 : 0 < k
                all_goals
                  go_wp2_with fail
                  refine (in_in' (even_step hodd) (cell_after h1) (frozen_after f1)).mono ?_
                  intro e w1 hi
                  have HI := Lib.hid hi
                  obtain ⟨v, rfl, _⟩ := hi
                  go_wp2_with fail
                  go_ret
                  exact in_last hf.out hF.out hbt.out hc HL.out (by simp [hcap]) rfl (by omega) (by first | (simp; done) | (simp; omega)) HI.out
        · go_wp2_with fail
          go_round
          case rel => exact ⟨k + 1, U, by omega, by go_num, congrArg _ hU, by
            have := hacc'.out.more hl (by rw [← hxd.out]; omega)
            rw [← hxd.out] at this
            rw [hUd.out, show x % 128 = x - 128 by omega]
            exact this⟩
          case measure => simp [intOf]; omega
      · go_wp2_with fail
        go_ret
        exact in_short hf.out hF.out hacc'.out (by have := hacc'.out.1; omega)
    · go_wp2_with fail
      all_goals
        go_ret
        exact in_short hf.out hF.out hacc'.out (by have := hacc'.out.1; omega)

set_option maxRecDepth 100000 in
set_option maxHeartbeats 1000000 in
theorem in_empty {F : Nat → Prop} {w : World} {bf c : Nat} {A : Option Addr} {bad : Bool} (hf : Hid (InR F w bf [] bad)) (hF : Hid (¬ F bf))
    (h0 : w.cell? ⟨bf, 0, none⟩ = some (.slice A 0 c)) (h1 : w.cell? ⟨bf, 1, none⟩ = some (.bool bad)) (f0 : w.frozen? ⟨bf, 0, none⟩ = false) (f1 : w.frozen? ⟨bf, 1, none⟩ = false) :
    Calls Tryz.prog 56 #[.pointer (some ⟨bf, 0, none⟩)] w (InNPost F w bf [] bad) := by
  go_enter Tryz.func56, Tryz.ntmps56
  go_wp2_with fail
  go_loop [3, 4] (fun u i => i = .int .i64 0 ∧ u = .int .i64 0) (fun _ _ => 0)
  case atStart => exact ⟨rfl, rfl⟩
  case round =>
    obtain ⟨rfl, rfl⟩ := hrel
    go_wp2_with fail
    go_ret
    exact in_short hf.out hF.out (Acc.zero []) (by simp)

theorem in_c {F : Nat → Prop} {w : World} {bf : Nat} {B : List UInt8} {bad : Bool} (h : InR F w bf B bad) (hF : ¬ F bf) :
    Calls Tryz.prog 56 #[.pointer (some ⟨bf, 0, none⟩)] w (InNPost F w bf B bad) := by
  obtain ⟨A, n, c, c0, c1, f0, f1, hn, hb⟩ := h.cells
  rcases Nat.eq_zero_or_pos n with h0 | h0
  · subst h0
    have e : B = [] := List.eq_nil_of_length_eq_zero hb.1
    subst e
    exact in_empty h hF c0 c1 f0 f1
  · obtain ⟨b, o, rfl, hFb, hA⟩ := hb.2.2 h0
    obtain rfl := hb.1
    refine in_full h hF hb hb.2.1 hn c0 c1 f0 f1 (fun i hi => ?_)
    exact hA i _ (by rw [List.getElem?_map, List.getElem?_eq_getElem hi]; rfl)
end Go.Proofs
