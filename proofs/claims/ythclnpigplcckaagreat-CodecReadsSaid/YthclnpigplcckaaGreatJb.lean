/- The document's reader, its first functions. -/
import Derived.Test.YthclnpigplcckaaGreatProg
import Derived.Test.YthclnpigplcckaaGreatLibs
import Derived.Test.YthclnpigplcckaaGreatJa
import Derived.Test.YthclnpigplcckaaGreatRb
import Derived.Test.YthclnpigplcckaaGreatWa
import Derived.WalkSpells
import Derived.WalkLawsBesides
import Derived.Deep.LoopGhost
import Derived.Lib.Hide
import Derived.Deep.RegionWith
import Derived.Maps.AppendAt
import Derived.KernelRfl
set_option linter.unusedSimpArgs false
set_option linter.unusedVariables false

set_option linter.unusedSimpArgs false
namespace Go.Proofs
open Go Go.RowKit Cod

set_option maxRecDepth 100000 in
set_option maxHeartbeats 1000000 in
theorem in_flag {F : Nat → Prop} {w : World} {bx : Nat} {B : List UInt8} {bad : Bool} (h : InH F w bx B bad) :
    Calls Tryz.prog 72 #[.pointer (some ⟨bx, 0, none⟩)] w (FlagPost F w bx B bad) := by
  have H := Lib.hid h
  clear h
  go_enter Tryz.func72, Tryz.ntmps72
  go_wp2_with fail
  refine (in_c H.out.form H.out.nf).mono ?_
  rintro e w1 ⟨v, B', bad', rfl, hk⟩
  obtain ⟨A1, n1, c1, d0, d1, g0, g1, hn, hbt⟩ := hk.form.cells
  have HK := Lib.hid hk
  clear hk hbt d0 g0
  cases bad'
  all_goals
    go_wp2_with fail
    all_goals
      go_ret
      exact HK.out.flag H.out.nf (by first | (simp; done) | (simp; omega)) (by first | (simp; done) | (simp; omega))

set_option maxRecDepth 100000 in
set_option maxHeartbeats 1000000 in
theorem in_count {F : Nat → Prop} {w : World} {bx : Nat} {B : List UInt8} {bad : Bool} (h : InH F w bx B bad) :
    Calls Tryz.prog 59 #[.pointer (some ⟨bx, 0, none⟩)] w (CountPost F w bx B bad) := by
  have H := Lib.hid h
  clear h
  go_enter Tryz.func59, Tryz.ntmps59
  go_wp2_with fail
  refine (in_c H.out.form H.out.nf).mono ?_
  rintro e w1 ⟨v, B', bad', rfl, hk⟩
  obtain ⟨A1, n1, c1, d0, d1, g0, g1, hn, hbt⟩ := hk.form.cells
  have HK := Lib.hid hk
  clear hk hbt d0 g0
  go_wp2_with fail
  all_goals
    go_ret
    first
    | exact HK.out.count (by omega) (by omega)
    | exact HK.out.uncount H.out.nf (by omega)

/-- A list of numbers that is read. -/
def NumsPost (F : Nat → Prop) (w : World) (bx : Nat) (B : List UInt8) (bad : Bool) (e : Ending) (w' : World) : Prop :=
  ∃ (u : Value) (x : List Int) (B' : List UInt8) (bad' : Bool), e = .returned u ∧ InP (.list .num) F w w' bx B bad B' bad' [u] x

set_option maxRecDepth 100000 in
set_option maxHeartbeats 1000000 in
theorem in_nums {F : Nat → Prop} {w : World} {bx : Nat} {B : List UInt8} {bad : Bool} (h : InH F w bx B bad) (hold : ∀ k, F k → k < w.heap.size) :
    Calls Tryz.prog 98 #[.pointer (some ⟨bx, 0, none⟩)] w (NumsPost F w bx B bad) := by
  have H := Lib.hid h
  have HD := Lib.hid hold
  obtain ⟨i0, hi, hz0, hz1, hz2⟩ := info_parts Tryz.in3
  have HI := Lib.hid hi
  clear h hi hold
  go_enter Tryz.func98, Tryz.ntmps98
  go_wp2_with fail
  refine (in_count H.out).mono ?_
  rintro e w1 ⟨n, B1, bad1, rfl, hm⟩
  have hn64 := hm.le
  have HS : Hid (LsI (fun _ => False) .num 3 F w w1 bx B bad B1 bad1 n 0 (.slice none 0 0) [] []) := Lib.hid (.start (fun _ h => h.elim) H.out.lt (fun h => h) H.out.nf (fun _ _ h => h) HD.out hm)
  clear hm
  go_wp2_with fail
  go_loopw [4, 5] (fun u i wr => ∃ (j : Nat) (B' : List UInt8) (bad' : Bool) (cs : List Value) (xs : List Int), j ≤ n ∧ i = .int .i64 j ∧ LsI (fun _ => False) .num 3 F w wr bx B bad B' bad' n j u cs xs) (fun _ i _ => n - (intOf i).toNat)
  case atStart => exact ⟨0, B1, bad1, _, _, by omega, rfl, HS.out⟩
  case round =>
    obtain ⟨j, B2, bad2, cs, xs, hj, rfl, hS⟩ := hrel
    have HS2 := Lib.hid hS
    have hxl : xs.length = j := hS.len
    have hsz := hS.upd.size
    clear hS
    by_cases hjn : j < n
    · go_wp2_with fail
      refine (in_c HS2.out.form HS2.out.nf).mono ?_
      rintro e w2 ⟨y, B3, bad3, rfl, hk⟩
      have HK := Lib.hid hk.p
      have hown := HS2.out.ownAt hk.p
      have hs2 := hk.upd.size
      have HO := Lib.hid hown
      clear hk hown
      go_wp2_with (refine wpList_append_own_at _ rfl (.tmp 13) (.tmp 16) 31 rfl w.heap.size 3 i0 _ 1 8 Tryz.underlying31 HI.out hz0 hz1 hz2 rfl (by decide) _ xs.length cs rfl (HO.out.alloc _) ⟨w2.heap.size, 0, none⟩ 1 1 [.int .i64 y] rfl rfl (cell_one_new _ _ _) (by intro u hu; simp at hu; subst hu; rfl) (by unfold maxLen; omega) (by omega) (by simp; omega) ?_)
      intro v' w3 hown' hgrow _hx hat
      obtain ⟨A', c', rfl⟩ := own_form hown'
      have HO2 := Lib.hid hown'
      have HG := Lib.hid hgrow
      have HT := Lib.hid hat
      clear hown' hgrow hat
      go_wp2_with fail
      go_roundw
      case rel => exact ⟨j + 1, B3, bad3, cs ++ [.int .i64 y], xs ++ [y], by omega, by go_num, LsI.step HS2.out hjn HK.out (by rw [hxl]; exact HO2.out) HG.out HT.out⟩
      case measure => simp [intOf]; omega
    · go_wp2_with fail
      go_ret
      exact ⟨_, xs, B2, bad2, rfl, (HS2.out.done (by omega)).done ⟨H.out.nf, fun h => h, H.out.lt, HD.out, fun _ h => h.elim⟩⟩

set_option maxRecDepth 100000 in
set_option maxHeartbeats 1000000 in
theorem in_bytes {F : Nat → Prop} {w : World} {bx : Nat} {B : List UInt8} {bad : Bool} (h : InH F w bx B bad) :
    Calls Tryz.prog 73 #[.pointer (some ⟨bx, 0, none⟩)] w (BytesPost F w bx B bad) := by
  have H := Lib.hid h
  have hlt := h.lt
  clear h
  go_enter Tryz.func73, Tryz.ntmps73
  go_wp2_with fail
  refine (in_c H.out.form H.out.nf).mono ?_
  rintro e w1 ⟨v, B', bad', rfl, hk⟩
  obtain ⟨A1, n1, c1, d0, d1, g0, g1, hn, hbt⟩ := hk.form.cells
  have hl1 := hbt.1
  have hl2 := hbt.2.1
  have HB := Lib.hid hbt
  have HK := Lib.hid hk
  have hs1 := hk.upd.size
  have hrv := (inR_iff v).1 hk.ok
  clear hk hbt
  by_cases hv : v < 0 ∨ 65536 < v ∨ (n1 : Int) < v
  · go_wp2_with fail
    all_goals
      go_ret
      exact HK.out.unbytes H.out.nf (by omega)
  · obtain ⟨n, rfl⟩ : ∃ n : Nat, v = (n : Int) := ⟨v.toNat, by omega⟩
    obtain ⟨i0, hi, hz0, hz1, hz2⟩ := info_parts Tryz.by5
    have HI := Lib.hid hi
    clear hi
    by_cases h0 : n = 0
    · subst h0
      go_wp2_with (refine wpList_append_bts rfl _ _ 22 rfl w.heap.size 5 i0 _ Tryz.underlying22 HI.out hz0 hz1 hz2 rfl (.slice none 0 0) [] rfl (World.ownsRow_nil _ _ _ _) hs1 (F := F) (l := []) rfl (Bts.nil _ _ _) (by simp) ?_)
      intro v' w2 hown hg _
      obtain ⟨A', c', rfl⟩ := own_form hown
      have hown' : w2.ownsRow w.heap.size 5 1 (.slice A' 0 c') 0 ((B'.take 0).map u8) := by
        first
        | exact hown
        | (rw [List.map_take]; exact hown)
      have HO := Lib.hid hown'
      have HG := Lib.hid hg
      have hf1 : bx < w1.heap.size := Nat.lt_of_lt_of_le hlt hs1
      have hup : Upd (fun _ _ => False) w1 w2 := (Upd.refl _ w1).grownNew (row := none) hg (fun q hq => by cases hq)
      have e0 := (hup.cell bx 0 hf1 (fun h => h)).trans d0
      have e1 := (hup.frozen bx 0 hf1).trans g0
      clear hown hown' hg hup
      go_wp2_with fail
      all_goals
        go_ret
        exact HK.out.bytes H.out.nf hlt rfl (by omega) (by omega) HO.out HG.out (by simpa using HB.out) hn
    · obtain ⟨bd, od, rfl, hFd, hAd⟩ := HB.out.2.2 (by omega)
      have HT : Hid (Bts F w1 (some ⟨bd, od, none⟩) n (B'.take n)) := Lib.hid (HB.out.take n (by omega))
      clear hAd
      go_wp2_with (refine wpList_append_bts rfl _ _ 22 rfl w.heap.size 5 i0 _ Tryz.underlying22 HI.out hz0 hz1 hz2 rfl (.slice none 0 0) [] rfl (World.ownsRow_nil _ _ _ _) hs1 rfl HT.out (by simp; omega) ?_)
      intro v' w2 hown hg _
      obtain ⟨A', c', rfl⟩ := own_form hown
      have hown' : w2.ownsRow w.heap.size 5 1 (.slice A' n c') n ((B'.take n).map u8) := by
        first
        | exact hown
        | (rw [List.map_take]; exact hown)
      have HO := Lib.hid hown'
      have HG := Lib.hid hg
      have hf1 : bx < w1.heap.size := Nat.lt_of_lt_of_le hlt hs1
      have hup : Upd (fun _ _ => False) w1 w2 := (Upd.refl _ w1).grownNew (row := none) hg (fun q hq => by cases hq)
      have e0 := (hup.cell bx 0 hf1 (fun h => h)).trans d0
      have e1 := (hup.frozen bx 0 hf1).trans g0
      clear hown hown' hg hup
      go_wp2_with fail
      all_goals
        go_ret
        exact HK.out.bytes H.out.nf hlt rfl (by omega) (by omega) HO.out HG.out (HB.out.cut (fun _ => rfl) n (by omega) hn (by intro h; first | rfl | omega)) (by omega)
end Go.Proofs
