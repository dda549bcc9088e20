/- A part of the document's readers. -/
import Derived.Test.YthclnpigplcckaaGreatProg
import Derived.Test.YthclnpigplcckaaGreatLibs
import Derived.Test.YthclnpigplcckaaGreatZc
import Derived.Test.YthclnpigplcckaaGreatRg
import Derived.WalkSpells
import Derived.WalkLawsBesides
import Derived.Deep.LoopGhost
import Derived.Lib.Hide
import Derived.Deep.RegionWith
import Derived.Maps.AppendAt
import Derived.KernelRfl
set_option linter.unusedSimpArgs false
set_option linter.unusedVariables false

set_option linter.unusedSimpArgs false
namespace Go.Proofs
open Go Go.RowKit Cod

set_option maxRecDepth 100000 in
set_option maxHeartbeats 1000000 in
theorem in_jobs {F : Nat → Prop} {w : World} {bx : Nat} {B : List UInt8} {bad : Bool} (h : InH F w bx B bad) (hold : ∀ k, F k → k < w.heap.size) :
    Calls Tryz.prog 87 #[.pointer (some ⟨bx, 0, none⟩)] w (OnePost (.list schJob) F w bx B bad) := by
  have H := Lib.hid h
  have HD := Lib.hid hold
  obtain ⟨i0, hi, hz0, hz1, hz2⟩ := info_parts Tryz.in25
  have HI := Lib.hid hi
  clear h hi hold
  go_enter Tryz.func87, Tryz.ntmps87
  go_wp2_with fail
  refine (in_count H.out).mono ?_
  rintro e w1 ⟨n, B1, bad1, rfl, hm⟩
  have hn64 := hm.le
  have HS : Hid (LsI (fun _ => False) schJob 25 F w w1 bx B bad B1 bad1 n 0 (.slice none 0 0) [] []) := Lib.hid (.start (fun _ h => h.elim) H.out.lt (fun h => h) H.out.nf (fun _ _ h => h) HD.out hm)
  clear hm
  go_wp2_with fail
  go_loopw [4, 5] (fun u i wr => ∃ (j : Nat) (B' : List UInt8) (bad' : Bool) (cs : List Value) (xs : List (Ty schJob)), j ≤ n ∧ i = .int .i64 j ∧ LsI (fun _ => False) schJob 25 F w wr bx B bad B' bad' n j u cs xs) (fun _ i _ => n - (intOf i).toNat)
  case atStart => exact ⟨0, B1, bad1, _, _, by omega, rfl, HS.out⟩
  case round =>
    obtain ⟨j, B2, bad2, cs, xs, hj, rfl, hS⟩ := hrel
    have HS2 := Lib.hid hS
    have hxl : xs.length = j := hS.len
    have hsz := hS.upd.size
    have hold2 : ∀ k, F k → k < wr.heap.size := fun k hk => Nat.lt_of_lt_of_le (HD.out k hk) hsz
    have HD2 := Lib.hid hold2
    clear hS hold2
    by_cases hjn : j < n
    · go_wp2_with fail
      refine (in_job F _ bx _ _ HS2.out.h HD2.out).mono ?_
      rintro e w2 ⟨vs, y, B3, bad3, rfl, hk⟩
      have HK := Lib.hid hk
      have HO := Lib.hid (HS2.out.ownAt hk)
      have hs2 := hk.upd.size
      have hlen : vs.length = 7 := Lay.len _ hk.lay
      have hone := Lib.hid (Lay.one _ hk.lay)
      clear hk
      go_wp2_with (first
        | (refine wpList_build_one rfl 64 25 (.tmp 15) rfl rfl (n := 7) (by omega) (by omega) hlen Tryz.underlying64 (by rw [HI.out]; simp [hz0, hz1]) ?_)
        | (refine wpList_append_own_at _ rfl (.tmp 13) (.tmp 16) 64 rfl w.heap.size 25 i0 _ 7 72 Tryz.underlying64 HI.out hz0 hz1 hz2 rfl (by decide) _ xs.length cs rfl (HO.out.alloc _) ⟨w2.heap.size, 0, none⟩ 1 1 vs rfl (by rw [hlen]) ?_ hone.out ?_ ?_ ?_ ?_))
      · intro i u hu
        rw [addr_add]
        exact At.new w2 vs.toArray 25 i u (by simpa using hu)
      · unfold maxLen; omega
      · omega
      · simp; omega
      intro v' w3 hown' hgrow _hx hat
      obtain ⟨A', c', rfl⟩ := own_form hown'
      have HO2 := Lib.hid hown'
      have HG := Lib.hid hgrow
      have HT := Lib.hid hat
      clear hown' hgrow hat
      go_wp2_with fail
      go_roundw
      case rel => exact ⟨j + 1, B3, bad3, cs ++ vs, xs ++ [y], by omega, by go_num, LsI.step HS2.out hjn HK.out (by rw [hxl]; exact HO2.out) HG.out HT.out⟩
      case measure => simp [intOf]; omega
    · go_wp2_with fail
      go_ret
      exact ⟨_, xs, B2, bad2, rfl, (HS2.out.done (by omega)).done ⟨H.out.nf, fun h => h, H.out.lt, HD.out, fun _ h => h.elim⟩⟩
end Go.Proofs
