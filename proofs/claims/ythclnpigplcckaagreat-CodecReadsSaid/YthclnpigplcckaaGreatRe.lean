/- A part of the codec's readers. -/
import Derived.Test.YthclnpigplcckaaGreatProg
import Derived.Test.YthclnpigplcckaaGreatLib
import Derived.Test.YthclnpigplcckaaGreatRc
import Derived.WalkSpells
import Derived.WalkLawsBesides
import Derived.Deep.LoopGhost
import Derived.Lib.Hide
import Derived.Deep.RegionWith
import Derived.Maps.AppendAt
import Derived.KernelRfl
set_option linter.unusedSimpArgs false
set_option linter.unusedVariables false

set_option linter.unusedSimpArgs false
namespace Go.Proofs
open Go Go.RowKit Cod

theorem Tryz.in162 : (Tryz.prog.info? 162).map (fun i => (i.zero, i.size, i.bytes)) = some (some (.agg #[.int .i64 0, .int .i64 0, .int .i64 0, .int .i64 0, .int .i64 0, .int .i64 0, .int .i64 0, .int .i64 0, .int .i64 0, .bool false, .int .i64 0]), 11, 88) := by kernel_rfl

set_option maxRecDepth 100000 in
set_option maxHeartbeats 1000000 in
theorem list79_rd {F : Nat → Prop} {w : World} {bf b o : Nat} {B : List UInt8} {bad : Bool} (h : RdH (.list schAlloc) F w bf b o B bad) :
    Calls Tryz.prog 79 #[.pointer (some ⟨bf, 0, none⟩), .pointer (some ⟨b, o, none⟩), .func (.func 80) #[.pointer (some ⟨bf, 0, none⟩)] #[]] w (RdEnd (.list schAlloc) F w bf b o B bad) := by
  have H := Lib.hid h
  have cb : w.cell? ⟨b, o, none⟩ = some (.slice none 0 0) := h.at_ 0 _ rfl
  have hlt := h.lt
  have hlf := h.lf
  have hne := h.ne
  clear h
  go_enter Tryz.func79, Tryz.ntmps79
  go_wp2_with fail
  refine (many_rd 64 H.out (by omega)).mono ?_
  rintro e w1 ⟨n, B1, bad1, rfl, hm⟩
  have hn64 := hm.le
  obtain ⟨A1, n1, c1, d0, d1, d2, g0, g1, g2, hn, hbt⟩ := hm.form.cells
  have HS : Hid (LsR schAlloc 162 F w w1 bf b o B bad B1 bad1 n 0 (.slice none 0 0) [] []) := .start H.out hm
  clear hm hbt d0 g0 g1 g2 hn d2
  go_wp2_with fail
  go_loopw [42] (fun i wr => ∃ (j : Nat) (B' : List UInt8) (bad' : Bool) (v : Value) (cs : List Value) (xs : List (Ty schAlloc)), j ≤ n ∧ i = .int .i64 j ∧ LsR schAlloc 162 F w wr bf b o B bad B' bad' n j v cs xs) (fun i _ => n - (intOf i).toNat)
  case atStart => exact ⟨0, B1, bad1, _, _, _, by omega, rfl, HS.out⟩
  case round =>
    obtain ⟨j, B2, bad2, v, cs, xs, hj, rfl, hS⟩ := hrel
    have HS2 := Lib.hid hS
    obtain ⟨A2, n2, c2, k0, k1, k2, m0, m1, m2, hn2, hbt2⟩ := hS.form.cells
    have hcell := hS.cell
    have hsz := hS.upd.size
    clear hS hbt2 k0 k1 m0 m1 m2 hn2
    by_cases hjn : j < n
    · cases bad2 with
      | true =>
        go_wp2_with fail
        refine bodyPost_ret (results_none rfl _ _ _) rfl ?_
        exact ⟨rfl, B2, true, HS2.out.done (.inr rfl)⟩
      | false =>
        go_wp2_with fail
        refine (alloc_rd F _ bf wr.heap.size 0 B2 false (HS2.out.item H.out _ _ rfl)).mono ?_
        rintro e w2 ⟨rfl, B3, bad3, hk⟩
        have HK := Lib.hid hk
        obtain ⟨vs, x, hA, hL, hp⟩ := hk.cells
        obtain ⟨hown, q0, q1, q2, q3⟩ := HS2.out.ownAt H.out hk
        have hlen : vs.length = 11 := Lay.len _ hL
        have hone := Lib.hid (Lay.one _ hL)
        have HL := Lib.hid hL
        have HP := Lib.hid hp
        have HA := Lib.hid hA
        have hxl : xs.length = j := HS2.out.len
        obtain ⟨i0, hi, hz0, hz1, hz2⟩ := info_parts Tryz.in162
        have HI := Lib.hid hi
        clear hk hL hp hA hi
        go_wp2_with fail
        rename_i hK
        refine wp_region_S (fun L w' => (L.getD 8 false = false → w'.cell? ⟨b, o, none⟩ = some v) ∧ (L.getD 5 false = false → At w' wr.heap.size 0 vs)) (n := 9) (L := #[false, false, false, false, false, false, false, false, false]) (by kernel_rfl) rfl rfl ?_
        have S0 : (false = false → w2.drew.cell? ⟨b, o, none⟩ = some v) ∧ (false = false → At w2.drew wr.heap.size 0 vs) := ⟨fun _ => q0, fun _ => HA.out⟩
        have C0 := Lib.hid S0
        clear S0
        refine wpAnyS_take' (i := 0) (v := .pointer (some ⟨b, o, none⟩)) (L' := #[true, false, false, false, false, false, false, false, false]) (by simp only [List.getElem?_toArray, List.getElem?_cons_succ, List.getElem?_cons_zero]; rfl) rfl (by simp only [Act.put, List.setIfInBounds_toArray, List.set_cons_succ, List.set_cons_zero]; rfl) (by kernel_rfl) (by kernel_rfl) (by kernel_rfl) (by exact fun _ _ _ h => h) (fun L w' h => ⟨fun hL => h.1 (by rw [getD_set_ne false (by decide)]; exact hL), fun hL => h.2 (by rw [getD_set_ne false (by decide)]; exact hL)⟩) (.inl ⟨rfl, fun _ _ _ _ _ => rfl⟩) (closedB (by kernel_rfl)) C0.out C0.out ?_
        refine wpAnyS_take' (i := 1) (v := .pointer (some ⟨b, o, none⟩)) (L' := #[true, true, false, false, false, false, false, false, false]) (by simp only [List.getElem?_toArray, List.getElem?_cons_succ, List.getElem?_cons_zero]; rfl) rfl (by simp only [Act.put, List.setIfInBounds_toArray, List.set_cons_succ, List.set_cons_zero]; rfl) (by kernel_rfl) (by kernel_rfl) (by kernel_rfl) (by exact fun _ _ _ h => h) (fun L w' h => ⟨fun hL => h.1 (by rw [getD_set_ne false (by decide)]; exact hL), fun hL => h.2 (by rw [getD_set_ne false (by decide)]; exact hL)⟩) (.inl ⟨rfl, fun _ _ _ _ _ => rfl⟩) (closedB (by kernel_rfl)) C0.out C0.out ?_
        refine wpAnyS_take' (i := 2) (v := .pointer (some ⟨b, o, none⟩)) (L' := #[true, true, true, false, false, false, false, false, false]) (by simp only [List.getElem?_toArray, List.getElem?_cons_succ, List.getElem?_cons_zero]; rfl) rfl (by simp only [Act.put, List.setIfInBounds_toArray, List.set_cons_succ, List.set_cons_zero]; rfl) (by kernel_rfl) (by kernel_rfl) (by kernel_rfl) (by exact fun _ _ _ h => h) (fun L w' h => ⟨fun hL => h.1 (by rw [getD_set_ne false (by decide)]; exact hL), fun hL => h.2 (by rw [getD_set_ne false (by decide)]; exact hL)⟩) (.inl ⟨rfl, fun _ _ _ _ _ => rfl⟩) (closedB (by kernel_rfl)) C0.out C0.out ?_
        refine wpAnyS_take' (i := 3) (v := v) (L' := #[true, true, true, true, false, false, false, false, false]) (by simp only [List.getElem?_toArray, List.getElem?_cons_succ, List.getElem?_cons_zero]; rfl) rfl (by simp only [Act.put, List.setIfInBounds_toArray, List.set_cons_succ, List.set_cons_zero]; rfl) (by kernel_rfl) (by kernel_rfl) (by kernel_rfl) (by exact fun _ _ _ h => h) (fun L w' h => ⟨fun hL => h.1 (by rw [getD_set_ne false (by decide)]; exact hL), fun hL => h.2 (by rw [getD_set_ne false (by decide)]; exact hL)⟩) (.inl ⟨rfl, fun L w' hC hL hS => exec_load_one rfl rfl Tryz.underlying32 rfl (hS.1 (hC.not (by kernel_rfl) hL))⟩) (closedB (by kernel_rfl)) C0.out C0.out ?_
        refine wpAnyS_take' (i := 4) (v := .agg vs.toArray) (L' := #[true, true, true, true, true, false, false, false, false]) (by simp only [List.getElem?_toArray, List.getElem?_cons_succ, List.getElem?_cons_zero]; rfl) rfl (by simp only [Act.put, List.setIfInBounds_toArray, List.set_cons_succ, List.set_cons_zero]; rfl) (by kernel_rfl) (by kernel_rfl) (by kernel_rfl) (by exact fun _ _ _ h => h) (fun L w' h => ⟨fun hL => h.1 (by rw [getD_set_ne false (by decide)]; exact hL), fun hL => h.2 (by rw [getD_set_ne false (by decide)]; exact hL)⟩) (.inl ⟨rfl, fun L w' hC hL hS => exec_load_agg rfl rfl Tryz.underlying162 rfl (by rw [HI.out, hlen]; exact congrArg some hz1) (hS.2 (hC.not (by kernel_rfl) hL))⟩) (closedB (by kernel_rfl)) C0.out C0.out ?_
        refine wpAnyS_one (i := 5) (L' := #[true, true, true, true, true, true, false, false, false]) (by kernel_rfl) rfl (by simp only [List.getElem?_toArray, List.getElem?_cons_succ, List.getElem?_cons_zero]; rfl) ?_
        refine wpList_build_one rfl 32 162 (.tmp 54) rfl rfl (n := 11) (by omega) (by omega) hlen Tryz.underlying32 (by rw [HI.out]; simp [hz0, hz1]) ?_
        have hup : Upd (fun _ _ => False) w2 (w2.drew.alloc (.cells vs.toArray 162)) := ((Upd.refl _ w2).drew).alloc _
        refine ⟨⟨fun _ => (hup.cell b o (by omega) (fun h => h)).trans q0, fun _ => hup.at HA.out (fun _ _ h => h)⟩, ?_⟩
        refine wpAnyS_act (by simp only [Act.put, List.setIfInBounds_toArray, List.set_cons_succ, List.set_cons_zero]; rfl) ?_
        refine wpAnyS_one (i := 6) (L' := #[true, true, true, true, true, true, true, false, false]) (by kernel_rfl) rfl (by simp only [List.getElem?_toArray, List.getElem?_cons_succ, List.getElem?_cons_zero]; rfl) ?_
        have hown2 : (w2.drew.alloc (.cells vs.toArray 162)).ownsRow w.heap.size 162 11 v xs.length cs := World.ownsRow.alloc (w := w2.drew) hown _
        refine wpList_append_own_at _ rfl (.tmp 53) (.tmp 55) 32 rfl w.heap.size 162 i0 _ 11 88 Tryz.underlying32 HI.out hz0 hz1 hz2 rfl (by decide) v xs.length cs rfl hown2 ⟨w2.heap.size, 0, none⟩ 1 1 vs rfl (by rw [hlen]) ?_ hone.out ?_ ?_ ?_ ?_
        · intro i u hu
          rw [addr_add]
          exact At.new w2.drew vs.toArray 162 i u (by simpa using hu)
        · unfold maxLen; omega
        · omega
        · simp; omega
        · intro v' w3 hown' hgrow _hx hat
          obtain ⟨A', c', rfl⟩ := own_form hown'
          have HO := Lib.hid hown'
          have HG := Lib.hid hgrow
          have HT := Lib.hid hat
          have hst := append_other (w1 := w2.drew) hown hgrow hlt q0 q1
          refine ⟨⟨fun _ => hst.1, fun h => absurd h (by decide)⟩, ?_⟩
          refine wpAnyS_act (by simp only [Act.put, List.setIfInBounds_toArray, List.set_cons_succ, List.set_cons_zero]; rfl) ?_
          refine wpAnyS_take' (i := 7) (v := .pointer (some ⟨b, o, none⟩)) (L' := #[true, true, true, true, true, true, true, true, false]) (by simp only [List.getElem?_toArray, List.getElem?_cons_succ, List.getElem?_cons_zero]; rfl) rfl (by simp only [Act.put, List.setIfInBounds_toArray, List.set_cons_succ, List.set_cons_zero]; rfl) (by kernel_rfl) (by kernel_rfl) (by kernel_rfl) (by exact fun _ _ _ h => h) (fun L w' h => ⟨fun hL => h.1 (by rw [getD_set_ne false (by decide)]; exact hL), fun hL => h.2 (by rw [getD_set_ne false (by decide)]; exact hL)⟩) (.inl ⟨rfl, fun _ _ _ _ _ => rfl⟩) (closedB (by kernel_rfl)) ⟨fun _ => hst.1, fun h => absurd h (by decide)⟩ ⟨fun _ => hst.1, fun h => absurd h (by decide)⟩ ?_
          refine wpAnyS_one (i := 8) (L' := #[true, true, true, true, true, true, true, true, true]) (by kernel_rfl) rfl (by simp only [List.getElem?_toArray, List.getElem?_cons_succ, List.getElem?_cons_zero]; rfl) ?_
          obtain ⟨q4, q5⟩ := hst
          clear hown' hgrow hat
          go_wp2_with fail
          go_wp2_with fail
          refine ⟨by kernel_rfl, ?_⟩
          refine hK _ _ ?_
          clear hK
          go_wp2_with fail
          go_roundw
          case rel =>
            refine ⟨j + 1, B3, bad3, .slice A' (j + 1) c', cs ++ vs, xs ++ [x], by omega, by go_num, ?_⟩
            have hown4 : w3.ownsRow w.heap.size 162 11 (.slice A' (j + 1) c') (xs.length + 1) (cs ++ vs) := by rw [← hxl]; exact HO.out
            exact LsR.step HS2.out H.out hjn HK.out HL.out (HP.out trivial) hown4 (T' := 162) ⟨HG.out.os, HG.out.tape, HG.out.output, HG.out.size, HG.out.block⟩ (by have := HT.out; rw [hxl] at this; exact this)
          case measure => simp [intOf]; omega
    · go_wp2_with fail
      go_end0
      exact ⟨rfl, B2, bad2, HS2.out.done (.inl (by omega))⟩
end Go.Proofs
