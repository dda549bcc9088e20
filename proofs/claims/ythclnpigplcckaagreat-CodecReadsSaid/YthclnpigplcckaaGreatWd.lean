/- A part of the codec's writers. -/
import Derived.Test.YthclnpigplcckaaGreatProg
import Derived.Test.YthclnpigplcckaaGreatLibs
import Derived.Test.YthclnpigplcckaaGreatWc
import Derived.Test.YthclnpigplcckaaGreatRc
import Derived.WalkSpells
import Derived.WalkLawsBesides
import Derived.Deep.LoopGhost
import Derived.Lib.Hide
import Derived.Deep.RegionWith
import Derived.Maps.AppendAt
import Derived.KernelRfl
set_option linter.unusedSimpArgs false
set_option linter.unusedVariables false

set_option linter.unusedSimpArgs false
namespace Go.Proofs
open Go Go.RowKit Cod

set_option maxRecDepth 100000 in
set_option maxHeartbeats 1000000 in
theorem node_wr : WoC Tryz.prog 2 5 51 schNode := by
  intro base F w bf b o v B x h
  have H := Lib.hid h
  clear h
  go_enter Tryz.func51, Tryz.ntmps51
  try go_wp2_with fail
  refine (num_wr base F _ bf b o v _ _ (H.out.first.first.first.first)).mono ?_
  rintro e w1 ⟨rfl, v1, p1⟩
  have P1 := Lib.hid p1
  clear p1
  have Q1 := P1
  try go_wp2_with fail
  refine (res_wr base F _ bf b (o + 1) v1 _ _ (Wr.next H.out.first.first.first Q1.out)).mono ?_
  rintro e w2 ⟨rfl, v2, p2⟩
  have P2 := Lib.hid p2
  clear p2
  have Q2 := Lib.hid (Wr.both Q1.out P2.out)
  clear P2 Q1
  try go_wp2_with fail
  refine (flag_wr base F _ bf b (o + 3) v2 _ _ (Wr.next H.out.first.first Q2.out)).mono ?_
  rintro e w3 ⟨rfl, v3, p3⟩
  have P3 := Lib.hid p3
  clear p3
  have Q3 := Lib.hid (Wr.both Q2.out P3.out)
  clear P3 Q2
  try go_wp2_with fail
  refine (flag_wr base F _ bf b (o + 4) v3 _ _ (Wr.next H.out.first Q3.out)).mono ?_
  rintro e w4 ⟨rfl, v4, p4⟩
  have P4 := Lib.hid p4
  clear p4
  have Q4 := Lib.hid (Wr.both Q3.out P4.out)
  clear P4 Q3
  try go_wp2_with fail
  go_region_with (refine (nums_wdr (k := 3) (Wr.next H.out Q4.out) rfl (by omega)).mono ?_; rintro e w5 ⟨rfl, v5, p5⟩; have P5 := Lib.hid p5; clear p5)
  have Q5 := Lib.hid (Wr.both Q4.out P5.out)
  clear P5 Q4
  go_wp2_with fail
  go_end0
  exact ⟨rfl, v5, Q5.out⟩


set_option maxRecDepth 100000 in
set_option maxHeartbeats 1000000 in
theorem report_wr : WoC Tryz.prog 2 5 53 schReport := by
  intro base F w bf b o v B x h
  have H := Lib.hid h
  clear h
  go_enter Tryz.func53, Tryz.ntmps53
  try go_wp2_with fail
  go_region_with (refine (nums_wdr (k := 2) (H.out) rfl (by omega)).mono ?_; rintro e w1 ⟨rfl, v1, p1⟩; have P1 := Lib.hid p1; clear p1)
  have Q1 := P1
  go_wp2_with fail
  go_end0
  exact ⟨rfl, v1, Q1.out⟩


set_option maxRecDepth 100000 in
set_option maxHeartbeats 1000000 in
theorem alloc_wr : WoC Tryz.prog 2 5 80 schAlloc := by
  intro base F w bf b o v B x h
  have H := Lib.hid h
  clear h
  go_enter Tryz.func80, Tryz.ntmps80
  try go_wp2_with fail
  go_region_with (refine (nums_wdr (k := 7) (H.out.first.first.first) rfl (by omega)).mono ?_; rintro e w1 ⟨rfl, v1, p1⟩; have P1 := Lib.hid p1; clear p1)
  have Q1 := P1
  try go_wp2_with fail
  refine (res_wr base F _ bf b (o + 7) v1 _ _ (Wr.next H.out.first.first Q1.out)).mono ?_
  rintro e w2 ⟨rfl, v2, p2⟩
  have P2 := Lib.hid p2
  clear p2
  have Q2 := Lib.hid (Wr.both Q1.out P2.out)
  clear P2 Q1
  try go_wp2_with fail
  refine (flag_wr base F _ bf b (o + 9) v2 _ _ (Wr.next H.out.first Q2.out)).mono ?_
  rintro e w3 ⟨rfl, v3, p3⟩
  have P3 := Lib.hid p3
  clear p3
  have Q3 := Lib.hid (Wr.both Q2.out P3.out)
  clear P3 Q2
  try go_wp2_with fail
  refine (num_wr base F _ bf b (o + 10) v3 _ _ (Wr.next H.out Q3.out)).mono ?_
  rintro e w4 ⟨rfl, v4, p4⟩
  have P4 := Lib.hid p4
  clear p4
  have Q4 := Lib.hid (Wr.both Q3.out P4.out)
  clear P4 Q3
  go_wp2_with fail
  go_end0
  exact ⟨rfl, v4, Q4.out⟩


set_option maxRecDepth 100000 in
set_option maxHeartbeats 1000000 in
theorem eval_wr : WoC Tryz.prog 2 5 82 schEval := by
  intro base F w bf b o v B x h
  have H := Lib.hid h
  clear h
  go_enter Tryz.func82, Tryz.ntmps82
  try go_wp2_with fail
  go_region_with (refine (nums_wdr (k := 4) (H.out) rfl (by omega)).mono ?_; rintro e w1 ⟨rfl, v1, p1⟩; have P1 := Lib.hid p1; clear p1)
  have Q1 := P1
  go_wp2_with fail
  go_end0
  exact ⟨rfl, v1, Q1.out⟩


set_option maxRecDepth 100000 in
set_option maxHeartbeats 1000000 in
theorem deploy_wr : WoC Tryz.prog 2 5 84 schDeploy := by
  intro base F w bf b o v B x h
  have H := Lib.hid h
  clear h
  go_enter Tryz.func84, Tryz.ntmps84
  try go_wp2_with fail
  go_region_with (refine (nums_wdr (k := 4) (H.out) rfl (by omega)).mono ?_; rintro e w1 ⟨rfl, v1, p1⟩; have P1 := Lib.hid p1; clear p1)
  have Q1 := P1
  go_wp2_with fail
  go_end0
  exact ⟨rfl, v1, Q1.out⟩

end Go.Proofs

set_option linter.unusedSimpArgs false
namespace Go.Proofs
open Go Go.RowKit Cod

set_option maxRecDepth 100000 in
set_option maxHeartbeats 1000000 in
theorem job_wr : WoC Tryz.prog 2 5 50 schJob := by
  intro base F w bf b o v B x h
  have H := Lib.hid h
  clear h
  go_enter Tryz.func50, Tryz.ntmps50
  try go_wp2_with fail
  go_region_with (refine (nums_wdr (k := 4) (H.out.first.first.first) rfl (by omega)).mono ?_; rintro e w1 ⟨rfl, v1, p1⟩; have P1 := Lib.hid p1; clear p1)
  have Q1 := P1
  try go_wp2_with fail
  refine (list91_wr (Wr.next H.out.first.first Q1.out)).mono ?_
  rintro e w2 ⟨rfl, v2, p2⟩
  have P2 := Lib.hid p2
  clear p2
  have Q2 := Lib.hid (Wr.both Q1.out P2.out)
  clear P2 Q1
  try go_wp2_with fail
  refine (num_wr base F _ bf b (o + 5) v2 _ _ (Wr.next H.out.first Q2.out)).mono ?_
  rintro e w3 ⟨rfl, v3, p3⟩
  have P3 := Lib.hid p3
  clear p3
  have Q3 := Lib.hid (Wr.both Q2.out P3.out)
  clear P3 Q2
  try go_wp2_with fail
  refine (flag_wr base F _ bf b (o + 6) v3 _ _ (Wr.next H.out Q3.out)).mono ?_
  rintro e w4 ⟨rfl, v4, p4⟩
  have P4 := Lib.hid p4
  clear p4
  have Q4 := Lib.hid (Wr.both Q3.out P4.out)
  clear P4 Q3
  go_wp2_with fail
  go_end0
  exact ⟨rfl, v4, Q4.out⟩


theorem Tryz.size25 : (Tryz.prog.info? 25).map (·.size) = some 7 := by kernel_rfl

set_option maxRecDepth 100000 in
set_option maxHeartbeats 1000000 in
theorem list77_wr {base : Nat} {F : Nat → Prop} {w : World} {bf b o : Nat} {v : Value} {B : List UInt8} {x : Ty (.list schJob)} (h : WoH 2 5 base (.list schJob) F w bf b o v B x) :
    Calls Tryz.prog 77 #[.pointer (some ⟨bf, 0, none⟩), .pointer (some ⟨b, o, none⟩), .func (.func 50) #[.pointer (some ⟨bf, 0, none⟩)] #[]] w (WoEnd 2 5 base w bf v B (enc (.list schJob) x)) := by
  have H := Lib.hid h
  obtain ⟨A, c, cb⟩ := h.slice
  have hlb := h.lt
  have hne := h.ne
  have HNB := Lib.hid h.nv
  have h64 := (okay_list h.okay).1
  have hlen := h.len
  simp only [bnd] at hlen
  clear h
  go_enter Tryz.func77, Tryz.ntmps77
  go_wp2_with fail
  refine (many_wr (n := x.length) 64 H.out.form (by omega) (by omega) (by omega)).mono ?_
  rintro e w1 ⟨rfl, v1, p⟩
  have P : Hid (Wr 2 5 base w w1 bf v B (encJ schJob x 0) v1) := Lib.hid (by rw [encJ_zero]; exact p)
  have c1 := p.form.flag 0 (by omega)
  have c2 := p.cellAt cb hne HNB.out
  clear p
  go_wp2_with fail
  go_loopw [25] (fun i wr => ∃ (j : Nat) (v' : Value), j ≤ x.length ∧ i = .int .i64 j ∧ Wr 2 5 base w wr bf v B (encJ schJob x j) v') (fun i _ => x.length - (intOf i).toNat)
  case atStart => exact ⟨0, v1, by omega, rfl, P.out⟩
  case round =>
    obtain ⟨j, v2, hj, rfl, hp⟩ := hrel
    have HP := Lib.hid hp
    have d1 := hp.form.flag 1 (by omega)
    have d2 := hp.cellAt cb hne HNB.out
    by_cases hjn : j < x.length
    · obtain ⟨b', o', ws, rfl, hws, hat, h1, hL, hW⟩ := H.out.itemAt cb hjn hp
      have HAt := Lib.hid hat
      have HW := Lib.hid (hW 25)
      have hws3 : ws.length = 7 := hws
      have SW : Hid ((Tryz.prog.info? 25).map (·.size) = some ws.toArray.size) := Lib.hid (by show _ = some ws.length; rw [hws3]; exact Tryz.size25)
      have HC := Lib.hid hws3
      have OW := Lib.hid (all_oneCell_toArray h1)
      clear hp hat h1 hL hW
      go_wp2_with (first
        | (refine wpList_load_mid rfl 25 _ rfl b' (o' + j * 7) rfl ws _ HAt.out Tryz.underlying25 rfl SW.out ?_)
        | (refine wpList_store_new rfl 25 _ _ rfl rfl rfl SW.out HC.out.symm OW.out ?_))
      refine (job_wr base F _ bf wr.heap.size 0 v2 _ _ HW.out).mono ?_
      rintro e w2 ⟨rfl, v3, q⟩
      have HQ := Lib.hid q.alloc
      clear q
      go_wp2_with fail
      go_roundw
      case rel => exact ⟨j + 1, v3, by omega, by go_num, by rw [encJ_succ _ _ hjn]; exact HP.out.trans HQ.out⟩
      case measure => simp [intOf]; omega
    · clear hp
      go_wp2_with fail
      go_end0
      obtain rfl : j = x.length := by omega
      exact ⟨rfl, v2, by rw [← encJ_all]; exact HP.out⟩
end Go.Proofs
