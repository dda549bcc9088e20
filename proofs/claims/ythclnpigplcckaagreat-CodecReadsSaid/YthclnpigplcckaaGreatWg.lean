/- A part of the codec's writers. -/
import Derived.Test.YthclnpigplcckaaGreatProg
import Derived.Test.YthclnpigplcckaaGreatLibs
import Derived.Test.YthclnpigplcckaaGreatWd
import Derived.Test.YthclnpigplcckaaGreatWf
import Derived.Test.YthclnpigplcckaaGreatWe
import Derived.Test.YthclnpigplcckaaGreatRh
import Derived.WalkSpells
import Derived.WalkLawsBesides
import Derived.Deep.LoopGhost
import Derived.Lib.Hide
import Derived.Deep.RegionWith
import Derived.Maps.AppendAt
import Derived.KernelRfl
set_option linter.unusedSimpArgs false
set_option linter.unusedVariables false

set_option linter.unusedSimpArgs false
namespace Go.Proofs
open Go Go.RowKit Cod

set_option maxRecDepth 100000 in
set_option maxHeartbeats 1000000 in
theorem result_wr : WoC Tryz.prog 2 5 71 schResult := by
  intro base F w bf b o v B x h
  have H := Lib.hid h
  clear h
  go_enter Tryz.func71, Tryz.ntmps71
  try go_wp2_with fail
  refine (code_wr base F _ bf b o v _ _ (H.out.first.first)).mono ?_
  rintro e w1 ⟨rfl, v1, p1⟩
  have P1 := Lib.hid p1
  clear p1
  have Q1 := P1
  try go_wp2_with fail
  refine (num_wr base F _ bf b (o + 1) v1 _ _ (Wr.next H.out.first Q1.out)).mono ?_
  rintro e w2 ⟨rfl, v2, p2⟩
  have P2 := Lib.hid p2
  clear p2
  have Q2 := Lib.hid (Wr.both Q1.out P2.out)
  clear P2 Q1
  try go_wp2_with fail
  refine (list79_wr (Wr.next H.out Q2.out)).mono ?_
  rintro e w3 ⟨rfl, v3, p3⟩
  have P3 := Lib.hid p3
  clear p3
  have Q3 := Lib.hid (Wr.both Q2.out P3.out)
  clear P3 Q2
  go_wp2_with fail
  go_end0
  exact ⟨rfl, v3, Q3.out⟩


set_option maxRecDepth 100000 in
set_option maxHeartbeats 1000000 in
theorem conf_wr : WoC Tryz.prog 2 5 55 schConf := by
  intro base F w bf b o v B x h
  have H := Lib.hid h
  clear h
  go_enter Tryz.func55, Tryz.ntmps55
  try go_wp2_with fail
  refine (list95_wr (H.out.first)).mono ?_
  rintro e w1 ⟨rfl, v1, p1⟩
  have P1 := Lib.hid p1
  clear p1
  have Q1 := P1
  try go_wp2_with fail
  refine (list95_wr (Wr.next H.out Q1.out)).mono ?_
  rintro e w2 ⟨rfl, v2, p2⟩
  have P2 := Lib.hid p2
  clear p2
  have Q2 := Lib.hid (Wr.both Q1.out P2.out)
  clear P2 Q1
  go_wp2_with fail
  go_end0
  exact ⟨rfl, v2, Q2.out⟩

end Go.Proofs

set_option linter.unusedSimpArgs false
namespace Go.Proofs
open Go Go.RowKit Cod

set_option maxRecDepth 100000 in
set_option maxHeartbeats 1000000 in
theorem plan_wr : WoC Tryz.prog 2 5 54 schPlan := by
  intro base F w bf b o v B x h
  have H := Lib.hid h
  clear h
  go_enter Tryz.func54, Tryz.ntmps54
  try go_wp2_with fail
  go_region_with (refine (nums_wdr (k := 3) (H.out.first.first.first) rfl (by omega)).mono ?_; rintro e w1 ⟨rfl, v1, p1⟩; have P1 := Lib.hid p1; clear p1)
  have Q1 := P1
  try go_wp2_with fail
  refine (list95_wr (Wr.next H.out.first.first Q1.out)).mono ?_
  rintro e w2 ⟨rfl, v2, p2⟩
  have P2 := Lib.hid p2
  clear p2
  have Q2 := Lib.hid (Wr.both Q1.out P2.out)
  clear P2 Q1
  try go_wp2_with fail
  refine (list79_wr (Wr.next H.out.first Q2.out)).mono ?_
  rintro e w3 ⟨rfl, v3, p3⟩
  have P3 := Lib.hid p3
  clear p3
  have Q3 := Lib.hid (Wr.both Q2.out P3.out)
  clear P3 Q2
  try go_wp2_with fail
  refine (flag_wr base F _ bf b (o + 5) v3 _ _ (Wr.next H.out Q3.out)).mono ?_
  rintro e w4 ⟨rfl, v4, p4⟩
  have P4 := Lib.hid p4
  clear p4
  have Q4 := Lib.hid (Wr.both Q3.out P4.out)
  clear P4 Q3
  go_wp2_with fail
  go_end0
  exact ⟨rfl, v4, Q4.out⟩

end Go.Proofs

set_option linter.unusedSimpArgs false
namespace Go.Proofs
open Go Go.RowKit Cod

set_option maxRecDepth 100000 in
set_option maxHeartbeats 1000000 in
theorem cmd_wr : WoC Tryz.prog 2 5 22 schCmd := by
  intro base F w bf b o v B x h
  have H := Lib.hid h
  clear h
  go_enter Tryz.func22, Tryz.ntmps22
  try go_wp2_with fail
  go_region_with (refine (nums_wdr (k := 3) (H.out.first.first.first.first.first) rfl (by omega)).mono ?_; rintro e w1 ⟨rfl, v1, p1⟩; have P1 := Lib.hid p1; clear p1)
  have Q1 := P1
  try go_wp2_with fail
  refine (job_wr base F _ bf b (o + 3) v1 _ _ (Wr.next H.out.first.first.first.first Q1.out)).mono ?_
  rintro e w2 ⟨rfl, v2, p2⟩
  have P2 := Lib.hid p2
  clear p2
  have Q2 := Lib.hid (Wr.both Q1.out P2.out)
  clear P2 Q1
  try go_wp2_with fail
  refine (node_wr base F _ bf b (o + 10) v2 _ _ (Wr.next H.out.first.first.first Q2.out)).mono ?_
  rintro e w3 ⟨rfl, v3, p3⟩
  have P3 := Lib.hid p3
  clear p3
  have Q3 := Lib.hid (Wr.both Q2.out P3.out)
  clear P3 Q2
  try go_wp2_with fail
  refine (list52_wr (Wr.next H.out.first.first Q3.out)).mono ?_
  rintro e w4 ⟨rfl, v4, p4⟩
  have P4 := Lib.hid p4
  clear p4
  have Q4 := Lib.hid (Wr.both Q3.out P4.out)
  clear P4 Q3
  try go_wp2_with fail
  refine (plan_wr base F _ bf b (o + 19) v4 _ _ (Wr.next H.out.first Q4.out)).mono ?_
  rintro e w5 ⟨rfl, v5, p5⟩
  have P5 := Lib.hid p5
  clear p5
  have Q5 := Lib.hid (Wr.both Q4.out P5.out)
  clear P5 Q4
  try go_wp2_with fail
  refine (conf_wr base F _ bf b (o + 25) v5 _ _ (Wr.next H.out Q5.out)).mono ?_
  rintro e w6 ⟨rfl, v6, p6⟩
  have P6 := Lib.hid p6
  clear p6
  have Q6 := Lib.hid (Wr.both Q5.out P6.out)
  clear P6 Q5
  go_wp2_with fail
  go_end0
  exact ⟨rfl, v6, Q6.out⟩


set_option maxRecDepth 100000 in
set_option maxHeartbeats 1000000 in
theorem entry_wr : WoC Tryz.prog 2 5 30 schEntry := by
  intro base F w bf b o v B x h
  have H := Lib.hid h
  clear h
  go_enter Tryz.func30, Tryz.ntmps30
  try go_wp2_with fail
  go_region_with (refine (nums_wdr (k := 2) (H.out.first) rfl (by omega)).mono ?_; rintro e w1 ⟨rfl, v1, p1⟩; have P1 := Lib.hid p1; clear p1)
  have Q1 := P1
  try go_wp2_with fail
  refine (cmd_wr base F _ bf b (o + 2) v1 _ _ (Wr.next H.out Q1.out)).mono ?_
  rintro e w2 ⟨rfl, v2, p2⟩
  have P2 := Lib.hid p2
  clear p2
  have Q2 := Lib.hid (Wr.both Q1.out P2.out)
  clear P2 Q1
  go_wp2_with fail
  go_end0
  exact ⟨rfl, v2, Q2.out⟩


theorem Tryz.size47 : (Tryz.prog.info? 47).map (·.size) = some 29 := by kernel_rfl

set_option maxRecDepth 100000 in
set_option maxHeartbeats 1000000 in
theorem list69_wr {base : Nat} {F : Nat → Prop} {w : World} {bf b o : Nat} {v : Value} {B : List UInt8} {x : Ty (.list schEntry)} (h : WoH 2 5 base (.list schEntry) F w bf b o v B x) :
    Calls Tryz.prog 69 #[.pointer (some ⟨bf, 0, none⟩), .pointer (some ⟨b, o, none⟩), .func (.func 30) #[.pointer (some ⟨bf, 0, none⟩)] #[]] w (WoEnd 2 5 base w bf v B (enc (.list schEntry) x)) := by
  have H := Lib.hid h
  obtain ⟨A, c, cb⟩ := h.slice
  have hlb := h.lt
  have hne := h.ne
  have HNB := Lib.hid h.nv
  have h64 := (okay_list h.okay).1
  have hlen := h.len
  simp only [bnd] at hlen
  clear h
  go_enter Tryz.func69, Tryz.ntmps69
  go_wp2_with fail
  refine (many_wr (n := x.length) 64 H.out.form (by omega) (by omega) (by omega)).mono ?_
  rintro e w1 ⟨rfl, v1, p⟩
  have P : Hid (Wr 2 5 base w w1 bf v B (encJ schEntry x 0) v1) := Lib.hid (by rw [encJ_zero]; exact p)
  have c1 := p.form.flag 0 (by omega)
  have c2 := p.cellAt cb hne HNB.out
  clear p
  go_wp2_with fail
  go_loopw [25] (fun i wr => ∃ (j : Nat) (v' : Value), j ≤ x.length ∧ i = .int .i64 j ∧ Wr 2 5 base w wr bf v B (encJ schEntry x j) v') (fun i _ => x.length - (intOf i).toNat)
  case atStart => exact ⟨0, v1, by omega, rfl, P.out⟩
  case round =>
    obtain ⟨j, v2, hj, rfl, hp⟩ := hrel
    have HP := Lib.hid hp
    have d1 := hp.form.flag 1 (by omega)
    have d2 := hp.cellAt cb hne HNB.out
    by_cases hjn : j < x.length
    · obtain ⟨b', o', ws, rfl, hws, hat, h1, hL, hW⟩ := H.out.itemAt cb hjn hp
      have HAt := Lib.hid hat
      have HW := Lib.hid (hW 47)
      have hws3 : ws.length = 29 := hws
      have SW : Hid ((Tryz.prog.info? 47).map (·.size) = some ws.toArray.size) := Lib.hid (by show _ = some ws.length; rw [hws3]; exact Tryz.size47)
      have HC := Lib.hid hws3
      have OW := Lib.hid (all_oneCell_toArray h1)
      clear hp hat h1 hL hW
      go_wp2_with (first
        | (refine wpList_load_mid rfl 47 _ rfl b' (o' + j * 29) rfl ws _ HAt.out Tryz.underlying47 rfl SW.out ?_)
        | (refine wpList_store_new rfl 47 _ _ rfl rfl rfl SW.out HC.out.symm OW.out ?_))
      refine (entry_wr base F _ bf wr.heap.size 0 v2 _ _ HW.out).mono ?_
      rintro e w2 ⟨rfl, v3, q⟩
      have HQ := Lib.hid q.alloc
      clear q
      go_wp2_with fail
      go_roundw
      case rel => exact ⟨j + 1, v3, by omega, by go_num, by rw [encJ_succ _ _ hjn]; exact HP.out.trans HQ.out⟩
      case measure => simp [intOf]; omega
    · clear hp
      go_wp2_with fail
      go_end0
      obtain rfl : j = x.length := by omega
      exact ⟨rfl, v2, by rw [← encJ_all]; exact HP.out⟩
end Go.Proofs
