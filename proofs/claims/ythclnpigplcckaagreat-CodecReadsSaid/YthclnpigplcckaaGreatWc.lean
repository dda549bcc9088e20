/- A part of the codec's writers. -/
import Derived.Test.YthclnpigplcckaaGreatProg
import Derived.Test.YthclnpigplcckaaGreatLibs
import Derived.Test.YthclnpigplcckaaGreatWb
import Derived.Test.YthclnpigplcckaaGreatRa
import Derived.WalkSpells
import Derived.WalkLawsBesides
import Derived.Deep.LoopGhost
import Derived.Lib.Hide
import Derived.Deep.RegionWith
import Derived.Maps.AppendAt
import Derived.KernelRfl
set_option linter.unusedSimpArgs false
set_option linter.unusedVariables false

set_option linter.unusedSimpArgs false
namespace Go.Proofs
open Go Go.RowKit Cod

set_option maxRecDepth 100000 in
set_option maxHeartbeats 1000000 in
theorem res_wr : WoC Tryz.prog 2 5 93 schRes := by
  intro base F w bf b o v B x h
  have H := Lib.hid h
  clear h
  go_enter Tryz.func93, Tryz.ntmps93
  go_region_with (refine (nums_wdr (k := 2) H.out rfl (by omega)).mono ?_; rintro e w1 ⟨rfl, v1, p1⟩; have P1 := Lib.hid p1; clear p1)
  go_wp2_with fail
  go_end0
  exact ⟨rfl, v1, P1.out⟩

set_option maxRecDepth 100000 in
set_option maxHeartbeats 1000000 in
theorem group_wr : WoC Tryz.prog 2 5 92 schGroup := by
  intro base F w bf b o v B x h
  have H := Lib.hid h
  clear h
  go_enter Tryz.func92, Tryz.ntmps92
  go_wp2_with fail
  refine (num_wr base F _ bf b o v B x.1 H.out.first).mono ?_
  rintro e w1 ⟨rfl, v1, p1⟩
  have P1 := Lib.hid p1
  clear p1
  go_wp2_with fail
  refine (res_wr base F _ bf b (o + 1) v1 _ x.2 (Wr.next H.out P1.out)).mono ?_
  rintro e w2 ⟨rfl, v2, p2⟩
  have P2 := Lib.hid p2
  clear p2
  go_wp2_with fail
  go_end0
  exact ⟨rfl, v2, Wr.both P1.out P2.out⟩

theorem Tryz.size187 : (Tryz.prog.info? 187).map (·.size) = some 3 := by kernel_rfl

set_option maxRecDepth 100000 in
set_option maxHeartbeats 1000000 in
theorem list91_wr {base : Nat} {F : Nat → Prop} {w : World} {bf b o : Nat} {v : Value} {B : List UInt8} {x : Ty (.list schGroup)} (h : WoH 2 5 base (.list schGroup) F w bf b o v B x) :
    Calls Tryz.prog 91 #[.pointer (some ⟨bf, 0, none⟩), .pointer (some ⟨b, o, none⟩), .func (.func 92) #[.pointer (some ⟨bf, 0, none⟩)] #[]] w (WoEnd 2 5 base w bf v B (enc (.list schGroup) x)) := by
  have H := Lib.hid h
  obtain ⟨A, c, cb⟩ := h.slice
  have hlb := h.lt
  have hne := h.ne
  have HNB := Lib.hid h.nv
  have h64 := (okay_list h.okay).1
  have hlen := h.len
  simp only [bnd] at hlen
  clear h
  go_enter Tryz.func91, Tryz.ntmps91
  go_wp2_with fail
  refine (many_wr (n := x.length) 64 H.out.form (by omega) (by omega) (by omega)).mono ?_
  rintro e w1 ⟨rfl, v1, p⟩
  have P : Hid (Wr 2 5 base w w1 bf v B (encJ schGroup x 0) v1) := Lib.hid (by rw [encJ_zero]; exact p)
  have c1 := p.form.flag 0 (by omega)
  have c2 := p.cellAt cb hne HNB.out
  clear p
  go_wp2_with fail
  go_loopw [25] (fun i wr => ∃ (j : Nat) (v' : Value), j ≤ x.length ∧ i = .int .i64 j ∧ Wr 2 5 base w wr bf v B (encJ schGroup x j) v') (fun i _ => x.length - (intOf i).toNat)
  case atStart => exact ⟨0, v1, by omega, rfl, P.out⟩
  case round =>
    obtain ⟨j, v2, hj, rfl, hp⟩ := hrel
    have HP := Lib.hid hp
    have d1 := hp.form.flag 1 (by omega)
    have d2 := hp.cellAt cb hne HNB.out
    by_cases hjn : j < x.length
    · obtain ⟨b', o', ws, rfl, hws, hat, h1, hL, hW⟩ := H.out.itemAt cb hjn hp
      have HAt := Lib.hid hat
      have HW := Lib.hid (hW 187)
      have hws3 : ws.length = 3 := hws
      have SW : Hid ((Tryz.prog.info? 187).map (·.size) = some ws.toArray.size) := Lib.hid (by show _ = some ws.length; rw [hws3]; exact Tryz.size187)
      have HC := Lib.hid hws3
      have OW := Lib.hid (all_oneCell_toArray h1)
      clear hp hat h1 hL hW
      go_wp2_with (first
        | (refine wpList_load_mid rfl 187 _ rfl b' (o' + j * 3) rfl ws _ HAt.out Tryz.underlying187 rfl SW.out ?_)
        | (refine wpList_store_new rfl 187 _ _ rfl rfl rfl SW.out HC.out.symm OW.out ?_))
      refine (group_wr base F _ bf wr.heap.size 0 v2 _ _ HW.out).mono ?_
      rintro e w2 ⟨rfl, v3, q⟩
      have HQ := Lib.hid q.alloc
      clear q
      go_wp2_with fail
      go_roundw
      case rel => exact ⟨j + 1, v3, by omega, by go_num, by rw [encJ_succ _ _ hjn]; exact HP.out.trans HQ.out⟩
      case measure => simp [intOf]; omega
    · clear hp
      go_wp2_with fail
      go_end0
      obtain rfl : j = x.length := by omega
      exact ⟨rfl, v2, by rw [← encJ_all]; exact HP.out⟩
end Go.Proofs
