/- A part of the codec's writers. -/
import Derived.Test.YthclnpigplcckaaGreatProg
import Derived.Test.YthclnpigplcckaaGreatLibs
import Derived.Test.YthclnpigplcckaaGreatWc
import Derived.WalkSpells
import Derived.WalkLawsBesides
import Derived.Deep.LoopGhost
import Derived.Lib.Hide
import Derived.Deep.RegionWith
import Derived.Maps.AppendAt
import Derived.KernelRfl
set_option linter.unusedSimpArgs false
set_option linter.unusedVariables false

set_option linter.unusedSimpArgs false
namespace Go.Proofs
open Go Go.RowKit Cod


set_option maxRecDepth 100000 in
set_option maxHeartbeats 1000000 in
theorem list95_wr {base : Nat} {F : Nat → Prop} {w : World} {bf b o : Nat} {v : Value} {B : List UInt8} {x : Ty (.list .num)} (h : WoH 2 5 base (.list .num) F w bf b o v B x) :
    Calls Tryz.prog 95 #[.pointer (some ⟨bf, 0, none⟩), .pointer (some ⟨b, o, none⟩), .func (.func 90) #[.pointer (some ⟨bf, 0, none⟩)] #[]] w (WoEnd 2 5 base w bf v B (enc (.list .num) x)) := by
  have H := Lib.hid h
  obtain ⟨A, c, cb⟩ := h.slice
  have hlb := h.lt
  have hne := h.ne
  have HNB := Lib.hid h.nv
  have h64 := (okay_list h.okay).1
  have hlen := h.len
  simp only [bnd] at hlen
  clear h
  go_enter Tryz.func95, Tryz.ntmps95
  go_wp2_with fail
  refine (many_wr (n := x.length) 64 H.out.form (by omega) (by omega) (by omega)).mono ?_
  rintro e w1 ⟨rfl, v1, p⟩
  have P : Hid (Wr 2 5 base w w1 bf v B (encJ .num x 0) v1) := Lib.hid (by rw [encJ_zero]; exact p)
  have c1 := p.form.flag 0 (by omega)
  have c2 := p.cellAt cb hne HNB.out
  clear p
  go_wp2_with fail
  go_loopw [25] (fun i wr => ∃ (j : Nat) (v' : Value), j ≤ x.length ∧ i = .int .i64 j ∧ Wr 2 5 base w wr bf v B (encJ .num x j) v') (fun i _ => x.length - (intOf i).toNat)
  case atStart => exact ⟨0, v1, by omega, rfl, P.out⟩
  case round =>
    obtain ⟨j, v2, hj, rfl, hp⟩ := hrel
    have HP := Lib.hid hp
    have d1 := hp.form.flag 1 (by omega)
    have d2 := hp.cellAt cb hne HNB.out
    by_cases hjn : j < x.length
    · obtain ⟨b', o', ws, rfl, hws, hat, h1, hL, hW⟩ := H.out.itemAt cb hjn hp
      have hws1 : ws = [.int .i64 x[j]] := by simpa only [Lay] using hL
      have hcj : wr.cell? ⟨b', o' + j, none⟩ = some (.int .i64 x[j]) := by
        rw [hws1] at hat
        have := hat.head
        simpa [szc] using this
      have HW : Hid (WoH 2 5 base .num F (wr.alloc (.cells #[.int .i64 x[j]] 3)) bf wr.heap.size 0 v2 (B ++ encJ .num x j) x[j]) := Lib.hid (by have := hW 3; rw [hws1] at this; exact this)
      obtain ⟨y, hy⟩ : ∃ y : Int, Hid (y = x[j]) ∧ wr.cell? ⟨b', o' + j, none⟩ = some (.int .i64 y) := ⟨_, Lib.hid rfl, hcj⟩
      obtain ⟨hy1, hy2⟩ := hy
      rw [← hy1.out] at HW
      clear hp hat h1 hL hW hcj hws1 hws
      go_wp2_with fail
      refine (num_wr base F _ bf wr.heap.size 0 v2 _ _ HW.out).mono ?_
      rintro e w2 ⟨rfl, v3, q⟩
      have HQ := Lib.hid q.alloc
      clear q
      go_wp2_with fail
      go_roundw
      case rel => exact ⟨j + 1, v3, by omega, by go_num, by rw [encJ_succ _ _ hjn, ← hy1.out]; exact HP.out.trans HQ.out⟩
      case measure => simp [intOf]; omega
    · clear hp
      go_wp2_with fail
      go_end0
      obtain rfl : j = x.length := by omega
      exact ⟨rfl, v2, by rw [← encJ_all]; exact HP.out⟩
end Go.Proofs
