/- A part of the codec's readers. -/
import Derived.Test.YthclnpigplcckaaGreatProg
import Derived.Test.YthclnpigplcckaaGreatLib
import Derived.WalkSpells
import Derived.WalkLawsBesides
import Derived.Deep.LoopGhost
import Derived.Lib.Hide
import Derived.Deep.RegionWith
import Derived.Maps.AppendAt
import Derived.KernelRfl
set_option linter.unusedSimpArgs false
set_option linter.unusedVariables false

namespace Go.Proofs
open Go Go.RowKit Cod

set_option maxRecDepth 100000 in
set_option maxHeartbeats 1000000 in
theorem read_full {F : Nat → Prop} {w : World} {bf bd od c : Nat} {B : List UInt8} {bad : Bool} (hf : Hid (FormR F w bf B bad)) (hF : Hid (¬ F bf)) (hbt : Hid (Bts F w (some ⟨bd, od, none⟩) B.length B))
    (_hB : B.length ≤ 9223372036854775807) (hc : B.length ≤ c)
    (h0 : w.cell? ⟨bf, 0, none⟩ = some (.slice (some ⟨bd, od, none⟩) B.length c))
    (h2 : w.cell? ⟨bf, 2, none⟩ = some (.bool bad))
    (f0 : w.frozen? ⟨bf, 0, none⟩ = false) (f2 : w.frozen? ⟨bf, 2, none⟩ = false)
    (hd : Hid (∀ i, (hi : i < B.length) → w.cell? ⟨bd, od + i, none⟩ = some (.int .u8 ((B[i]).toNat : Int)))) :
    Calls Tryz.prog 113 #[.pointer (some ⟨bf, 0, none⟩)] w (ReadPost F w bf B bad) := by
  go_enter Tryz.func113, Tryz.ntmps113
  go_wp2_with fail
  go_loop [3, 4] (fun u i => ∃ (k acc : Nat), k ≤ 6 ∧ i = .int .i64 k ∧ u = .int .u64 acc ∧ Acc B k acc) (fun _ i => 6 - (intOf i).toNat)
  case atStart => exact ⟨0, 0, by omega, rfl, rfl, Acc.zero B⟩
  case round =>
    obtain ⟨k, acc, hk, rfl, rfl, hacc⟩ := hrel
    have hacc' := Lib.hid hacc
    clear hacc
    by_cases h6 : k < 6
    · by_cases hl : k < B.length
      · obtain ⟨x, hxd, hlt, hb⟩ : ∃ x : Nat, Hid (x = (B[k]).toNat) ∧ x < 256 ∧ w.cell? ⟨bd, od + k, none⟩ = some (.int .u8 (x : Int)) := ⟨_, Lib.hid rfl, (B[k]).toNat_lt, hd.out k hl⟩
        obtain ⟨U, hUd, hUlt, hU⟩ : ∃ U : Nat, Hid (U = acc + 128 ^ k * (x % 128)) ∧ U < 4398046511104 ∧ bits .or .u64 (acc : Int) (IntKind.u64.wrap (IntKind.u64.wrap (bits .and .u8 (x : Int) 127) * 2 ^ (7 * k))) = (U : Int) :=
          ⟨_, Lib.hid rfl, Last.small hacc'.out h6, or_step acc x k h6 hacc'.out.2.1 hlt⟩
        by_cases hx : x < 128
        · have hx' : ¬ (128 : Int) ≤ (x : Int) := by omega
          have HL : Hid (Last B k acc x U) := ⟨hacc'.out, h6, hl, hxd.out, hx, hUd.out⟩
          have hz : ((x : Int) == 0) = decide (x = 0) := by rw [Bool.eq_iff_iff]; simp
          by_cases hcap : c = k + 1
          all_goals
            by_cases hodd : U % 2 = 1
            · have ho : bits .and .u64 (U : Int) 1 = 1 := by rw [and1 U (by omega), hodd]; rfl
              have hn : bits .xor .i64 (-1) ((U : Int) / 2) = -1 - (U : Int) / 2 := i64_not (U / 2) (by omega)
              have HU : Hid (unz U = -1 - (U : Int) / 2) := Lib.hid (unz_odd hodd)
              go_wp2_with fail
              all_goals
                go_ret
                first
                | exact read_bad hf.out hF.out hbt.out hc HL.out (by rw [HU.out]; omega) (by simp [hcap]) rfl (by omega)
                | exact read_good hf.out hF.out hbt.out hc HL.out (by omega) HU.out.symm (by omega) (by simp [hcap]) rfl (by omega)
            · have ho : bits .and .u64 (U : Int) 1 = 0 := by rw [and1 U (by omega), show U % 2 = 0 by omega]; rfl
              have HU : Hid (unz U = (U : Int) / 2) := Lib.hid (unz_even hodd)
              go_wp2_with fail
              all_goals
                go_ret
                first
                | exact read_bad hf.out hF.out hbt.out hc HL.out (by rw [HU.out]; omega) (by simp [hcap]) rfl (by omega)
                | exact read_good hf.out hF.out hbt.out hc HL.out (by omega) HU.out.symm (by omega) (by simp [hcap]) rfl (by omega)
        · have hx' : (128 : Int) ≤ (x : Int) := by omega
          go_wp2_with fail
          go_round
          case rel => exact ⟨k + 1, U, by omega, by go_num, rfl, by
            have := hacc'.out.more hl (by rw [← hxd.out]; omega)
            rw [← hxd.out] at this
            rw [hUd.out, show x % 128 = x - 128 by omega]
            exact this⟩
          case measure => simp [intOf]; omega
      · go_wp2_with fail
        go_ret
        exact read_short hf.out hF.out hacc'.out (by have := hacc'.out.1; omega)
    · go_wp2_with fail
      go_ret
      exact read_short hf.out hF.out hacc'.out (by have := hacc'.out.1; omega)

set_option maxRecDepth 100000 in
set_option maxHeartbeats 1000000 in
theorem read_empty {F : Nat → Prop} {w : World} {bf c : Nat} {A : Option Addr} {bad : Bool} (hf : Hid (FormR F w bf [] bad)) (hF : Hid (¬ F bf))
    (h0 : w.cell? ⟨bf, 0, none⟩ = some (.slice A 0 c)) (h2 : w.cell? ⟨bf, 2, none⟩ = some (.bool bad)) (f2 : w.frozen? ⟨bf, 2, none⟩ = false) :
    Calls Tryz.prog 113 #[.pointer (some ⟨bf, 0, none⟩)] w (ReadPost F w bf [] bad) := by
  go_enter Tryz.func113, Tryz.ntmps113
  go_wp2_with fail
  go_loop [3, 4] (fun u i => i = .int .i64 0 ∧ u = .int .u64 0) (fun _ _ => 0)
  case atStart => exact ⟨rfl, rfl⟩
  case round =>
    obtain ⟨rfl, rfl⟩ := hrel
    go_wp2_with fail
    go_ret
    exact read_short hf.out hF.out (Acc.zero []) (by simp)

theorem read_c {F : Nat → Prop} {w : World} {bf : Nat} {B : List UInt8} {bad : Bool} (h : FormR F w bf B bad) (hF : ¬ F bf) :
    Calls Tryz.prog 113 #[.pointer (some ⟨bf, 0, none⟩)] w (ReadPost F w bf B bad) := by
  obtain ⟨A, n, c, c0, c1, c2, f0, f1, f2, hn, hb⟩ := h.cells
  rcases Nat.eq_zero_or_pos n with h0 | h0
  · subst h0
    have e : B = [] := List.eq_nil_of_length_eq_zero hb.1
    subst e
    exact read_empty h hF c0 c2 f2
  · obtain ⟨b, o, rfl, hFb, hA⟩ := hb.2.2 h0
    obtain rfl := hb.1
    refine read_full h hF hb hb.2.1 hn c0 c2 f0 f2 (fun i hi => ?_)
    exact hA i _ (by rw [List.getElem?_map, List.getElem?_eq_getElem hi]; rfl)

end Go.Proofs

namespace Go.Proofs
open Go Go.RowKit Cod

set_option maxRecDepth 100000 in
set_option maxHeartbeats 1000000 in
theorem num_rd : RdC Tryz.prog 90 .num := by
  intro F w bf b o B bad h
  have H := Lib.hid h
  obtain ⟨A, n, c, c0, c1, c2, f0, f1, f2, hn, hb⟩ := h.form.cells
  have hr := Lib.hid (@read_c F w bf B bad h.form h.nbf)
  clear h hb
  go_enter Tryz.func90, Tryz.ntmps90
  go_wp2_with fail
  refine hr.out.mono ?_
  rintro e w1 ⟨v, B', bad', rfl, hk⟩
  have Hk := Lib.hid hk
  obtain ⟨d0, g0⟩ := H.out.cell hk
  clear hk
  go_wp2_with fail
  refine bodyPost_ret (results_none rfl _ _ _) rfl ?_
  exact ⟨rfl, B', bad', .ofRead H.out Hk.out⟩

/-! ### A flag, how many -/
set_option maxRecDepth 100000 in
set_option maxHeartbeats 1000000 in
theorem flag_rd : RdC Tryz.prog 68 .flag := by
  intro F w bf b o B bad h
  have H := Lib.hid h
  have hlt := h.lt
  have hlf := h.lf
  have hne := h.ne
  have cb : w.cell? ⟨b, o, none⟩ = some (.bool false) := h.at_ 0 _ rfl
  have fb : w.frozen? ⟨b, o, none⟩ = false := by simpa using h.free 0 (by simp [szc])
  clear h
  go_enter Tryz.func68, Tryz.ntmps68
  go_wp2_with fail
  refine (num_rd F _ bf w.heap.size 0 B bad (H.out.new _ _ rfl)).mono ?_
  rintro e w1 ⟨rfl, B', bad', hk⟩
  have Hk := Lib.hid hk
  obtain ⟨v, cv, hv⟩ := hk.newCell
  have Hv := Lib.hid hv
  obtain ⟨A, n, c, d0, d1, d2, g0, g1, g2, hn, hbt⟩ := hk.form.cells
  have cb1 : w1.cell? ⟨b, o, none⟩ = some (.bool false) := (hk.upd.cell b o (by simp; omega) (by rintro (e | ⟨e, _⟩) <;> omega)).trans ((World.cell?_alloc_lt _ _ _ hlt).trans cb)
  have fb1 : w1.frozen? ⟨b, o, none⟩ = false := (hk.upd.frozen b o (by simp; omega)).trans ((World.frozen?_alloc_old _ _ _ (by simp; omega)).trans fb)
  have hs := hk.upd.size
  clear hk hv hbt
  simp only [World.size_alloc] at hs
  cases bad' with
  | true =>
    go_wp2_with fail
    go_end0
    exact ⟨rfl, B', true, .ofFlag H.out Hk.out Hv.out (by simp) (by simp)⟩
  | false =>
    go_wp2_with fail
    all_goals
      go_end0
      exact ⟨rfl, B', _, .ofFlag H.out Hk.out Hv.out (by first | (simp; done) | (simp; omega)) (by simp)⟩

set_option maxRecDepth 100000 in
set_option maxHeartbeats 1000000 in
theorem many_rd {F : Nat → Prop} {w : World} {bf b o : Nat} {B : List UInt8} {bad : Bool} {t : Sch} (most : Int) (h : RdH t F w bf b o B bad) (hm : 0 ≤ most) :
    Calls Tryz.prog 94 #[.pointer (some ⟨bf, 0, none⟩), .int .i64 0, .int .i64 most] w (ManyPost most F w bf B bad) := by
  have H := Lib.hid h
  have hlf := h.lf
  clear h
  go_enter Tryz.func94, Tryz.ntmps94
  go_wp2_with fail
  refine (num_rd F _ bf w.heap.size 0 B bad (H.out.new _ _ rfl)).mono ?_
  rintro e w1 ⟨rfl, B', bad', hk⟩
  have Hk := Lib.hid hk
  obtain ⟨v, cv, hv⟩ := hk.newCell
  have Hv := Lib.hid hv
  obtain ⟨A, n, c, d0, d1, d2, g0, g1, g2, hn, hbt⟩ := hk.form.cells
  have hs := hk.upd.size
  clear hk hv hbt
  simp only [World.size_alloc] at hs
  go_wp2_with fail
  all_goals
    go_ret
    first
    | exact RdM.good H.out.nbf Hk.out Hv.out (by omega) (by omega)
    | exact RdM.bad H.out.nbf hm Hk.out Hv.out (by omega)

/-! ### Numbers -/
set_option maxRecDepth 100000 in
set_option maxHeartbeats 1000000 in
theorem nums_rd {F : Nat → Prop} {w : World} {bf b o : Nat} {B : List UInt8} {bad : Bool} {bl k c : Nat} (h : RdH (numsL k) F w bf b o B bad) (hl : At w bl 0 (ptrs b o k)) (h1 : bl ≠ bf) (h2 : bl ≠ b) (hlt : bl < w.heap.size) (hk : k ≤ 1000) :
    Calls Tryz.prog 49 #[.pointer (some ⟨bf, 0, none⟩), .slice (some ⟨bl, 0, none⟩) k c] w (RdEnd (numsL k) F w bf b o B bad) := by
  have H := Lib.hid h
  have HL := Lib.hid hl
  clear h hl
  go_enter Tryz.func49, Tryz.ntmps49
  go_wp2_with fail
  go_loopw [8] (fun i wr => ∃ (j : Nat) (B' : List UInt8) (bad' : Bool), j ≤ k ∧ i = .int .i64 j ∧ RdP (numsL j) F w wr bf b o B bad B' bad') (fun i _ => k - (intOf i).toNat)
  case atStart => exact ⟨0, B, bad, by omega, rfl, RdP.unit H.out⟩
  case round =>
    obtain ⟨j, B1, bad1, hj, rfl, hp⟩ := hrel
    have HP := Lib.hid hp
    clear hp
    by_cases hjk : j < k
    · have hc : wr.cell? ⟨bl, j, none⟩ = some (.pointer (some ⟨b, o + j, none⟩)) := by
        have := HL.out j _ (ptrs_at hjk)
        rw [Nat.zero_add] at this
        exact (HP.out.upd.cell bl j hlt (by rintro (e | ⟨e, _⟩) <;> omega)).trans this
      go_wp2_with fail
      refine (num_rd F wr bf b (o + j) B1 bad1 (H.out.numAt hjk HP.out)).mono ?_
      rintro e w1 ⟨rfl, B2, bad2, hq⟩
      have HQ := Lib.hid hq
      clear hq
      go_wp2_with fail
      go_roundw
      case rel => exact ⟨j + 1, B2, bad2, by omega, by go_num, RdP.numAt H.out HP.out HQ.out⟩
      case measure => simp [intOf]; omega
    · go_wp2_with fail
      go_end0
      obtain rfl : j = k := by omega
      exact ⟨rfl, B1, bad1, HP.out⟩
end Go.Proofs

namespace Go.Proofs
open Go Go.RowKit Cod

theorem nums_at {F : Nat → Prop} {w : World} {bf b o : Nat} {B : List UInt8} {bad : Bool} {k : Nat} {cs : Array Value} {T : TypeId} (h : RdH (numsL k) F w bf b o B bad) (hc : cs.toList = ptrs b o k) (hk : k ≤ 1000) :
    Calls Tryz.prog 49 #[.pointer (some ⟨bf, 0, none⟩), .slice (some ⟨w.heap.size, 0, none⟩) k k] (w.alloc (.cells cs T)) (RdEnd (numsL k) F w bf b o B bad) := by
  refine (nums_rd (c := k) (h.alloc _) (hc ▸ At.new w cs T) (by have := h.lf; omega) (by have := h.lt; omega) (by simp) hk).mono ?_
  rintro e w' ⟨rfl, B', bad', p⟩
  exact ⟨rfl, B', bad', p.ofAlloc⟩

theorem nums_dr {F : Nat → Prop} {w : World} {bf b o : Nat} {B : List UInt8} {bad : Bool} {k : Nat} {cs : Array Value} {T : TypeId} (h : RdH (numsL k) F w bf b o B bad) (hc : cs.toList = ptrs b o k) (hk : k ≤ 1000) :
    Calls Tryz.prog 49 #[.pointer (some ⟨bf, 0, none⟩), .slice (some ⟨w.heap.size, 0, none⟩) k k] (w.alloc (.cells cs T)).drew (RdEnd (numsL k) F w bf b o B bad) := by
  refine (nums_rd (c := k) (h.alloc _).drew (hc ▸ At.new w cs T) (by have := h.lf; omega) (by have := h.lt; omega) (by simp) hk).mono ?_
  rintro e w' ⟨rfl, B', bad', p⟩
  exact ⟨rfl, B', bad', p.ofDrew.ofAlloc⟩

def schRes : Sch := numsL 2
def schGroup : Sch := .pair .num schRes

set_option maxRecDepth 100000 in
set_option maxHeartbeats 1000000 in
theorem res_rd : RdC Tryz.prog 93 schRes := by
  intro F w bf b o B bad h
  have H := Lib.hid h
  clear h
  go_enter Tryz.func93, Tryz.ntmps93
  go_region_with (refine (nums_dr (k := 2) H.out rfl (by omega)).mono ?_; rintro e w1 ⟨rfl, B1, bad1, p1⟩; have P1 := Lib.hid p1; clear p1)
  go_wp2_with fail
  go_end0
  exact ⟨rfl, B1, bad1, P1.out⟩

set_option maxRecDepth 100000 in
set_option maxHeartbeats 1000000 in
theorem group_rd : RdC Tryz.prog 92 schGroup := by
  intro F w bf b o B bad h
  have H := Lib.hid h
  clear h
  go_enter Tryz.func92, Tryz.ntmps92
  go_wp2_with fail
  refine (num_rd F _ bf b o B bad H.out.first).mono ?_
  rintro e w1 ⟨rfl, B1, bad1, p1⟩
  have P1 := Lib.hid p1
  clear p1
  go_wp2_with fail
  refine (res_rd F _ bf b (o + 1) B1 bad1 (RdP.next H.out P1.out)).mono ?_
  rintro e w2 ⟨rfl, B2, bad2, p2⟩
  have P2 := Lib.hid p2
  clear p2
  go_wp2_with fail
  go_end0
  exact ⟨rfl, B2, bad2, RdP.both H.out.ne H.out.lt H.out.lf P1.out P2.out⟩

end Go.Proofs

set_option linter.unusedSimpArgs false
namespace Go.Proofs
open Go Go.RowKit Cod

theorem Tryz.in187 : (Tryz.prog.info? 187).map (fun i => (i.zero, i.size, i.bytes)) = some (some (.agg #[.int .i64 0, .int .i64 0, .int .i64 0]), 3, 24) := by kernel_rfl

set_option maxRecDepth 100000 in
set_option maxHeartbeats 1000000 in
theorem list91_rd {F : Nat → Prop} {w : World} {bf b o : Nat} {B : List UInt8} {bad : Bool} (h : RdH (.list schGroup) F w bf b o B bad) :
    Calls Tryz.prog 91 #[.pointer (some ⟨bf, 0, none⟩), .pointer (some ⟨b, o, none⟩), .func (.func 92) #[.pointer (some ⟨bf, 0, none⟩)] #[]] w (RdEnd (.list schGroup) F w bf b o B bad) := by
  have H := Lib.hid h
  have cb : w.cell? ⟨b, o, none⟩ = some (.slice none 0 0) := h.at_ 0 _ rfl
  have hlt := h.lt
  have hlf := h.lf
  have hne := h.ne
  clear h
  go_enter Tryz.func91, Tryz.ntmps91
  go_wp2_with fail
  refine (many_rd 64 H.out (by omega)).mono ?_
  rintro e w1 ⟨n, B1, bad1, rfl, hm⟩
  have hn64 := hm.le
  obtain ⟨A1, n1, c1, d0, d1, d2, g0, g1, g2, hn, hbt⟩ := hm.form.cells
  have HS : Hid (LsR schGroup 187 F w w1 bf b o B bad B1 bad1 n 0 (.slice none 0 0) [] []) := .start H.out hm
  clear hm hbt d0 g0 g1 g2 hn d2
  go_wp2_with fail
  go_loopw [42] (fun i wr => ∃ (j : Nat) (B' : List UInt8) (bad' : Bool) (v : Value) (cs : List Value) (xs : List (Ty schGroup)), j ≤ n ∧ i = .int .i64 j ∧ LsR schGroup 187 F w wr bf b o B bad B' bad' n j v cs xs) (fun i _ => n - (intOf i).toNat)
  case atStart => exact ⟨0, B1, bad1, _, _, _, by omega, rfl, HS.out⟩
  case round =>
    obtain ⟨j, B2, bad2, v, cs, xs, hj, rfl, hS⟩ := hrel
    have HS2 := Lib.hid hS
    obtain ⟨A2, n2, c2, k0, k1, k2, m0, m1, m2, hn2, hbt2⟩ := hS.form.cells
    have hcell := hS.cell
    have hsz := hS.upd.size
    clear hS hbt2 k0 k1 m0 m1 m2 hn2
    by_cases hjn : j < n
    · cases bad2 with
      | true =>
        go_wp2_with fail
        refine bodyPost_ret (results_none rfl _ _ _) rfl ?_
        exact ⟨rfl, B2, true, HS2.out.done (.inr rfl)⟩
      | false =>
        go_wp2_with fail
        refine (group_rd F _ bf wr.heap.size 0 B2 false (HS2.out.item H.out _ _ rfl)).mono ?_
        rintro e w2 ⟨rfl, B3, bad3, hk⟩
        have HK := Lib.hid hk
        obtain ⟨vs, x, hA, hL, hp⟩ := hk.cells
        obtain ⟨hown, q0, q1, q2, q3⟩ := HS2.out.ownAt H.out hk
        have hlen : vs.length = 3 := Lay.len _ hL
        have hone := Lib.hid (Lay.one _ hL)
        have HL := Lib.hid hL
        have HP := Lib.hid hp
        have HA := Lib.hid hA
        have hxl : xs.length = j := HS2.out.len
        obtain ⟨i0, hi, hz0, hz1, hz2⟩ := info_parts Tryz.in187
        have HI := Lib.hid hi
        clear hk hL hp hA hi
        go_wp2_with fail
        rename_i hK
        refine wp_region_S (fun L w' => (L.getD 8 false = false → w'.cell? ⟨b, o, none⟩ = some v) ∧ (L.getD 5 false = false → At w' wr.heap.size 0 vs)) (n := 9) (L := #[false, false, false, false, false, false, false, false, false]) (by kernel_rfl) rfl rfl ?_
        have S0 : (false = false → w2.drew.cell? ⟨b, o, none⟩ = some v) ∧ (false = false → At w2.drew wr.heap.size 0 vs) := ⟨fun _ => q0, fun _ => HA.out⟩
        have C0 := Lib.hid S0
        clear S0
        refine wpAnyS_take' (i := 0) (v := .pointer (some ⟨b, o, none⟩)) (L' := #[true, false, false, false, false, false, false, false, false]) (by simp only [List.getElem?_toArray, List.getElem?_cons_succ, List.getElem?_cons_zero]; rfl) rfl (by simp only [Act.put, List.setIfInBounds_toArray, List.set_cons_succ, List.set_cons_zero]; rfl) (by kernel_rfl) (by kernel_rfl) (by kernel_rfl) (by exact fun _ _ _ h => h) (fun L w' h => ⟨fun hL => h.1 (by rw [getD_set_ne false (by decide)]; exact hL), fun hL => h.2 (by rw [getD_set_ne false (by decide)]; exact hL)⟩) (.inl ⟨rfl, fun _ _ _ _ _ => rfl⟩) (closedB (by kernel_rfl)) C0.out C0.out ?_
        refine wpAnyS_take' (i := 1) (v := .pointer (some ⟨b, o, none⟩)) (L' := #[true, true, false, false, false, false, false, false, false]) (by simp only [List.getElem?_toArray, List.getElem?_cons_succ, List.getElem?_cons_zero]; rfl) rfl (by simp only [Act.put, List.setIfInBounds_toArray, List.set_cons_succ, List.set_cons_zero]; rfl) (by kernel_rfl) (by kernel_rfl) (by kernel_rfl) (by exact fun _ _ _ h => h) (fun L w' h => ⟨fun hL => h.1 (by rw [getD_set_ne false (by decide)]; exact hL), fun hL => h.2 (by rw [getD_set_ne false (by decide)]; exact hL)⟩) (.inl ⟨rfl, fun _ _ _ _ _ => rfl⟩) (closedB (by kernel_rfl)) C0.out C0.out ?_
        refine wpAnyS_take' (i := 2) (v := .pointer (some ⟨b, o, none⟩)) (L' := #[true, true, true, false, false, false, false, false, false]) (by simp only [List.getElem?_toArray, List.getElem?_cons_succ, List.getElem?_cons_zero]; rfl) rfl (by simp only [Act.put, List.setIfInBounds_toArray, List.set_cons_succ, List.set_cons_zero]; rfl) (by kernel_rfl) (by kernel_rfl) (by kernel_rfl) (by exact fun _ _ _ h => h) (fun L w' h => ⟨fun hL => h.1 (by rw [getD_set_ne false (by decide)]; exact hL), fun hL => h.2 (by rw [getD_set_ne false (by decide)]; exact hL)⟩) (.inl ⟨rfl, fun _ _ _ _ _ => rfl⟩) (closedB (by kernel_rfl)) C0.out C0.out ?_
        refine wpAnyS_take' (i := 3) (v := v) (L' := #[true, true, true, true, false, false, false, false, false]) (by simp only [List.getElem?_toArray, List.getElem?_cons_succ, List.getElem?_cons_zero]; rfl) rfl (by simp only [Act.put, List.setIfInBounds_toArray, List.set_cons_succ, List.set_cons_zero]; rfl) (by kernel_rfl) (by kernel_rfl) (by kernel_rfl) (by exact fun _ _ _ h => h) (fun L w' h => ⟨fun hL => h.1 (by rw [getD_set_ne false (by decide)]; exact hL), fun hL => h.2 (by rw [getD_set_ne false (by decide)]; exact hL)⟩) (.inl ⟨rfl, fun L w' hC hL hS => exec_load_one rfl rfl Tryz.underlying23 rfl (hS.1 (hC.not (by kernel_rfl) hL))⟩) (closedB (by kernel_rfl)) C0.out C0.out ?_
        refine wpAnyS_take' (i := 4) (v := .agg vs.toArray) (L' := #[true, true, true, true, true, false, false, false, false]) (by simp only [List.getElem?_toArray, List.getElem?_cons_succ, List.getElem?_cons_zero]; rfl) rfl (by simp only [Act.put, List.setIfInBounds_toArray, List.set_cons_succ, List.set_cons_zero]; rfl) (by kernel_rfl) (by kernel_rfl) (by kernel_rfl) (by exact fun _ _ _ h => h) (fun L w' h => ⟨fun hL => h.1 (by rw [getD_set_ne false (by decide)]; exact hL), fun hL => h.2 (by rw [getD_set_ne false (by decide)]; exact hL)⟩) (.inl ⟨rfl, fun L w' hC hL hS => exec_load_agg rfl rfl Tryz.underlying187 rfl (by rw [HI.out, hlen]; exact congrArg some hz1) (hS.2 (hC.not (by kernel_rfl) hL))⟩) (closedB (by kernel_rfl)) C0.out C0.out ?_
        refine wpAnyS_one (i := 5) (L' := #[true, true, true, true, true, true, false, false, false]) (by kernel_rfl) rfl (by simp only [List.getElem?_toArray, List.getElem?_cons_succ, List.getElem?_cons_zero]; rfl) ?_
        refine wpList_build_one rfl 23 187 (.tmp 54) rfl rfl (n := 3) (by omega) (by omega) hlen Tryz.underlying23 (by rw [HI.out]; simp [hz0, hz1]) ?_
        have hup : Upd (fun _ _ => False) w2 (w2.drew.alloc (.cells vs.toArray 187)) := ((Upd.refl _ w2).drew).alloc _
        refine ⟨⟨fun _ => (hup.cell b o (by omega) (fun h => h)).trans q0, fun _ => hup.at HA.out (fun _ _ h => h)⟩, ?_⟩
        refine wpAnyS_act (by simp only [Act.put, List.setIfInBounds_toArray, List.set_cons_succ, List.set_cons_zero]; rfl) ?_
        refine wpAnyS_one (i := 6) (L' := #[true, true, true, true, true, true, true, false, false]) (by kernel_rfl) rfl (by simp only [List.getElem?_toArray, List.getElem?_cons_succ, List.getElem?_cons_zero]; rfl) ?_
        have hown2 : (w2.drew.alloc (.cells vs.toArray 187)).ownsRow w.heap.size 187 3 v xs.length cs := World.ownsRow.alloc (w := w2.drew) hown _
        refine wpList_append_own_at _ rfl (.tmp 53) (.tmp 55) 23 rfl w.heap.size 187 i0 _ 3 24 Tryz.underlying23 HI.out hz0 hz1 hz2 rfl (by decide) v xs.length cs rfl hown2 ⟨w2.heap.size, 0, none⟩ 1 1 vs rfl (by rw [hlen]) ?_ hone.out ?_ ?_ ?_ ?_
        · intro i u hu
          rw [addr_add]
          exact At.new w2.drew vs.toArray 187 i u (by simpa using hu)
        · unfold maxLen; omega
        · omega
        · simp; omega
        · intro v' w3 hown' hgrow _hx hat
          obtain ⟨A', c', rfl⟩ := own_form hown'
          have HO := Lib.hid hown'
          have HG := Lib.hid hgrow
          have HT := Lib.hid hat
          have hst := append_other (w1 := w2.drew) hown hgrow hlt q0 q1
          refine ⟨⟨fun _ => hst.1, fun h => absurd h (by decide)⟩, ?_⟩
          refine wpAnyS_act (by simp only [Act.put, List.setIfInBounds_toArray, List.set_cons_succ, List.set_cons_zero]; rfl) ?_
          refine wpAnyS_take' (i := 7) (v := .pointer (some ⟨b, o, none⟩)) (L' := #[true, true, true, true, true, true, true, true, false]) (by simp only [List.getElem?_toArray, List.getElem?_cons_succ, List.getElem?_cons_zero]; rfl) rfl (by simp only [Act.put, List.setIfInBounds_toArray, List.set_cons_succ, List.set_cons_zero]; rfl) (by kernel_rfl) (by kernel_rfl) (by kernel_rfl) (by exact fun _ _ _ h => h) (fun L w' h => ⟨fun hL => h.1 (by rw [getD_set_ne false (by decide)]; exact hL), fun hL => h.2 (by rw [getD_set_ne false (by decide)]; exact hL)⟩) (.inl ⟨rfl, fun _ _ _ _ _ => rfl⟩) (closedB (by kernel_rfl)) ⟨fun _ => hst.1, fun h => absurd h (by decide)⟩ ⟨fun _ => hst.1, fun h => absurd h (by decide)⟩ ?_
          refine wpAnyS_one (i := 8) (L' := #[true, true, true, true, true, true, true, true, true]) (by kernel_rfl) rfl (by simp only [List.getElem?_toArray, List.getElem?_cons_succ, List.getElem?_cons_zero]; rfl) ?_
          obtain ⟨q4, q5⟩ := hst
          clear hown' hgrow hat
          go_wp2_with fail
          go_wp2_with fail
          refine ⟨by kernel_rfl, ?_⟩
          refine hK _ _ ?_
          clear hK
          go_wp2_with fail
          go_roundw
          case rel =>
            refine ⟨j + 1, B3, bad3, .slice A' (j + 1) c', cs ++ vs, xs ++ [x], by omega, by go_num, ?_⟩
            have hown4 : w3.ownsRow w.heap.size 187 3 (.slice A' (j + 1) c') (xs.length + 1) (cs ++ vs) := by rw [← hxl]; exact HO.out
            exact LsR.step HS2.out H.out hjn HK.out HL.out (HP.out trivial) hown4 (T' := 187) ⟨HG.out.os, HG.out.tape, HG.out.output, HG.out.size, HG.out.block⟩ (by have := HT.out; rw [hxl] at this; exact this)
          case measure => simp [intOf]; omega
    · go_wp2_with fail
      go_end0
      exact ⟨rfl, B2, bad2, HS2.out.done (.inl (by omega))⟩
end Go.Proofs
