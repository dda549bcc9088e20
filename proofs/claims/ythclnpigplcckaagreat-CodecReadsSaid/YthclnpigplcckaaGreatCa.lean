/- Sum, frame, clone and the known frame. -/
import Derived.Test.YthclnpigplcckaaGreatProg
import Derived.Test.YthclnpigplcckaaGreatLibs
import Derived.WalkSpells
import Derived.WalkLawsBesides
import Derived.Deep.LoopGhost
import Derived.Lib.Hide
import Derived.Deep.RegionWith
import Derived.Maps.AppendAt
import Derived.KernelRfl
import Derived.Test.YthclnpigplcckaaGreatWa
set_option linter.unusedSimpArgs false
set_option linter.unusedVariables false

set_option linter.unusedSimpArgs false
namespace Go.Proofs
open Go Go.RowKit Cod

/-- A number of bytes, the highest first. -/
def crcIn (s : Int) (b : UInt8) : Int := bits .xor .u32 s ((b.toNat : Int) % 4294967296)
def crcSt (s : Int) : Int := bits .xor .u32 (s / 2) (bits .and .u32 s 1 * 2197175160 % 4294967296)
def crcN : Nat → Int → Int
  | 0, s => s
  | k + 1, s => crcSt (crcN k s)
def crcB (s : Int) (b : UInt8) : Int := crcN 8 (crcIn s b)
def crcL (l : List UInt8) : Int := l.foldl crcB 4294967295
def sumV (l : List UInt8) : List Value :=
  [.int .u8 (bits .xor .u32 IntKind.u32.max (crcL l) % 256), .int .u8 (bits .xor .u32 IntKind.u32.max (crcL l) / 256 % 256), .int .u8 (bits .xor .u32 IntKind.u32.max (crcL l) / 65536 % 256), .int .u8 (bits .xor .u32 IntKind.u32.max (crcL l) / 16777216 % 256)]
def SumPost (l : List UInt8) (w : World) (e : Ending) (w' : World) : Prop := e = .returned (.agg (sumV l).toArray) ∧ Upd (fun _ _ => False) w w'
def numS (n : Int) (b : UInt8) : Int := bits .or .i64 (wrap64 (n * 256)) (wrap64 (b.toNat : Int))
def numB (l : List UInt8) : Int := l.foldl numS 0

theorem Tryz.sz135 : (Tryz.prog.info? 135).map (·.size) = some 4 := by kernel_rfl

set_option maxRecDepth 100000 in
set_option maxHeartbeats 1000000 in
theorem sum_c {F : Nat → Prop} {w : World} {A : Option Addr} {n c : Nat} {l : List UInt8} (h : Bts F w A n l) :
    Calls Tryz.prog 64 #[.slice A n c] w (SumPost l w) := by
  have H := Lib.hid h
  have hl := h.1
  have hm := h.2.1
  clear h
  go_enter Tryz.func64, Tryz.ntmps64
  go_wp2_with fail
  go_loopw [3, 8] (fun s i wr => ∃ (j : Nat), j ≤ n ∧ i = .int .i64 j ∧ s = .int .u32 (crcL (l.take j)) ∧ wr = w.alloc (.cells #[.int .u8 0, .int .u8 0, .int .u8 0, .int .u8 0] 135)) (fun _ i _ => n - (intOf i).toNat)
  case atStart => exact ⟨0, by omega, rfl, rfl, rfl⟩
  case round =>
    obtain ⟨j, hj, rfl, rfl, rfl⟩ := hrel
    by_cases hjn : j < n
    · obtain ⟨b, o, rfl, hlj, hb⟩ := H.out.byte hjn
      have hb2 : (w.alloc (.cells #[.int .u8 0, .int .u8 0, .int .u8 0, .int .u8 0] 135)).cell? ⟨b, o + j, none⟩ = some (.int .u8 ((l[j]).toNat : Int)) := (World.cell?_alloc_lt _ _ _ (World.block_lt_of_cell? w _ hb)).trans hb
      obtain ⟨x, hx⟩ : ∃ x : Nat, Hid (x = (l[j]).toNat) := ⟨_, Lib.hid rfl⟩
      rw [← hx.out] at hb2
      obtain ⟨t, ht⟩ : ∃ t : Int, Hid (t = crcL (l.take j)) := ⟨_, Lib.hid rfl⟩
      rw [← ht.out]
      clear hb
      go_wp2_with fail
      go_loopw [3, 16] (fun s i wr => ∃ (k : Nat), k ≤ 8 ∧ i = .int .i64 k ∧ s = .int .u32 (crcN k (bits .xor .u32 t ((x : Int) % 4294967296))) ∧ wr = w.alloc (.cells #[.int .u8 0, .int .u8 0, .int .u8 0, .int .u8 0] 135)) (fun _ i _ => 8 - (intOf i).toNat)
      case atStart => exact ⟨0, by omega, rfl, rfl, rfl⟩
      case round =>
        obtain ⟨k, hk, rfl, rfl, rfl⟩ := hrel
        obtain ⟨t2, ht2⟩ : ∃ t2 : Int, Hid (t2 = crcN k (bits .xor .u32 t ((x : Int) % 4294967296))) := ⟨_, Lib.hid rfl⟩
        rw [← ht2.out]
        by_cases hk8 : k < 8
        · go_wp2_with fail
          refine ⟨⟨k + 1, by omega, by go_num, ?_, trivial⟩, by simp [intOf]; omega⟩
          show _ = Value.int .u32 (crcSt (crcN k (bits .xor .u32 t ((x : Int) % 4294967296))))
          rw [← ht2.out]
          rfl
        · have hk9 : k = 8 := by omega
          subst hk9
          go_wp2_with fail
          refine ⟨⟨j + 1, by omega, by go_num, ?_, trivial⟩, by simp [intOf]; omega⟩
          rw [List.take_succ_eq_append_getElem hlj, ht2.out]
          unfold crcL at ht ⊢
          rw [List.foldl_append, ← ht.out, hx.out]
          rfl
    · have e : l.take j = l := List.take_of_length_le (by omega)
      rw [e]
      obtain ⟨T, hT⟩ : ∃ T : Int, Hid (T = crcL l) := ⟨_, Lib.hid rfl⟩
      rw [← hT.out]
      go_wp2_with fail
      refine ret_row1 (vs := [.int .u8 (bits .xor .u32 IntKind.u32.max T % 256), .int .u8 (bits .xor .u32 IntKind.u32.max T / 256 % 256), .int .u8 (bits .xor .u32 IntKind.u32.max T / 65536 % 256), .int .u8 (bits .xor .u32 IntKind.u32.max T / 16777216 % 256)]) rfl rfl Tryz.underlying135 rfl Tryz.sz135 (At.new w _ _) rfl ?_
      exact ⟨by rw [hT.out]; rfl, (Upd.refl _ w).alloc _⟩

set_option maxRecDepth 100000 in
set_option maxHeartbeats 1000000 in
theorem number_c {F : Nat → Prop} {w : World} {A : Option Addr} {n c : Nat} {l : List UInt8} (h : Bts F w A n l) :
    Calls Tryz.prog 65 #[.slice A n c] w (fun e w' => e = .returned (.int .i64 (numB l)) ∧ w' = w) := by
  have H := Lib.hid h
  have hl := h.1
  have hm := h.2.1
  clear h
  go_enter Tryz.func65, Tryz.ntmps65
  go_wp2_with fail
  go_loopw [3, 8] (fun s i wr => ∃ (j : Nat), j ≤ n ∧ i = .int .i64 j ∧ s = .int .i64 (numB (l.take j)) ∧ wr = w) (fun _ i _ => n - (intOf i).toNat)
  case atStart => exact ⟨0, by omega, rfl, rfl, rfl⟩
  case round =>
    obtain ⟨j, hj, rfl, rfl, rfl⟩ := hrel
    by_cases hjn : j < n
    · obtain ⟨b, o, rfl, hlj, hb⟩ := H.out.byte hjn
      obtain ⟨x, hx⟩ : ∃ x : Nat, Hid (x = (l[j]).toNat) := ⟨_, Lib.hid rfl⟩
      rw [← hx.out] at hb
      obtain ⟨t, ht⟩ : ∃ t : Int, Hid (t = numB (l.take j)) := ⟨_, Lib.hid rfl⟩
      rw [← ht.out]
      go_wp2_with fail
      refine ⟨⟨j + 1, by omega, by go_num, ?_, trivial⟩, by simp [intOf]; omega⟩
      rw [List.take_succ_eq_append_getElem hlj]
      unfold numB at ht ⊢
      rw [List.foldl_append, ← ht.out, hx.out]
      rfl
    · have e : l.take j = l := List.take_of_length_le (by omega)
      rw [e]
      go_wp2_with fail
      go_ret
      exact ⟨rfl, rfl⟩

/-- The head and the body of the known frame. -/
def fr12 : List UInt8 := [0, 0, 0, 1, 1, 0, 0, 0, 0, 0, 2, 97]
theorem sum_fr : sumV fr12 = [.int .u8 189, .int .u8 62, .int .u8 138, .int .u8 34] := by kernel_rfl
theorem num_fr4 : numB [0, 0, 0, 1] = 1 := by kernel_rfl
theorem num_fr6 : numB [0, 0, 0, 0, 0, 2] = 2 := by kernel_rfl
end Go.Proofs

set_option linter.unusedSimpArgs false
namespace Go.Proofs
open Go Go.RowKit Cod

def fr16 : List UInt8 := fr12 ++ [189, 62, 138, 34]
def FramePost (w : World) (e : Ending) (w' : World) : Prop :=
  ∃ A c, e = .returned (.tuple #[.slice A 16 c, .int .i64 0]) ∧ 16 ≤ c ∧ Upd (fun _ _ => False) w w' ∧ Bts (fun k => w.heap.size ≤ k) w' A 16 fr16

set_option maxRecDepth 100000 in
set_option maxHeartbeats 1000000 in
theorem frame_c {F : Nat → Prop} {w : World} {A : Option Addr} {c : Nat} (h : Bts F w A 1 [97]) :
    Calls Tryz.prog 27 #[.int .i64 1, .int .i64 2, .slice A 1 c] w (FramePost w) := by
  have H := Lib.hid h
  obtain ⟨i0, hi, hz0, hz1, hz2⟩ := info_parts Tryz.by5
  have HI := Lib.hid hi
  clear h hi
  go_enter Tryz.func27, Tryz.ntmps27
  have hz1b : i0.bytes * 16 ≤ 281474976710656 := by rw [hz2]; decide
  go_wp2_with (refine wpList_make_own _ rfl _ _ 22 rfl w.heap.size 5 i0 _ 1 Tryz.underlying22 HI.out hz0 hz1 _ _ _ 16 rfl rfl rfl hz1b (by unfold maxLen; omega) (Nat.le_refl _) ?_)
  intro w1 hown hg
  have S1 : Hid (FrS w w1 (.slice (some ⟨w.heap.size, 0, none⟩) 0 16) []) := Lib.hid ⟨hown, (Upd.refl _ w).grownNew (row := none) hg (fun q hq => by cases hq)⟩
  have hs1 := S1.out.upd.size
  clear hown hg
  go_wp2_with (refine wpList_append_bts rfl (.tmp 37) (.tmp 51) 22 rfl w.heap.size 5 i0 _ Tryz.underlying22 HI.out hz0 hz1 hz2 rfl (.slice (some ⟨w.heap.size, 0, none⟩) 0 16) [] rfl (S1.out.upds ((Upd.refl _ w1).alloc _)).row (by simp; omega) rfl (Bts.new w1 _ 5 [0, 0, 0, 1, 1] rfl (by omega) rfl) (by simp) ?_)
  intro v2 w2 hown hg hat
  have S2 : Hid (FrS w w2 v2 [0, 0, 0, 1, 1]) := Lib.hid (S1.out.append ((Upd.refl _ w1).alloc _) (l := [0, 0, 0, 1, 1]) rfl rfl hown hg)
  clear hown hg hat hs1
  go_wp2_with fail
  go_loopw [9, 10] (fun v i wr => ∃ (k : Nat), k ≤ 6 ∧ i = .int .i64 (40 - 8 * (k : Int)) ∧ FrS w wr v ([0, 0, 0, 1, 1] ++ [0, 0, 0, 0, 0, 2].take k)) (fun _ i _ => (intOf i + 8).toNat)
  case atStart => exact ⟨0, by omega, rfl, S2.out⟩
  case round =>
    obtain ⟨k, hk, hi, hS⟩ := hrel
    subst hi
    have HS := Lib.hid hS
    have hsr := hS.upd.size
    clear hS
    by_cases hk6 : k < 6
    · have hc : k = 0 ∨ k = 1 ∨ k = 2 ∨ k = 3 ∨ k = 4 ∨ k = 5 := by omega
      rcases hc with rfl | rfl | rfl | rfl | rfl | rfl
      · go_wp2_with (refine wpList_append_bts rfl (.tmp 57) (.tmp 62) 22 rfl w.heap.size 5 i0 _ Tryz.underlying22 HI.out hz0 hz1 hz2 rfl _ [0, 0, 0, 1, 1] rfl (HS.out.upds ((Upd.refl _ wr).alloc _)).row (by simp; omega) rfl (Bts.new wr _ 5 [0] rfl (by omega) rfl) (by simp) ?_)
        intro v3 w3 hown hg hat
        have S3 : Hid (FrS w w3 v3 [0, 0, 0, 1, 1, 0]) := Lib.hid (HS.out.append ((Upd.refl _ wr).alloc _) (l := [0]) rfl rfl hown hg)
        clear hown hg hat
        go_wp2_with fail
        go_roundw
        case rel => exact ⟨1, by omega, by go_num, S3.out⟩
        case measure => simp [intOf]
      · go_wp2_with (refine wpList_append_bts rfl (.tmp 57) (.tmp 62) 22 rfl w.heap.size 5 i0 _ Tryz.underlying22 HI.out hz0 hz1 hz2 rfl _ [0, 0, 0, 1, 1, 0] rfl (HS.out.upds ((Upd.refl _ wr).alloc _)).row (by simp; omega) rfl (Bts.new wr _ 5 [0] rfl (by omega) rfl) (by simp) ?_)
        intro v3 w3 hown hg hat
        have S3 : Hid (FrS w w3 v3 [0, 0, 0, 1, 1, 0, 0]) := Lib.hid (HS.out.append ((Upd.refl _ wr).alloc _) (l := [0]) rfl rfl hown hg)
        clear hown hg hat
        go_wp2_with fail
        go_roundw
        case rel => exact ⟨2, by omega, by go_num, S3.out⟩
        case measure => simp [intOf]
      · go_wp2_with (refine wpList_append_bts rfl (.tmp 57) (.tmp 62) 22 rfl w.heap.size 5 i0 _ Tryz.underlying22 HI.out hz0 hz1 hz2 rfl _ [0, 0, 0, 1, 1, 0, 0] rfl (HS.out.upds ((Upd.refl _ wr).alloc _)).row (by simp; omega) rfl (Bts.new wr _ 5 [0] rfl (by omega) rfl) (by simp) ?_)
        intro v3 w3 hown hg hat
        have S3 : Hid (FrS w w3 v3 [0, 0, 0, 1, 1, 0, 0, 0]) := Lib.hid (HS.out.append ((Upd.refl _ wr).alloc _) (l := [0]) rfl rfl hown hg)
        clear hown hg hat
        go_wp2_with fail
        go_roundw
        case rel => exact ⟨3, by omega, by go_num, S3.out⟩
        case measure => simp [intOf]
      · go_wp2_with (refine wpList_append_bts rfl (.tmp 57) (.tmp 62) 22 rfl w.heap.size 5 i0 _ Tryz.underlying22 HI.out hz0 hz1 hz2 rfl _ [0, 0, 0, 1, 1, 0, 0, 0] rfl (HS.out.upds ((Upd.refl _ wr).alloc _)).row (by simp; omega) rfl (Bts.new wr _ 5 [0] rfl (by omega) rfl) (by simp) ?_)
        intro v3 w3 hown hg hat
        have S3 : Hid (FrS w w3 v3 [0, 0, 0, 1, 1, 0, 0, 0, 0]) := Lib.hid (HS.out.append ((Upd.refl _ wr).alloc _) (l := [0]) rfl rfl hown hg)
        clear hown hg hat
        go_wp2_with fail
        go_roundw
        case rel => exact ⟨4, by omega, by go_num, S3.out⟩
        case measure => simp [intOf]
      · go_wp2_with (refine wpList_append_bts rfl (.tmp 57) (.tmp 62) 22 rfl w.heap.size 5 i0 _ Tryz.underlying22 HI.out hz0 hz1 hz2 rfl _ [0, 0, 0, 1, 1, 0, 0, 0, 0] rfl (HS.out.upds ((Upd.refl _ wr).alloc _)).row (by simp; omega) rfl (Bts.new wr _ 5 [0] rfl (by omega) rfl) (by simp) ?_)
        intro v3 w3 hown hg hat
        have S3 : Hid (FrS w w3 v3 [0, 0, 0, 1, 1, 0, 0, 0, 0, 0]) := Lib.hid (HS.out.append ((Upd.refl _ wr).alloc _) (l := [0]) rfl rfl hown hg)
        clear hown hg hat
        go_wp2_with fail
        go_roundw
        case rel => exact ⟨5, by omega, by go_num, S3.out⟩
        case measure => simp [intOf]
      · go_wp2_with (refine wpList_append_bts rfl (.tmp 57) (.tmp 62) 22 rfl w.heap.size 5 i0 _ Tryz.underlying22 HI.out hz0 hz1 hz2 rfl _ [0, 0, 0, 1, 1, 0, 0, 0, 0, 0] rfl (HS.out.upds ((Upd.refl _ wr).alloc _)).row (by simp; omega) rfl (Bts.new wr _ 5 [2] rfl (by omega) rfl) (by simp) ?_)
        intro v3 w3 hown hg hat
        have S3 : Hid (FrS w w3 v3 [0, 0, 0, 1, 1, 0, 0, 0, 0, 0, 2]) := Lib.hid (HS.out.append ((Upd.refl _ wr).alloc _) (l := [2]) rfl rfl hown hg)
        clear hown hg hat
        go_wp2_with fail
        go_roundw
        case rel => exact ⟨6, by omega, by go_num, S3.out⟩
        case measure => simp [intOf]
    · obtain rfl : k = 6 := by omega
      have hb7 := HS.out.upd
      have HB7 : Hid (Bts F wr A 1 [97]) := Lib.hid (H.out.keep (fun _ h => h) (fun q _ hq => hb7.block q hq (fun _ h => h)))
      clear hb7
      go_wp2_with (refine wpList_append_bts rfl (.tmp 64) (.tmp 65) 22 rfl w.heap.size 5 i0 _ Tryz.underlying22 HI.out hz0 hz1 hz2 rfl _ [0, 0, 0, 1, 1, 0, 0, 0, 0, 0, 2] rfl HS.out.row hsr rfl HB7.out (by simp) ?_)
      intro v4 w4 hown hg hat
      have S4 : Hid (FrS w w4 v4 fr12) := Lib.hid (HS.out.append (Upd.refl _ wr) (l := [97]) rfl rfl hown hg)
      clear hown hg hat
      obtain ⟨A4, c4, hv4, hn4, hb4⟩ := S4.out.bts
      subst hv4
      have HB4 := Lib.hid hb4
      clear hb4
      go_wp2_with fail
      refine (sum_c (c := c4) HB4.out).mono ?_
      rintro e w5 ⟨rfl, hu5⟩
      have S5 := Lib.hid (S4.out.upds hu5)
      clear hu5
      have hs5 := S5.out.upd.size
      rw [sum_fr]
      go_wp2_with (refine wpList_append_bts rfl (.tmp 69) (.tmp 70) 22 rfl w.heap.size 5 i0 _ Tryz.underlying22 HI.out hz0 hz1 hz2 rfl (.slice A4 fr12.length c4) fr12 rfl (S5.out.upds ((Upd.refl _ w5).alloc _)).row (by simp; omega) rfl (Bts.new w5 _ 135 [189, 62, 138, 34] rfl (by omega) rfl) (by decide) ?_)
      intro v6 w6 hown hg hat
      have S6 : Hid (FrS w w6 v6 fr16) := Lib.hid (S5.out.append ((Upd.refl _ w5).alloc _) (l := [189, 62, 138, 34]) rfl rfl hown hg)
      clear hown hg hat
      obtain ⟨A6, c6, hv6, hn6, hb6⟩ := S6.out.bts
      subst hv6
      have HB6 := Lib.hid hb6
      clear hb6
      go_wp2_with fail
      go_ret2
      exact ⟨A6, c6, rfl, hn6, S6.out.upd, HB6.out⟩
end Go.Proofs
