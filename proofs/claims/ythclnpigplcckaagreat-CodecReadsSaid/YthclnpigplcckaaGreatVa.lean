/- The document's writer, its first functions. -/
import Derived.Test.YthclnpigplcckaaGreatProg
import Derived.Test.YthclnpigplcckaaGreatLibs
import Derived.Test.YthclnpigplcckaaGreatWa
import Derived.WalkSpells
import Derived.WalkLawsBesides
import Derived.Deep.LoopGhost
import Derived.Lib.Hide
import Derived.Deep.RegionWith
import Derived.Maps.AppendAt
import Derived.KernelRfl
set_option linter.unusedSimpArgs false
set_option linter.unusedVariables false

set_option linter.unusedSimpArgs false
namespace Go.Proofs
open Go Go.RowKit Cod

set_option maxRecDepth 100000 in
set_option maxHeartbeats 1000000 in
theorem out_num {base : Nat} {F : Nat → Prop} {w : World} {bf : Nat} {v : Value} {B : List UInt8} {x : Int} (h : VaH 1 5 base .num F w bf v B x) :
    Calls Tryz.prog 99 #[.pointer (some ⟨bf, 0, none⟩), .int .i64 x] w (WoEnd 1 5 base w bf v B (encN x)) := by
  have H := Lib.hid h
  have c0 := h.form.cell
  have c1 := h.form.flag 0 (by omega)
  have f0 := h.form.fr 0 (by omega)
  have f1 := h.form.fr 1 (by omega)
  have hr : inR x = true := h.okay
  have hlen := h.len
  simp only [bnd] at hlen
  have hin := (inR_iff x).1 hr
  have HL := Lib.hid (zig_lt hr)
  obtain ⟨i0, hi, hz0, hz1, hz2⟩ := info_parts Tryz.by5
  have HI := Lib.hid hi
  clear h hi
  go_enter Tryz.func99, Tryz.ntmps99
  obtain ⟨U, hU, hUl, hUd⟩ : ∃ U : Nat, U = zig x ∧ U ≤ 2199023255552 ∧ Hid (vint U = encN x) := ⟨zig x, rfl, HL.out, Lib.hid rfl⟩
  rcases Int.lt_or_le x 0 with hx0 | hx0
  all_goals
    go_wp2_with fail
    go_loopw [4] (fun u wr => ∃ (t : Nat) (v' : Value) (B' : List UInt8), u = .int .i64 t ∧ NumW 1 5 base w wr bf v B U t v' B') (fun u _ => (intOf u).toNat)
    case atStart =>
      refine ⟨U, v, B, ?_, .start H.out.form hUl (by omega)⟩
      have hzz : (U : Int) = if x < 0 then -2 * x - 1 else 2 * x := by
        rw [hU]; unfold zig; split <;> omega
      first
      | exact congrArg _ (by rw [hzz, if_neg (by omega)])
      | exact congrArg _ (by rw [hzz, if_pos (by omega)])
    case round =>
      obtain ⟨t, v', B', rfl, hN⟩ := hrel
      have HN := Lib.hid hN
      have d0 := hN.out.cell
      have g0 := hN.out.fr 0 (by omega)
      have hle := hN.le
      have hlB := hN.len
      have hbs : base ≤ wr.heap.size := hN.out.2.2.2.2
      have hlt := hN.out.lt
      clear hN
      have hml : B'.length + 1 ≤ maxLen := by unfold maxLen; omega
      have hmb : (B'.length + 1) * 1 ≤ 140737488355328 := by omega
      by_cases hu : 128 ≤ t
      · go_wp2_with (refine wpList_append_own_at _ rfl (.tmp 27) (.tmp 32) 22 rfl base 5 i0 _ 1 1 Tryz.underlying22 HI.out hz0 hz1 hz2 rfl (by decide) v' B'.length (B'.map u8) rfl (HN.out.out.alloc _).row ⟨wr.heap.size, 0, none⟩ 1 1 [_] rfl rfl (cell_one_new _ _ _) (by intro u hu; simp at hu; subst hu; rfl) hml hmb (by simp; omega) ?_)
        intro v1 w1 hown hg hx hat
        obtain ⟨A1, c1, rfl⟩ := own_form hown
        have hb2 := HN.out.out.behind ((Upd.refl _ wr).alloc _) hg
        obtain ⟨e0, e1⟩ := hb2
        have HO := Lib.hid hown
        have HG := Lib.hid hg
        have HA := Lib.hid hat
        clear hown hg hat
        go_wp2_with fail
        go_roundw
        case rel => exact ⟨t / 128, .slice A1 (B'.length + 1) c1, B' ++ [UInt8.ofNat (128 + t % 128)], by go_num, HN.out.more hUl (by omega) hu (congrArg _ (by first | exact add128 t | exact add128' t)) HO.out HG.out HA.out⟩
        case measure => simp [intOf]; omega
      · go_wp2_with (refine wpList_append_own_at _ rfl (.tmp 42) (.tmp 45) 22 rfl base 5 i0 _ 1 1 Tryz.underlying22 HI.out hz0 hz1 hz2 rfl (by decide) v' B'.length (B'.map u8) rfl (HN.out.out.alloc _).row ⟨wr.heap.size, 0, none⟩ 1 1 [_] rfl rfl (cell_one_new _ _ _) (by intro u hu; simp at hu; subst hu; rfl) hml hmb (by simp; omega) ?_)
        intro v1 w1 hown hg hx hat
        obtain ⟨A1, c1, rfl⟩ := own_form hown
        have hb2 := HN.out.out.behind ((Upd.refl _ wr).alloc _) hg
        obtain ⟨e0, e1⟩ := hb2
        have HO := Lib.hid hown
        have HG := Lib.hid hg
        have HA := Lib.hid hat
        clear hown hg hat
        go_wp2_with fail
        go_end0
        refine ⟨rfl, .slice A1 (B'.length + 1) c1, ?_⟩
        have := HN.out.last (by omega) (congrArg _ (u8_small' (by omega))) HO.out HG.out HA.out
        rw [hUd.out] at this
        exact this
end Go.Proofs

set_option linter.unusedSimpArgs false
namespace Go.Proofs
open Go Go.RowKit Cod

set_option maxRecDepth 100000 in
set_option maxHeartbeats 1000000 in
theorem out_flag {base : Nat} {F : Nat → Prop} {w : World} {bf : Nat} {v : Value} {B : List UInt8} {x : Bool} (h : VaH 1 5 base .flag F w bf v B x) :
    Calls Tryz.prog 107 #[.pointer (some ⟨bf, 0, none⟩), .bool x] w (WoEnd 1 5 base w bf v B (enc .flag x)) := by
  have H := Lib.hid h
  have hlen := h.len
  simp only [bnd] at hlen
  clear h
  go_enter Tryz.func107, Tryz.ntmps107
  cases x
  all_goals
    go_wp2_with fail
    refine (out_num (H.out.form.va (n := _) (by first | exact inR_small (n := 0) (by omega) | exact inR_small (n := 1) (by omega)) hlen)).mono ?_
    rintro e w1 ⟨rfl, v1, p⟩
    have P := Lib.hid p
    clear p
    go_wp2_with fail
    go_end0
    exact ⟨rfl, v1, P.out⟩

set_option maxRecDepth 100000 in
set_option maxHeartbeats 1000000 in
theorem out_count {base : Nat} {w : World} {bf : Nat} {v : Value} {B : List UInt8} {n : Nat} (h : OutK 1 5 base w bf v B) (hn : n ≤ 64) (hl : B.length + 6 ≤ 70368744177664) :
    Calls Tryz.prog 102 #[.pointer (some ⟨bf, 0, none⟩), .int .i64 (n : Int)] w (WoEnd 1 5 base w bf v B (encN n)) := by
  have H := Lib.hid h
  have c1 : w.cell? ⟨bf, 1, none⟩ = some (.bool false) := h.flag 0 (by omega)
  have f1 := h.fr 1 (by omega)
  clear h
  go_enter Tryz.func102, Tryz.ntmps102
  go_wp2_with fail
  all_goals
    rw [show decide ((64 : Int) < (n : Int)) = false by simp; omega, setCell_self c1]
    refine (out_num (H.out.va (n := (n : Int)) (inR_small (by omega)) hl)).mono ?_
    rintro e w1 ⟨rfl, v1, p⟩
    have P := Lib.hid p
    clear p
    go_wp2_with fail
    go_end0
    exact ⟨rfl, v1, P.out⟩

set_option maxRecDepth 100000 in
set_option maxHeartbeats 1000000 in
theorem out_bytes : VaC1 Tryz.prog 108 .raw := by
  intro base F w bf v B u x h hL
  obtain ⟨A, n, c, e, hb⟩ := hL
  injection e with e
  subst e
  have H := Lib.hid h
  have c1 : w.cell? ⟨bf, 1, none⟩ = some (.bool false) := h.form.flag 0 (by omega)
  have f1 := h.form.fr 1 (by omega)
  have hbl := hb.1
  have HB := Lib.hid hb
  have hok := h.okay
  simp only [Cod.okay, decide_eq_true_eq] at hok
  have hlen := h.len
  simp only [bnd] at hlen
  obtain ⟨i0, hi, hz0, hz1, hz2⟩ := info_parts Tryz.by5
  have HI := Lib.hid hi
  clear h hb hi
  go_enter Tryz.func108, Tryz.ntmps108
  go_wp2_with fail
  all_goals
    rw [show decide ((65536 : Int) < (n : Int)) = false by simp; omega, setCell_self c1]
    refine (out_num (H.out.form.va (n := (n : Int)) (inR_small (by omega)) (by omega))).mono ?_
    rintro e w1 ⟨rfl, v1, p⟩
    have P := Lib.hid p
    have d0 := p.form.cell
    have g0 := p.form.fr 0 (by omega)
    have hbs : base ≤ w1.heap.size := p.form.2.2.2.2
    have HB1 : Hid (Bts F w1 A n x) := Lib.hid (HB.out.keep (fun _ h => h) (fun q hq _ => (p.keeps (H.out.sep q hq)).1))
    have hB1 : (B ++ encN (n : Int)).length ≤ B.length + 6 := by
      have := encN_len (inR_small (n := n) (by omega))
      simp only [List.length_append]
      omega
    clear p
    go_wp2_with (refine wpList_append_bts rfl (.tmp 24) (.tmp 25) 22 rfl base 5 i0 _ Tryz.underlying22 HI.out hz0 hz1 hz2 rfl v1 (B ++ encN (n : Int)) rfl P.out.form.row hbs rfl HB1.out (by omega) ?_)
    intro v2 w2 hown hg hat
    obtain ⟨A2, c2', rfl⟩ := own_form hown
    obtain ⟨e0, e1⟩ := P.out.form.behind (Upd.refl _ w1) hg
    have HO := Lib.hid hown
    have HG := Lib.hid hg
    have HA := Lib.hid hat
    clear hown hg hat
    go_wp2_with fail
    go_end0
    have e4 : enc .raw x = encN (n : Int) ++ x := by rw [← hbl]; rfl
    have W := P.out.trans (P.out.form.append (l := x) (n := (B ++ encN (n : Int)).length + n) (us := (B ++ encN (n : Int)).map u8 ++ x.map u8) (Upd.refl _ w1) rfl (by rw [hbl]) (by simpa [Nat.add_assoc] using HO.out) HG.out HA.out)
    rw [← e4] at W
    first
    | exact ⟨rfl, _, W⟩
    | (rw [List.length_append] at W; exact ⟨rfl, _, W⟩)

set_option maxRecDepth 100000 in
set_option maxHeartbeats 1000000 in
theorem out_nums : VaC1 Tryz.prog 115 (.list .num) := by
  intro base F w bf v B u x h hL
  obtain ⟨A, c, e, _⟩ := Lay.slice hL
  injection e with e
  subst e
  have H := Lib.hid h
  have HL := Lib.hid hL
  have h64 := (okay_list h.okay).1
  have hlen := h.len
  simp only [bnd] at hlen
  clear h hL
  go_enter Tryz.func115, Tryz.ntmps115
  go_wp2_with fail
  refine (out_count (n := x.length) H.out.form h64 (by omega)).mono ?_
  rintro e w1 ⟨rfl, v1, p⟩
  have P : Hid (Wr 1 5 base w w1 bf v B (encJ .num x 0) v1) := Lib.hid (by rw [encJ_zero]; exact p)
  clear p
  go_wp2_with fail
  go_loopw [4] (fun i wr => ∃ (j : Nat) (v' : Value), j ≤ x.length ∧ i = .int .i64 j ∧ Wr 1 5 base w wr bf v B (encJ .num x j) v') (fun i _ => x.length - (intOf i).toNat)
  case atStart => exact ⟨0, v1, by omega, rfl, P.out⟩
  case round =>
    obtain ⟨j, v2, hj, rfl, hp⟩ := hrel
    have HP := Lib.hid hp
    by_cases hjn : j < x.length
    · obtain ⟨b', o', ws, rfl, hws, hat, hn1, hn2, hn3, hL, hW⟩ := H.out.itemAt HL.out hjn hp
      have hws1 := Lay.num hL
      obtain ⟨y, hy1, hcj⟩ : ∃ y : Int, Hid (y = x[j]) ∧ wr.cell? ⟨b', o' + j, none⟩ = some (.int .i64 y) := ⟨_, Lib.hid rfl, by
        rw [hws1] at hat
        have := hat.head
        simpa [szc] using this⟩
      have HW : Hid (VaH 1 5 base .num F wr bf v2 (B ++ encJ .num x j) y) := Lib.hid (by rw [hy1.out]; exact hW)
      clear hp hat hL hW hws1 hws hn1 hn2 hn3
      go_wp2_with fail
      refine (out_num HW.out).mono ?_
      rintro e w2 ⟨rfl, v3, q⟩
      have HQ := Lib.hid q
      clear q
      go_wp2_with fail
      go_roundw
      case rel => exact ⟨j + 1, v3, by omega, by go_num, by rw [encJ_succ _ _ hjn, ← hy1.out]; exact HP.out.trans HQ.out⟩
      case measure => simp [intOf]; omega
    · clear hp
      go_wp2_with fail
      go_end0
      obtain rfl : j = x.length := by omega
      exact ⟨rfl, v2, by rw [← encJ_all]; exact HP.out⟩

/-- Numbers one behind the other, out of a row in a block of its own. -/
theorem Wr.seq {k e base n j : Nat} {w w1 w2 : World} {bf : Nat} {v v1 v2 : Value} {B : List UInt8} {x : Ty (numsL n)} (hj : j < n)
    (p : Wr k e base w w1 bf v B (((toL n x).take j).map encN).flatten v1) (q : Wr k e base w1 w2 bf v1 (B ++ (((toL n x).take j).map encN).flatten) (encN ((toL n x)[j]'(by rw [toL_len]; exact hj))) v2) :
    Wr k e base w w2 bf v B (((toL n x).take (j + 1)).map encN).flatten v2 := Wr.numMore hj p q

set_option maxRecDepth 100000 in
set_option maxHeartbeats 1000000 in
theorem out_nums16 {base : Nat} {F : Nat → Prop} {w : World} {bf bl n c : Nat} {v : Value} {B : List UInt8} {x : Ty (numsL n)} (h : VaH 1 5 base (numsL n) F w bf v B x) (hb : Box w bf v bl ((toL n x).map (.int .i64))) (hn : n ≤ 1000) :
    Calls Tryz.prog 106 #[.pointer (some ⟨bf, 0, none⟩), .slice (some ⟨bl, 0, none⟩) n c] w (WoEnd 1 5 base w bf v B (enc (numsL n) x)) := by
  have H := Lib.hid h
  have HB := Lib.hid hb
  have hlen := h.len
  rw [toL_bnd] at hlen
  clear h hb
  go_enter Tryz.func106, Tryz.ntmps106
  go_wp2_with fail
  go_loopw [4] (fun i wr => ∃ (j : Nat) (v' : Value), j ≤ n ∧ i = .int .i64 j ∧ Wr 1 5 base w wr bf v B (((toL n x).take j).map encN).flatten v') (fun i _ => n - (intOf i).toNat)
  case atStart => exact ⟨0, v, by omega, rfl, Wr.refl H.out.form⟩
  case round =>
    obtain ⟨j, v2, hj, rfl, hp⟩ := hrel
    have HP := Lib.hid hp
    by_cases hjn : j < n
    · have hl := toL_len n x
      obtain ⟨y, hy1, hcj⟩ : ∃ y : Int, Hid (y = (toL n x)[j]'(by omega)) ∧ wr.cell? ⟨bl, j, none⟩ = some (.int .i64 y) := ⟨_, Lib.hid rfl, by
        have := (HB.out.next hp).at_ j (.int .i64 ((toL n x)[j]'(by omega))) (by rw [List.getElem?_map, List.getElem?_eq_getElem (by omega)]; rfl)
        rwa [Nat.zero_add] at this⟩
      have HW : Hid (VaH 1 5 base .num F wr bf v2 (B ++ (((toL n x).take j).map encN).flatten) y) := Lib.hid ⟨hp.form, fun q hq => (hp.keeps (H.out.sep q hq)).2, by rw [hy1.out]; exact toL_okay n x H.out.okay _ (List.getElem_mem _), by
        have h2 := flat_len ((toL n x).take j) (fun m hm => toL_okay n x H.out.okay m (List.mem_of_mem_take hm))
        rw [List.length_take] at h2
        simp only [bnd, List.length_append]
        omega⟩
      clear hp
      go_wp2_with fail
      refine (out_num HW.out).mono ?_
      rintro e w2 ⟨rfl, v3, q⟩
      have HQ := Lib.hid q
      clear q
      go_wp2_with fail
      go_roundw
      case rel => exact ⟨j + 1, v3, by omega, by go_num, Wr.seq hjn HP.out (by have := HQ.out; rw [hy1.out] at this; exact this)⟩
      case measure => simp [intOf]; omega
    · clear hp
      go_wp2_with fail
      go_end0
      obtain rfl : j = n := by omega
      exact ⟨rfl, v2, Wr.numAll HP.out⟩

theorem out_nums16' {base : Nat} {F : Nat → Prop} {w : World} {bf bl n c : Nat} {v : Value} {B : List UInt8} {x : Ty (numsL n)} {cs : Array Value} {T : TypeId} (h : VaH 1 5 base (numsL n) F w bf v B x) (hbl : bl = w.heap.size) (hcs : cs.toList = (toL n x).map (.int .i64)) (hn : n ≤ 1000) :
    Calls Tryz.prog 106 #[.pointer (some ⟨bf, 0, none⟩), .slice (some ⟨bl, 0, none⟩) n c] (w.alloc (.cells cs T)) (WoEnd 1 5 base w bf v B (enc (numsL n) x)) := by
  subst hbl
  have hb := Box.new h.form ((toL n x).map (.int .i64)) T
  rw [← hcs] at hb
  refine (out_nums16 (c := c) (h.alloc (.cells cs T)) (by rw [← hcs]; exact hb) hn).mono ?_
  rintro e w' ⟨rfl, v', p⟩
  exact ⟨rfl, v', p.alloc⟩
end Go.Proofs

set_option linter.unusedSimpArgs false
namespace Go.Proofs
open Go Go.RowKit Cod

theorem out_nums16d {base : Nat} {F : Nat → Prop} {w : World} {bf bl n c : Nat} {v : Value} {B : List UInt8} {x : Ty (numsL n)} {cs : Array Value} {T : TypeId} (h : VaH 1 5 base (numsL n) F w bf v B x) (hbl : bl = w.heap.size) (hcs : cs.toList = (toL n x).map (.int .i64)) (hn : n ≤ 1000) :
    Calls Tryz.prog 106 #[.pointer (some ⟨bf, 0, none⟩), .slice (some ⟨bl, 0, none⟩) n c] (w.alloc (.cells cs T)).drew (WoEnd 1 5 base w bf v B (enc (numsL n) x)) := by
  refine (out_nums16' (w := w.drew) (bl := bl) (c := c) (cs := cs) (T := T) (x := x) (F := F) ⟨h.form, h.sep, h.okay, h.len⟩ hbl hcs hn).mono ?_
  rintro e w' ⟨rfl, v', p⟩
  exact ⟨rfl, v', p.ofDrew⟩
end Go.Proofs
