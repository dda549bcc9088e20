/- A part of the codec's writers. -/
import Derived.Test.YthclnpigplcckaaGreatProg
import Derived.Test.YthclnpigplcckaaGreatLibs
import Derived.WalkSpells
import Derived.WalkLawsBesides
import Derived.Deep.LoopGhost
import Derived.Lib.Hide
import Derived.Deep.RegionWith
import Derived.Maps.AppendAt
import Derived.KernelRfl
set_option linter.unusedSimpArgs false
set_option linter.unusedVariables false

set_option linter.unusedSimpArgs false
namespace Go.Proofs
open Go Go.RowKit Cod

theorem Tryz.by5 : (Tryz.prog.info? 5).map (fun i => (i.zero, i.size, i.bytes)) = some (some (.int .u8 0), 1, 1) := by kernel_rfl

set_option maxRecDepth 100000 in
set_option maxHeartbeats 1000000 in
theorem num_wr : WoC Tryz.prog 2 5 90 .num := by
  intro base F w bf b o v B x h
  have H := Lib.hid h
  have c0 := h.form.cell
  have c1 := h.form.flag 0 (by omega)
  have c2 := h.form.flag 1 (by omega)
  have f0 := h.form.fr 0 (by omega)
  have f1 := h.form.fr 1 (by omega)
  have f2 := h.form.fr 2 (by omega)
  have cb := h.num
  have hr := h.okay
  have hlen := h.len
  simp only [Cod.okay] at hr
  simp only [bnd] at hlen
  have hin := (inR_iff x).1 hr
  have HL := Lib.hid (zig_lt hr)
  obtain ⟨i0, hi, hz0, hz1, hz2⟩ := info_parts Tryz.by5
  have HI := Lib.hid hi
  clear h hi
  go_enter Tryz.func90, Tryz.ntmps90
  obtain ⟨U, hU, hUl, hUd⟩ : ∃ U : Nat, U = zig x ∧ U ≤ 2199023255552 ∧ Hid (vint U = encN x) := ⟨zig x, rfl, HL.out, Lib.hid rfl⟩
  go_wp2_with fail
  all_goals
    go_loopw [4] (fun u wr => ∃ (t : Nat) (v' : Value) (B' : List UInt8), u = .int .u64 t ∧ NumW 2 5 base w wr bf v B U t v' B') (fun u _ => (intOf u).toNat)
    case atStart =>
      refine ⟨U, v, B, ?_, .start H.out.form hUl (by omega)⟩
      first
      | exact congrArg _ ((zig_pos hr (by omega)).trans (by rw [hU]))
      | exact congrArg _ ((zig_neg hr (by omega)).trans (by rw [hU]))
    case round =>
      obtain ⟨t, v', B', rfl, hN⟩ := hrel
      have HN := Lib.hid hN
      have d0 := hN.out.cell
      have g0 := hN.out.fr 0 (by omega)
      have hle := hN.le
      have hlB := hN.len
      have hbs : base ≤ wr.heap.size := hN.out.2.2.2.2
      have hlt := hN.out.lt
      clear hN
      have hml : B'.length + 1 ≤ maxLen := by unfold maxLen; omega
      have hmb : (B'.length + 1) * 1 ≤ 140737488355328 := by omega
      by_cases hu : 128 ≤ t
      · go_wp2_with (refine wpList_append_own_at _ rfl (.tmp 45) (.tmp 49) 22 rfl base 5 i0 _ 1 1 Tryz.underlying22 HI.out hz0 hz1 hz2 rfl (by decide) v' B'.length (B'.map u8) rfl (HN.out.out.alloc _).row ⟨wr.heap.size, 0, none⟩ 1 1 [_] rfl rfl (cell_one_new _ _ _) (by intro u hu; simp at hu; subst hu; rfl) hml hmb (by simp; omega) ?_)
        intro v1 w1 hown hg hx hat
        obtain ⟨A1, c1, rfl⟩ := own_form hown
        have hb2 := HN.out.out.behind ((Upd.refl _ wr).alloc _) hg
        obtain ⟨e0, e1⟩ := hb2
        have HO := Lib.hid hown
        have HG := Lib.hid hg
        have HA := Lib.hid hat
        clear hown hg hat
        go_wp2_with fail
        go_roundw
        case rel => exact ⟨t / 128, .slice A1 (B'.length + 1) c1, B' ++ [UInt8.ofNat (128 + t % 128)], by go_num, HN.out.more hUl (by omega) hu (congrArg _ (or128' t)) HO.out HG.out HA.out⟩
        case measure => simp [intOf]; omega
      · go_wp2_with (refine wpList_append_own_at _ rfl (.tmp 57) (.tmp 60) 22 rfl base 5 i0 _ 1 1 Tryz.underlying22 HI.out hz0 hz1 hz2 rfl (by decide) v' B'.length (B'.map u8) rfl (HN.out.out.alloc _).row ⟨wr.heap.size, 0, none⟩ 1 1 [_] rfl rfl (cell_one_new _ _ _) (by intro u hu; simp at hu; subst hu; rfl) hml hmb (by simp; omega) ?_)
        intro v1 w1 hown hg hx hat
        obtain ⟨A1, c1, rfl⟩ := own_form hown
        have hb2 := HN.out.out.behind ((Upd.refl _ wr).alloc _) hg
        obtain ⟨e0, e1⟩ := hb2
        have HO := Lib.hid hown
        have HG := Lib.hid hg
        have HA := Lib.hid hat
        clear hown hg hat
        go_wp2_with fail
        go_end0
        refine ⟨rfl, .slice A1 (B'.length + 1) c1, ?_⟩
        have := HN.out.last (by omega) (congrArg _ (u8_small' (by omega))) HO.out HG.out HA.out
        rw [hUd.out] at this
        exact this
end Go.Proofs
