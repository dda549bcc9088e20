/- Sum, frame, clone and the known frame. -/
import Derived.Test.YthclnpigplcckaaGreatProg
import Derived.Test.YthclnpigplcckaaGreatCa
import Derived.WalkSpells
import Derived.WalkLawsBesides
import Derived.Deep.LoopGhost
import Derived.Lib.Hide
import Derived.Lib.SliceRun
import Derived.DeepKeys
import Derived.Laws.StructEq
import Derived.Deep.RegionWith
import Derived.Maps.AppendAt
import Derived.KernelRfl
set_option linter.unusedSimpArgs false
set_option linter.unusedVariables false

set_option linter.unusedSimpArgs false
namespace Go.Proofs
open Go Go.RowKit Cod

def ClonePost (l : List UInt8) (n : Nat) (w : World) (e : Ending) (w' : World) : Prop :=
  ∃ A c, e = .returned (.slice A n c) ∧ n ≤ c ∧ Upd (fun _ _ => False) w w' ∧ Bts (fun k => w.heap.size ≤ k) w' A n l

set_option maxRecDepth 100000 in
set_option maxHeartbeats 1000000 in
theorem clone_c {F : Nat → Prop} {w : World} {ad : Addr} {n c : Nat} {l : List UInt8} (h : Bts F w (some ad) n l) (hn : n ≤ 1000000) :
    Calls Tryz.prog 66 #[.slice (some ad) n c] w (ClonePost l n w) := by
  have H := Lib.hid h
  have hl := h.1
  obtain ⟨i0, hi, hz0, hz1, hz2⟩ := info_parts Tryz.by5
  have HI := Lib.hid hi
  clear h hi
  have hb := Lib.run_eql_slice_nil (P := Tryz.prog) w 22 5 (some ad) n c 0 0 Tryz.underlying22
  go_enter Tryz.func66, Tryz.ntmps66
  have OW : Hid ((w.alloc (.cells #[] 5)).ownsRow w.heap.size 5 1 (.slice (some ⟨w.heap.size, 0, none⟩) 0 0) 0 []) := Lib.hid (World.ownsRow_made w #[] 0 (Nat.le_refl _) (by unfold maxLen; omega) rfl)
  have HA : Hid (Bts F (w.alloc (.cells #[] 5)) (some ad) n l) := Lib.hid (H.out.keep (fun _ h => h) (fun q _ hq => Below.heap_alloc _ _ _ hq))
  go_wp2_with (refine wpList_append_bts rfl (.tmp 5) (.tmp 6) 22 rfl w.heap.size 5 i0 _ Tryz.underlying22 HI.out hz0 hz1 hz2 rfl _ [] rfl OW.out (by simp) rfl HA.out (by simp; omega) ?_)
  intro v1 w1 hown hg hat
  have S1 : Hid (FrS w w1 v1 l) := Lib.hid ⟨by have := hown; rw [← hl] at this; simpa using this, ((Upd.refl _ w).alloc _).grownNew hg (fun q hq => by simp [Value.ownBlock] at hq; omega)⟩
  clear hown hg hat
  obtain ⟨A1, c1, hv1, hn1, hb1⟩ := S1.out.bts
  subst hv1
  have HB1 := Lib.hid hb1
  clear hb1 hb
  go_wp2_with fail
  go_ret
  exact ⟨A1, c1, by simp [hl], by omega, S1.out.upd, by have := HB1.out; rwa [hl] at this⟩




theorem Tryz.key135 : (keyOf Tryz.prog 135 (.agg #[.int .u8 189, .int .u8 62, .int .u8 138, .int .u8 34])).isSome = true := by kernel_rfl
theorem Tryz.keyT135 : Tryz.prog.keyTypeAt 2 135 = true := by kernel_rfl
theorem Tryz.wide135 : (match Tryz.prog.underlying 135 with | some (.array _ _) | some (.struct _) => true | _ => false) = true := by kernel_rfl
set_option maxRecDepth 100000 in
theorem eq4 (w : World) : (Op.equalIn 10000 135 (.agg #[.int .u8 189, .int .u8 62, .int .u8 138, .int .u8 34]) (.agg #[.int .u8 189, .int .u8 62, .int .u8 138, .int .u8 34])).run Tryz.prog w = .ok true w := by
  obtain ⟨lx, hlx⟩ := Option.isSome_iff_exists.1 Tryz.key135
  obtain ⟨r, hr, hiff⟩ := run_equal_deep (P := Tryz.prog) w (m := 2) (by omega) (k := 135) Tryz.keyT135 Tryz.wide135 hlx hlx
  rw [hiff.2 rfl] at hr
  simpa [Op.equal, Op.maxDepth] using hr
theorem neq4 (w : World) : (binOp .neq 135 (.agg #[.int .u8 189, .int .u8 62, .int .u8 138, .int .u8 34]) (.agg #[.int .u8 189, .int .u8 62, .int .u8 138, .int .u8 34])).run Tryz.prog w = .ok (.bool false) w := by
  rw [run_neq_struct, eq4]
  rfl




/-- What stands in the frame that is taken apart. -/
structure UfS (w : World) (b o : Nat) : Prop where
  all : Bts (fun _ => True) w (some ⟨b, o, none⟩) 16 fr16
theorem UfS.at_ {w : World} {b o : Nat} (h : UfS w b o) : At w b o (fr16.map u8) := by
  obtain ⟨b', o', e, _, hA⟩ := h.all.2.2 (by omega)
  injection e with e
  injection e with e1 e2
  subst e1
  subst e2
  exact hA
theorem UfS.upd {w w' : World} {b o : Nat} (h : UfS w b o) (u : Upd (fun _ _ => False) w w') : UfS w' b o := ⟨h.all.keep (fun _ h => h) (fun q _ hq => u.block q hq (fun _ h => h))⟩
theorem UfS.n4 {w : World} {b o : Nat} (h : UfS w b o) : Bts (fun _ => True) w (some ⟨b, o, none⟩) 4 [0, 0, 0, 1] := h.all.take 4 (by omega)
theorem UfS.n6 {w : World} {b o : Nat} (h : UfS w b o) : Bts (fun _ => True) w (some ⟨b, o + 5, none⟩) 6 [0, 0, 0, 0, 0, 2] := (h.all.cut (c := 16) (fun _ => rfl) 5 (by omega) (by omega) (fun _ => rfl)).take 6 (by omega)
theorem UfS.n12 {w : World} {b o : Nat} (h : UfS w b o) : Bts (fun _ => True) w (some ⟨b, o, none⟩) 12 fr12 := h.all.take 12 (by omega)
theorem UfS.n1 {w : World} {b o : Nat} (h : UfS w b o) : Bts (fun _ => True) w (some ⟨b, o + 11, none⟩) 1 [97] := (h.all.cut (c := 16) (fun _ => rfl) 11 (by omega) (by omega) (fun _ => rfl)).take 1 (by omega)
theorem UfS.c4 {w : World} {b o : Nat} (h : UfS w b o) : w.cell? ⟨b, o + 4, none⟩ = some (.int .u8 1) := h.at_ 4 _ rfl
theorem UfS.a4 {w : World} {b o : Nat} (h : UfS w b o) : At w b (o + 12) [.int .u8 189, .int .u8 62, .int .u8 138, .int .u8 34] := fun i v hv => by
  have := h.at_ (12 + i) v (by
    match i, hv with
    | 0, hv => exact hv
    | 1, hv => exact hv
    | 2, hv => exact hv
    | 3, hv => exact hv)
  rwa [← Nat.add_assoc] at this

theorem results_tmp5 {fn : Func} {a b c d e : Tmp} (h : fn.results = #[.tmp a, .tmp b, .tmp c, .tmp d, .tmp e]) (tmps : Array Value) (P : Program) (w : World) :
    (results fn tmps).run P w = .ok (.tuple #[tmps.getD a undef, tmps.getD b undef, tmps.getD c undef, tmps.getD d undef, tmps.getD e undef]) w := by
  simp [results, h]

def UnPost (w : World) (e : Ending) (w' : World) : Prop :=
  ∃ A c, e = .returned (.tuple #[.int .i64 1, .int .i64 2, .slice A 1 c, .int .i64 16, .int .i64 0]) ∧ 1 ≤ c ∧ Upd (fun _ _ => False) w w' ∧ Bts (fun k => w.heap.size ≤ k) w' A 1 [97]

set_option maxRecDepth 100000 in
set_option maxHeartbeats 1000000 in
theorem unframe_c {w : World} {A : Option Addr} {c : Nat} (h : Bts (fun _ => True) w A 16 fr16) (hc : 16 ≤ c) :
    Calls Tryz.prog 28 #[.slice A 16 c] w (UnPost w) := by
  obtain ⟨b, o, rfl, _, hA⟩ := h.2.2 (by omega)
  have U0 : Hid (UfS w b o) := Lib.hid ⟨h⟩
  have U1 : Hid (UfS w.drew b o) := Lib.hid ⟨h⟩
  clear h hA
  go_enter Tryz.func28, Tryz.ntmps28
  go_wp2_with fail
  rename_i hK
  refine wp_region_S (fun _ w' => UfS w' b o) (n := 8) (L := #[false, false, false, false, false, false, false, false]) (by kernel_rfl) rfl rfl ?_
  refine wpAnyS_take' (i := 0) (v := .slice (some ⟨b, o, none⟩) 16 c) (L' := #[true, false, false, false, false, false, false, false]) (by simp only [List.getElem?_toArray, List.getElem?_cons_succ, List.getElem?_cons_zero]; rfl) rfl (by simp only [Act.put, List.setIfInBounds_toArray, List.set_cons_succ, List.set_cons_zero]; rfl) (by kernel_rfl) (by kernel_rfl) (by kernel_rfl) (by exact fun _ _ _ h => h) (fun _ _ h => h) (.inl ⟨rfl, fun _ _ _ _ _ => rfl⟩) (closedB (by kernel_rfl)) U1.out U1.out ?_
  refine wpAnyS_take' (i := 3) (v := .slice (some ⟨b, o, none⟩) 16 c) (L' := #[true, false, false, true, false, false, false, false]) (by simp only [List.getElem?_toArray, List.getElem?_cons_succ, List.getElem?_cons_zero]; rfl) rfl (by simp only [Act.put, List.setIfInBounds_toArray, List.set_cons_succ, List.set_cons_zero]; rfl) (by kernel_rfl) (by kernel_rfl) (by kernel_rfl) (by exact fun _ _ _ h => h) (fun _ _ h => h) (.inl ⟨rfl, fun _ _ _ _ _ => rfl⟩) (closedB (by kernel_rfl)) U1.out U1.out ?_
  refine wpAnyS_take' (i := 1) (v := .slice (some ⟨b, o, none⟩) 4 c) (L' := #[true, true, false, true, false, false, false, false]) (by simp only [List.getElem?_toArray, List.getElem?_cons_succ, List.getElem?_cons_zero]; rfl) rfl (by simp only [Act.put, List.setIfInBounds_toArray, List.set_cons_succ, List.set_cons_zero]; rfl) (by kernel_rfl) (by kernel_rfl) (by kernel_rfl) (by exact fun _ _ _ h => h) (fun _ _ h => h) (.inl ⟨rfl, fun L w' hC hL hS => by go_simp; first | (intro h; omega) | (rw [if_pos (by omega), if_neg (by omega)])⟩) (closedB (by kernel_rfl)) U1.out U1.out ?_
  refine wpAnyS_take' (i := 4) (v := .slice (some ⟨b, o + 5, none⟩) 6 (c - 5)) (L' := #[true, true, false, true, true, false, false, false]) (by simp only [List.getElem?_toArray, List.getElem?_cons_succ, List.getElem?_cons_zero]; rfl) rfl (by simp only [Act.put, List.setIfInBounds_toArray, List.set_cons_succ, List.set_cons_zero]; rfl) (by kernel_rfl) (by kernel_rfl) (by kernel_rfl) (by exact fun _ _ _ h => h) (fun _ _ h => h) (.inl ⟨rfl, fun L w' hC hL hS => by go_simp; first | (intro h; omega) | (rw [if_pos (by omega), if_neg (by omega)])⟩) (closedB (by kernel_rfl)) U1.out U1.out ?_
  refine wpAnyS_one (i := 2) (L' := #[true, true, true, true, true, false, false, false]) (by kernel_rfl) rfl (by simp only [List.getElem?_toArray, List.getElem?_cons_succ, List.getElem?_cons_zero]; rfl) ?_
  go_wp2_with fail
  refine (number_c (c := c) U1.out.n4).mono ?_
  rintro e w1 ⟨rfl, rfl⟩
  rw [num_fr4]
  go_wp2_with fail
  refine ⟨U1.out, ?_⟩
  refine wpAnyS_one (i := 5) (L' := #[true, true, true, true, true, true, false, false]) (by kernel_rfl) rfl (by simp only [List.getElem?_toArray, List.getElem?_cons_succ, List.getElem?_cons_zero]; rfl) ?_
  go_wp2_with fail
  refine (number_c (c := c - 5) U1.out.n6).mono ?_
  rintro e w1 ⟨rfl, rfl⟩
  rw [num_fr6]
  go_wp2_with fail
  refine ⟨U1.out, ?_⟩
  refine wpAnyS_one (i := 6) (L' := #[true, true, true, true, true, true, true, false]) (by kernel_rfl) rfl (by simp only [List.getElem?_toArray, List.getElem?_cons_succ, List.getElem?_cons_zero]; rfl) ?_
  go_wp2_with fail
  refine ⟨U1.out, ?_⟩
  refine wpAnyS_one (i := 7) (L' := #[true, true, true, true, true, true, true, true]) (by kernel_rfl) rfl (by simp only [List.getElem?_toArray, List.getElem?_cons_succ, List.getElem?_cons_zero]; rfl) ?_
  go_wp2_with fail
  refine ⟨U1.out, wpAnyS_done (by kernel_rfl) ?_ _⟩
  refine hK _ _ ?_
  clear hK
  go_wp2_with fail
  have U2 : Hid (UfS w.drew.drew b o) := Lib.hid ⟨U1.out.all⟩
  rename_i hK
  refine wp_region_S (fun _ w' => UfS w' b o) (n := 12) (L := #[false, false, false, false, false, false, false, false, false, false, false, false]) (by kernel_rfl) rfl rfl ?_
  refine wpAnyS_take' (i := 0) (v := .slice (some ⟨b, o, none⟩) 16 c) (L' := #[true, false, false, false, false, false, false, false, false, false, false, false]) (by simp only [List.getElem?_toArray, List.getElem?_cons_succ, List.getElem?_cons_zero]; rfl) rfl (by simp only [Act.put, List.setIfInBounds_toArray, List.set_cons_succ, List.set_cons_zero]; rfl) (by kernel_rfl) (by kernel_rfl) (by kernel_rfl) (by exact fun _ _ _ h => h) (fun _ _ h => h) (.inl ⟨rfl, fun _ _ _ _ _ => rfl⟩) (closedB (by kernel_rfl)) U2.out U2.out ?_
  refine wpAnyS_take' (i := 1) (v := .int .i64 12) (L' := #[true, true, false, false, false, false, false, false, false, false, false, false]) (by simp only [List.getElem?_toArray, List.getElem?_cons_succ, List.getElem?_cons_zero]; rfl) rfl (by simp only [Act.put, List.setIfInBounds_toArray, List.set_cons_succ, List.set_cons_zero]; rfl) (by kernel_rfl) (by kernel_rfl) (by kernel_rfl) (by exact fun _ _ _ h => h) (fun _ _ h => h) (.inl ⟨rfl, fun _ _ _ _ _ => rfl⟩) (closedB (by kernel_rfl)) U2.out U2.out ?_
  refine wpAnyS_take' (i := 2) (v := .int .i64 12) (L' := #[true, true, true, false, false, false, false, false, false, false, false, false]) (by simp only [List.getElem?_toArray, List.getElem?_cons_succ, List.getElem?_cons_zero]; rfl) rfl (by simp only [Act.put, List.setIfInBounds_toArray, List.set_cons_succ, List.set_cons_zero]; rfl) (by kernel_rfl) (by kernel_rfl) (by kernel_rfl) (by exact fun _ _ _ h => h) (fun _ _ h => h) (.inl ⟨rfl, fun _ _ _ _ _ => rfl⟩) (closedB (by kernel_rfl)) U2.out U2.out ?_
  refine wpAnyS_take' (i := 3) (v := .int .i64 16) (L' := #[true, true, true, true, false, false, false, false, false, false, false, false]) (by simp only [List.getElem?_toArray, List.getElem?_cons_succ, List.getElem?_cons_zero]; rfl) rfl (by simp only [Act.put, List.setIfInBounds_toArray, List.set_cons_succ, List.set_cons_zero]; rfl) (by kernel_rfl) (by kernel_rfl) (by kernel_rfl) (by exact fun _ _ _ h => h) (fun _ _ h => h) (.inl ⟨rfl, fun L w' hC hL hS => by first | rfl | go_simp⟩) (closedB (by kernel_rfl)) U2.out U2.out ?_
  refine wpAnyS_take' (i := 4) (v := .slice (some ⟨b, o + 12, none⟩) 4 (c - 12)) (L' := #[true, true, true, true, true, false, false, false, false, false, false, false]) (by simp only [List.getElem?_toArray, List.getElem?_cons_succ, List.getElem?_cons_zero]; rfl) rfl (by simp only [Act.put, List.setIfInBounds_toArray, List.set_cons_succ, List.set_cons_zero]; rfl) (by kernel_rfl) (by kernel_rfl) (by kernel_rfl) (by exact fun _ _ _ h => h) (fun _ _ h => h) (.inl ⟨rfl, fun L w' hC hL hS => by go_simp; first | done | (intro h; omega) | (rw [if_pos (by omega), if_neg (by omega)]) | (rw [if_neg (by omega)])⟩) (closedB (by kernel_rfl)) U2.out U2.out ?_
  refine wpAnyS_take' (i := 5) (v := .pointer (some ⟨b, o + 12, none⟩)) (L' := #[true, true, true, true, true, true, false, false, false, false, false, false]) (by simp only [List.getElem?_toArray, List.getElem?_cons_succ, List.getElem?_cons_zero]; rfl) rfl (by simp only [Act.put, List.setIfInBounds_toArray, List.set_cons_succ, List.set_cons_zero]; rfl) (by kernel_rfl) (by kernel_rfl) (by kernel_rfl) (by exact fun _ _ _ h => h) (fun _ _ h => h) (.inl ⟨rfl, fun L w' hC hL hS => by first | rfl | go_simp⟩) (closedB (by kernel_rfl)) U2.out U2.out ?_
  refine wpAnyS_take' (i := 6) (v := .agg #[.int .u8 189, .int .u8 62, .int .u8 138, .int .u8 34]) (L' := #[true, true, true, true, true, true, true, false, false, false, false, false]) (by simp only [List.getElem?_toArray, List.getElem?_cons_succ, List.getElem?_cons_zero]; rfl) rfl (by simp only [Act.put, List.setIfInBounds_toArray, List.set_cons_succ, List.set_cons_zero]; rfl) (by kernel_rfl) (by kernel_rfl) (by kernel_rfl) (by exact fun _ _ _ h => h) (fun _ _ h => h) (.inl ⟨rfl, fun L w' hC hL hS => exec_load_agg (vs := [.int .u8 189, .int .u8 62, .int .u8 138, .int .u8 34]) rfl rfl Tryz.underlying135 rfl Tryz.sz135 hS.a4⟩) (closedB (by kernel_rfl)) U2.out U2.out ?_
  refine wpAnyS_take' (i := 7) (v := .slice (some ⟨b, o, none⟩) 16 c) (L' := #[true, true, true, true, true, true, true, true, false, false, false, false]) (by simp only [List.getElem?_toArray, List.getElem?_cons_succ, List.getElem?_cons_zero]; rfl) rfl (by simp only [Act.put, List.setIfInBounds_toArray, List.set_cons_succ, List.set_cons_zero]; rfl) (by kernel_rfl) (by kernel_rfl) (by kernel_rfl) (by exact fun _ _ _ h => h) (fun _ _ h => h) (.inl ⟨rfl, fun _ _ _ _ _ => rfl⟩) (closedB (by kernel_rfl)) U2.out U2.out ?_
  refine wpAnyS_take' (i := 8) (v := .int .i64 12) (L' := #[true, true, true, true, true, true, true, true, true, false, false, false]) (by simp only [List.getElem?_toArray, List.getElem?_cons_succ, List.getElem?_cons_zero]; rfl) rfl (by simp only [Act.put, List.setIfInBounds_toArray, List.set_cons_succ, List.set_cons_zero]; rfl) (by kernel_rfl) (by kernel_rfl) (by kernel_rfl) (by exact fun _ _ _ h => h) (fun _ _ h => h) (.inl ⟨rfl, fun _ _ _ _ _ => rfl⟩) (closedB (by kernel_rfl)) U2.out U2.out ?_
  refine wpAnyS_take' (i := 9) (v := .slice (some ⟨b, o, none⟩) 12 c) (L' := #[true, true, true, true, true, true, true, true, true, true, false, false]) (by simp only [List.getElem?_toArray, List.getElem?_cons_succ, List.getElem?_cons_zero]; rfl) rfl (by simp only [Act.put, List.setIfInBounds_toArray, List.set_cons_succ, List.set_cons_zero]; rfl) (by kernel_rfl) (by kernel_rfl) (by kernel_rfl) (by exact fun _ _ _ h => h) (fun _ _ h => h) (.inl ⟨rfl, fun L w' hC hL hS => by go_simp; first | done | (intro h; omega) | (rw [if_pos (by omega), if_neg (by omega)]) | (rw [if_neg (by omega)])⟩) (closedB (by kernel_rfl)) U2.out U2.out ?_
  refine wpAnyS_one (i := 10) (L' := #[true, true, true, true, true, true, true, true, true, true, true, false]) (by kernel_rfl) rfl (by simp only [List.getElem?_toArray, List.getElem?_cons_succ, List.getElem?_cons_zero]; rfl) ?_
  go_wp2_with fail
  refine (sum_c (c := c) U2.out.n12).mono ?_
  rintro e w2 ⟨rfl, hu2⟩
  have U3 := Lib.hid (U2.out.upd hu2)
  have V2 : Hid (Upd (fun _ _ => False) w w2) := Lib.hid (((Upd.refl _ w).drew.drew).trans hu2)
  clear hu2
  rw [sum_fr]
  go_wp2_with fail
  refine ⟨U3.out, ?_⟩
  have hq := eq4 w2
  refine wpAnyS_one (i := 11) (L' := #[true, true, true, true, true, true, true, true, true, true, true, true]) (by kernel_rfl) rfl (by simp only [List.getElem?_toArray, List.getElem?_cons_succ, List.getElem?_cons_zero]; rfl) ?_
  go_wp2_with fail
  refine ⟨U3.out, wpAnyS_done (by kernel_rfl) ?_ _⟩
  refine hK _ _ ?_
  clear hK hq
  go_wp2_with fail
  have U4 : Hid (UfS w2.drew b o) := Lib.hid ⟨U3.out.all⟩
  rename_i hK
  refine wp_region_S (fun _ w' => UfS w' b o) (n := 16) (L := #[false, false, false, false, false, false, false, false, false, false, false, false, false, false, false, false]) (by kernel_rfl) rfl rfl ?_
  refine wpAnyS_take' (i := 0) (v := .slice (some ⟨b, o, none⟩) 16 c) (L' := #[true, false, false, false, false, false, false, false, false, false, false, false, false, false, false, false]) (by simp only [List.getElem?_toArray, List.getElem?_cons_succ, List.getElem?_cons_zero]; rfl) rfl (by simp only [Act.put, List.setIfInBounds_toArray, List.set_cons_succ, List.set_cons_zero]; rfl) (by kernel_rfl) (by kernel_rfl) (by kernel_rfl) (by exact fun _ _ _ h => h) (fun _ _ h => h) (.inl ⟨rfl, fun _ _ _ _ _ => rfl⟩) (closedB (by kernel_rfl)) U4.out U4.out ?_
  refine wpAnyS_take' (i := 5) (v := .slice (some ⟨b, o, none⟩) 16 c) (L' := #[true, false, false, false, false, true, false, false, false, false, false, false, false, false, false, false]) (by simp only [List.getElem?_toArray, List.getElem?_cons_succ, List.getElem?_cons_zero]; rfl) rfl (by simp only [Act.put, List.setIfInBounds_toArray, List.set_cons_succ, List.set_cons_zero]; rfl) (by kernel_rfl) (by kernel_rfl) (by kernel_rfl) (by exact fun _ _ _ h => h) (fun _ _ h => h) (.inl ⟨rfl, fun _ _ _ _ _ => rfl⟩) (closedB (by kernel_rfl)) U4.out U4.out ?_
  refine wpAnyS_take' (i := 6) (v := .int .i64 12) (L' := #[true, false, false, false, false, true, true, false, false, false, false, false, false, false, false, false]) (by simp only [List.getElem?_toArray, List.getElem?_cons_succ, List.getElem?_cons_zero]; rfl) rfl (by simp only [Act.put, List.setIfInBounds_toArray, List.set_cons_succ, List.set_cons_zero]; rfl) (by kernel_rfl) (by kernel_rfl) (by kernel_rfl) (by exact fun _ _ _ h => h) (fun _ _ h => h) (.inl ⟨rfl, fun _ _ _ _ _ => rfl⟩) (closedB (by kernel_rfl)) U4.out U4.out ?_
  refine wpAnyS_take' (i := 1) (v := .pointer (some ⟨b, o + 4, none⟩)) (L' := #[true, true, false, false, false, true, true, false, false, false, false, false, false, false, false, false]) (by simp only [List.getElem?_toArray, List.getElem?_cons_succ, List.getElem?_cons_zero]; rfl) rfl (by simp only [Act.put, List.setIfInBounds_toArray, List.set_cons_succ, List.set_cons_zero]; rfl) (by kernel_rfl) (by kernel_rfl) (by kernel_rfl) (by exact fun _ _ _ h => h) (fun _ _ h => h) (.inl ⟨rfl, fun L w' hC hL hS => by go_simp; first | done | (intro h; omega) | (rw [if_pos (by omega), if_neg (by omega)]) | (rw [if_neg (by omega)])⟩) (closedB (by kernel_rfl)) U4.out U4.out ?_
  refine wpAnyS_take' (i := 2) (v := .int .u8 1) (L' := #[true, true, true, false, false, true, true, false, false, false, false, false, false, false, false, false]) (by simp only [List.getElem?_toArray, List.getElem?_cons_succ, List.getElem?_cons_zero]; rfl) rfl (by simp only [Act.put, List.setIfInBounds_toArray, List.set_cons_succ, List.set_cons_zero]; rfl) (by kernel_rfl) (by kernel_rfl) (by kernel_rfl) (by exact fun _ _ _ h => h) (fun _ _ h => h) (.inl ⟨rfl, fun L w' hC hL hS => exec_load_one rfl rfl Tryz.underlying5 rfl hS.c4⟩) (closedB (by kernel_rfl)) U4.out U4.out ?_
  refine wpAnyS_take' (i := 3) (v := .int .i64 1) (L' := #[true, true, true, true, false, true, true, false, false, false, false, false, false, false, false, false]) (by simp only [List.getElem?_toArray, List.getElem?_cons_succ, List.getElem?_cons_zero]; rfl) rfl (by simp only [Act.put, List.setIfInBounds_toArray, List.set_cons_succ, List.set_cons_zero]; rfl) (by kernel_rfl) (by kernel_rfl) (by kernel_rfl) (by exact fun _ _ _ h => h) (fun _ _ h => h) (.inl ⟨rfl, fun L w' hC hL hS => by first | rfl | go_simp⟩) (closedB (by kernel_rfl)) U4.out U4.out ?_
  refine wpAnyS_take' (i := 4) (v := .int .i64 2) (L' := #[true, true, true, true, true, true, true, false, false, false, false, false, false, false, false, false]) (by simp only [List.getElem?_toArray, List.getElem?_cons_succ, List.getElem?_cons_zero]; rfl) rfl (by simp only [Act.put, List.setIfInBounds_toArray, List.set_cons_succ, List.set_cons_zero]; rfl) (by kernel_rfl) (by kernel_rfl) (by kernel_rfl) (by exact fun _ _ _ h => h) (fun _ _ h => h) (.inl ⟨rfl, fun _ _ _ _ _ => rfl⟩) (closedB (by kernel_rfl)) U4.out U4.out ?_
  refine wpAnyS_take' (i := 7) (v := .slice (some ⟨b, o + 11, none⟩) 1 (c - 11)) (L' := #[true, true, true, true, true, true, true, true, false, false, false, false, false, false, false, false]) (by simp only [List.getElem?_toArray, List.getElem?_cons_succ, List.getElem?_cons_zero]; rfl) rfl (by simp only [Act.put, List.setIfInBounds_toArray, List.set_cons_succ, List.set_cons_zero]; rfl) (by kernel_rfl) (by kernel_rfl) (by kernel_rfl) (by exact fun _ _ _ h => h) (fun _ _ h => h) (.inl ⟨rfl, fun L w' hC hL hS => by go_simp; first | done | (intro h; omega) | (rw [if_pos (by omega), if_neg (by omega)]) | (rw [if_neg (by omega)])⟩) (closedB (by kernel_rfl)) U4.out U4.out ?_
  refine wpAnyS_take' (i := 9) (v := .int .i64 12) (L' := #[true, true, true, true, true, true, true, true, false, true, false, false, false, false, false, false]) (by simp only [List.getElem?_toArray, List.getElem?_cons_succ, List.getElem?_cons_zero]; rfl) rfl (by simp only [Act.put, List.setIfInBounds_toArray, List.set_cons_succ, List.set_cons_zero]; rfl) (by kernel_rfl) (by kernel_rfl) (by kernel_rfl) (by exact fun _ _ _ h => h) (fun _ _ h => h) (.inl ⟨rfl, fun _ _ _ _ _ => rfl⟩) (closedB (by kernel_rfl)) U4.out U4.out ?_
  refine wpAnyS_take' (i := 10) (v := .int .i64 16) (L' := #[true, true, true, true, true, true, true, true, false, true, true, false, false, false, false, false]) (by simp only [List.getElem?_toArray, List.getElem?_cons_succ, List.getElem?_cons_zero]; rfl) rfl (by simp only [Act.put, List.setIfInBounds_toArray, List.set_cons_succ, List.set_cons_zero]; rfl) (by kernel_rfl) (by kernel_rfl) (by kernel_rfl) (by exact fun _ _ _ h => h) (fun _ _ h => h) (.inl ⟨rfl, fun L w' hC hL hS => by first | rfl | go_simp⟩) (closedB (by kernel_rfl)) U4.out U4.out ?_
  refine wpAnyS_one (i := 8) (L' := #[true, true, true, true, true, true, true, true, true, true, true, false, false, false, false, false]) (by kernel_rfl) rfl (by simp only [List.getElem?_toArray, List.getElem?_cons_succ, List.getElem?_cons_zero]; rfl) ?_
  go_wp2_with fail
  refine (clone_c (c := c - 11) U4.out.n1 (by omega)).mono ?_
  rintro e w3 ⟨A3, c3, rfl, hn3, hu3, hb3⟩
  have U5 := Lib.hid (U4.out.upd hu3)
  have V3 : Hid (Upd (fun _ _ => False) w w3) := Lib.hid (V2.out.drew.trans hu3)
  have HB3 : Hid (Bts (fun k => w.heap.size ≤ k) w3 A3 1 [97]) := Lib.hid (hb3.keep (fun k hk => Nat.le_trans V2.out.size hk) (fun _ _ _ => rfl))
  clear hu3 hb3
  go_wp2_with fail
  refine ⟨U5.out, ?_⟩
  refine wpAnyS_one (i := 11) (L' := #[true, true, true, true, true, true, true, true, true, true, true, true, false, false, false, false]) (by kernel_rfl) rfl (by simp only [List.getElem?_toArray, List.getElem?_cons_succ, List.getElem?_cons_zero]; rfl) ?_
  go_wp2_with fail
  refine ⟨U5.out, ?_⟩
  refine wpAnyS_one (i := 12) (L' := #[true, true, true, true, true, true, true, true, true, true, true, true, true, false, false, false]) (by kernel_rfl) rfl (by simp only [List.getElem?_toArray, List.getElem?_cons_succ, List.getElem?_cons_zero]; rfl) ?_
  go_wp2_with fail
  refine ⟨U5.out, ?_⟩
  refine wpAnyS_one (i := 13) (L' := #[true, true, true, true, true, true, true, true, true, true, true, true, true, true, false, false]) (by kernel_rfl) rfl (by simp only [List.getElem?_toArray, List.getElem?_cons_succ, List.getElem?_cons_zero]; rfl) ?_
  go_wp2_with fail
  refine ⟨U5.out, ?_⟩
  refine wpAnyS_one (i := 14) (L' := #[true, true, true, true, true, true, true, true, true, true, true, true, true, true, true, false]) (by kernel_rfl) rfl (by simp only [List.getElem?_toArray, List.getElem?_cons_succ, List.getElem?_cons_zero]; rfl) ?_
  go_wp2_with fail
  refine ⟨U5.out, ?_⟩
  refine wpAnyS_one (i := 15) (L' := #[true, true, true, true, true, true, true, true, true, true, true, true, true, true, true, true]) (by kernel_rfl) rfl (by simp only [List.getElem?_toArray, List.getElem?_cons_succ, List.getElem?_cons_zero]; rfl) ?_
  go_wp2_with fail
  refine ⟨U5.out, wpAnyS_done (by kernel_rfl) ?_ _⟩
  refine hK _ _ ?_
  clear hK
  go_wp2_with fail
  refine bodyPost_ret (results_tmp5 rfl _ _ _) rfl ?_
  exact ⟨A3, c3, rfl, hn3, V3.out, HB3.out⟩
end Go.Proofs
