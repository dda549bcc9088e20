/- A part of the document's readers. -/
import Derived.Test.YthclnpigplcckaaGreatProg
import Derived.Test.YthclnpigplcckaaGreatLibs
import Derived.Test.YthclnpigplcckaaGreatZb
import Derived.Test.YthclnpigplcckaaGreatZc
import Derived.Test.YthclnpigplcckaaGreatZa
import Derived.Test.YthclnpigplcckaaGreatRd
import Derived.Test.YthclnpigplcckaaGreatRh
import Derived.Test.YthclnpigplcckaaGreatGa
import Derived.Test.YthclnpigplcckaaGreatGb
import Derived.WalkSpells
import Derived.WalkLawsBesides
import Derived.Deep.LoopGhost
import Derived.Lib.Hide
import Derived.Deep.RegionWith
import Derived.Maps.AppendAt
import Derived.KernelRfl
set_option linter.unusedSimpArgs false
set_option linter.unusedVariables false

set_option linter.unusedSimpArgs false
namespace Go.Proofs
open Go Go.RowKit Cod

theorem Tryz.shape38 : bshape Tryz.prog 38 = some ([(0, 1), (1, 1), (2, 1), (3, 7), (10, 8), (18, 1), (19, 6), (25, 2)], #[.int .i64 0, .int .i64 0, .int .i64 0, .int .i64 0, .int .i64 0, .int .i64 0, .int .i64 0, .slice none 0 0, .int .i64 0, .bool false, .int .i64 0, .int .i64 0, .int .i64 0, .bool false, .bool false, .int .i64 0, .int .i64 0, .int .i64 0, .slice none 0 0, .int .i64 0, .int .i64 0, .int .i64 0, .slice none 0 0, .slice none 0 0, .bool false, .slice none 0 0, .slice none 0 0]) := by kernel_rfl
theorem Tryz.shape118 : bshape Tryz.prog 118 = some ([(0, 1), (1, 1)], #[.int .i64 0, .int .i64 0]) := by kernel_rfl

set_option maxRecDepth 100000 in
set_option maxHeartbeats 1000000 in
theorem in_cmd : RecC Tryz.prog 23 schCmd := by
  intro F w bx B bad h hold
  have G := Lib.hid (InX.of h hold 1)
  have M0 : Hid (Mk w.heap.size 27 F (w.alloc (.cells (zeroc schCmd).toArray 38)) bx B bad) := Lib.hid (Mk.start h hold _ _ (by decide))
  have Q0 : Hid (InPX (fun k => w.heap.size ≤ k ∧ k < w.heap.size + 1) .unit F w (w.alloc (.cells (zeroc schCmd).toArray 38)) bx B bad B bad [] ()) := Lib.hid (InPX.begin h hold _ _)
  have hlt := h.lt
  clear h hold
  go_enter Tryz.func23, Tryz.ntmps23
  go_wp2_with fail
  refine (in_c (M0.out.h).form (M0.out.h).nf).mono ?_
  rintro e w1 ⟨a1, B1, bad1, rfl, p1⟩
  have P1 := Lib.hid p1.p
  have M1 := Lib.hid (M0.out.next P1.out)
  have Q1 := Lib.hid (InPX.both hlt Q0.out P1.out)
  clear p1 P1
  go_wp2_with fail
  refine (in_c (M1.out.h).form (M1.out.h).nf).mono ?_
  rintro e w2 ⟨a2, B2, bad2, rfl, p2⟩
  have P2 := Lib.hid p2.p
  have M2 := Lib.hid (M1.out.next P2.out)
  have Q2 := Lib.hid (InPX.both hlt Q1.out P2.out)
  clear p2 P2
  go_wp2_with fail
  refine (in_c (M2.out.h).form (M2.out.h).nf).mono ?_
  rintro e w3 ⟨a3, B3, bad3, rfl, p3⟩
  have P3 := Lib.hid p3.p
  have M3 := Lib.hid (M2.out.next P3.out)
  have Q3 := Lib.hid (InPX.both hlt Q2.out P3.out)
  clear p3 P3
  go_wp2_with fail
  refine (in_job F _ bx _ _ (M3.out.h) M3.out.old).mono ?_
  rintro e w4 ⟨vs4, x4, B4, bad4, rfl, p4⟩
  have P4 := Lib.hid p4
  have hl4 : vs4.length = 7 := Lay.len _ p4.lay
  have M4 := Lib.hid (M3.out.next P4.out)
  have Q4 := Lib.hid (InPX.both hlt Q3.out P4.out)
  clear p4 P4
  go_wp2_with fail
  refine (in_node F _ bx _ _ (M4.out.h) M4.out.old).mono ?_
  rintro e w5 ⟨vs5, x5, B5, bad5, rfl, p5⟩
  have P5 := Lib.hid p5
  have hl5 : vs5.length = 8 := Lay.len _ p5.lay
  have M5 := Lib.hid (M4.out.next P5.out)
  have Q5 := Lib.hid (InPX.both hlt Q4.out P5.out)
  clear p5 P5
  obtain ⟨pre0, hpre⟩ : ∃ pre : List Value, Hid (pre = ((((([] ++ [Value.int .i64 a1]) ++ [Value.int .i64 a2]) ++ [Value.int .i64 a3]) ++ vs4) ++ vs5)) := ⟨_, Lib.hid rfl⟩
  have QP : Hid (InPX (fun k => w.heap.size ≤ k ∧ k < w.heap.size + 1) (.pair (.pair (numsL 3) schJob) schNode) F w w5 bx B bad B5 bad5 pre0 _) := Lib.hid (by rw [hpre.out]; exact Q5.out)
  have hpl0 : pre0.length = 18 := Lay.len (.pair (.pair (numsL 3) schJob) schNode) QP.out.lay
  obtain ⟨VS, hVS⟩ : ∃ VS : List Value, Hid (VS = pre0 ++ [Value.slice none 0 0, Value.int .i64 0, Value.int .i64 0, Value.int .i64 0, Value.slice none 0 0, Value.slice none 0 0, Value.bool false, Value.slice none 0 0, Value.slice none 0 0]) := ⟨_, Lib.hid rfl⟩
  have hlv2 : VS.length = 27 := by rw [hVS.out]; simp [hpl0]
  have SV : Hid ((Tryz.prog.info? 38).map (·.size) = some VS.toArray.size) := Lib.hid (by show _ = some VS.length; rw [hlv2]; exact Tryz.sz38)
  have CV : Hid (27 = VS.toArray.size) := Lib.hid hlv2.symm
  have OV : Hid (VS.toArray.all (fun x => x.oneCell') = true) := Lib.hid (all_oneCell_toArray (by
    intro v hv
    rw [hVS.out] at hv
    rcases List.mem_append.1 hv with hv | hv
    · exact Lay.one (.pair (.pair (numsL 3) schJob) schNode) QP.out.lay v hv
    · simp only [List.mem_cons, List.not_mem_nil, or_false] at hv
      rcases hv with rfl | rfl | rfl | rfl | rfl | rfl | rfl | rfl | rfl <;> rfl))
  clear hlv2 Q5
  go_wp2_with (first
    | (refine wpList_build_vs rfl 38 _ rfl Tryz.shape38 [[Value.int .i64 a1], [Value.int .i64 a2], [Value.int .i64 a3], vs4, vs5] ?_ VS ?_ ?_)
    | (refine wpList_store_new rfl 38 _ _ rfl rfl rfl SV.out CV.out OV.out ?_))
  · exact ⟨by simp [hl4, hl5], rfl, by simp [hl4, hl5], ⟨by simp [hl4, hl5], rfl, by simp [hl4, hl5], ⟨by simp [hl4, hl5], rfl, by simp [hl4, hl5], ⟨by simp [hl4, hl5], rfl, by simp [hl4, hl5], ⟨by simp [hl4, hl5], rfl, by simp [hl4, hl5], trivial⟩⟩⟩⟩⟩
  · rw [hVS.out, hpre.out]; simp [hl4, hl5]
  have hsz4 := QP.out.upd.size
  have G2 := Lib.hid (G.out.add (w1 := w5) hsz4)
  have M6 : Hid (Mk w.heap.size 27 F (w5.alloc (.cells VS.toArray 38)) bx B5 bad5) := Lib.hid (M5.out.alloc _)
  have J6 : Hid (Mk w5.heap.size 27 F (w5.alloc (.cells VS.toArray 38)) bx B5 bad5) := Lib.hid (M5.out.newb _ _ (by rw [← CV.out]; exact Nat.le_refl _))
  have Q6 := Lib.hid (QP.out.allocX VS.toArray 38)
  have A6 : Hid (At (w5.alloc (.cells VS.toArray 38)) w5.heap.size 0 VS) := Lib.hid (At.new w5 VS.toArray 38)
  obtain ⟨jb, hjb⟩ : ∃ jb, jb = w5.heap.size := ⟨_, rfl⟩
  obtain ⟨w6, hw⟩ : ∃ w', w' = w5.alloc (.cells VS.toArray 38) := ⟨_, rfl⟩
  rw [← hw] at M6 J6 Q6 A6 ⊢
  rw [← hjb] at G2 J6 Q6 A6 ⊢
  rw [hVS.out] at A6
  obtain ⟨X, hX⟩ : ∃ X : Nat → Prop, X = fun k => (w.heap.size ≤ k ∧ k < w.heap.size + 1) ∨ k = jb := ⟨_, rfl⟩
  rw [← hX] at G2 Q6
  have HX0 : Hid (X w.heap.size) := Lib.hid (by rw [hX]; exact .inl ⟨Nat.le_refl _, by omega⟩)
  have HX1 : Hid (X jb) := Lib.hid (by rw [hX]; exact .inr rfl)
  have hnF : ¬ F jb := fun e => by have := G2.out.old _ e; have := G2.out.new _ HX1.out; omega
  have HNF := Lib.hid hnF
  clear SV CV OV hw hjb hX M5 QP hnF hsz4
  go_wp2_with fail
  refine (in_count M6.out.h).mono ?_
  rintro e w7 ⟨n, B7, bad7, rfl, hm⟩
  have hn64 := hm.le
  have HS : Hid (LpI X schReport 118 F w6 w7 bx B5 bad5 B7 bad7 n 0 (.slice none 0 0) [] [] w.heap.size jb 27 pre0 [Value.int .i64 0, Value.int .i64 0, Value.int .i64 0, Value.slice none 0 0, Value.slice none 0 0, Value.bool false, Value.slice none 0 0, Value.slice none 0 0]) :=
    Lib.hid (.start hm Q6.out.hi M6.out.h.lt G2.out.nx M6.out.h.nf (fun k hk e => by have := G2.out.old _ hk; have := G2.out.new _ e; omega) M6.out.old HX0.out HX1.out (by have := A6.out; simpa using this) M6.out.th J6.out.th (by rw [hpl0]; omega))
  clear hm
  go_wp2_with fail
  go_loopw [5] (fun i wr => ∃ (j : Nat) (B' : List UInt8) (bad' : Bool) (v : Value) (cs : List Value) (xs : List (Ty schReport)), j ≤ n ∧ i = .int .i64 j ∧ LpI X schReport 118 F w6 wr bx B5 bad5 B' bad' n j v cs xs w.heap.size jb 27 pre0 [Value.int .i64 0, Value.int .i64 0, Value.int .i64 0, Value.slice none 0 0, Value.slice none 0 0, Value.bool false, Value.slice none 0 0, Value.slice none 0 0]) (fun i _ => n - (intOf i).toNat)
  case atStart => exact ⟨0, B7, bad7, _, _, _, by omega, rfl, HS.out⟩
  case round =>
    obtain ⟨j, B8, bad8, v7, cs, xs, hj, rfl, hS⟩ := hrel
    have HS2 := Lib.hid hS
    have hxl : xs.length = j := hS.ls.len
    have hcell := hS.cell
    rw [hpl0] at hcell
    have hws := hS.ls.upd.size
    clear hS
    by_cases hjn : j < n
    · go_wp2_with fail
      rename_i hK
      refine wp_region_S (fun L w' => L.getD 10 false = false → w'.cell? ⟨jb, 18, none⟩ = some v7) (n := 11) (L := #[false, false, false, false, false, false, false, false, false, false, false]) (by kernel_rfl) rfl rfl ?_
      have C0 : Hid (false = false → wr.drew.cell? ⟨jb, 18, none⟩ = some v7) := Lib.hid (fun _ => hcell)
      refine wpAnyS_take' (i := 0) (v := .pointer (some ⟨jb, 18, none⟩)) (L' := #[true, false, false, false, false, false, false, false, false, false, false]) (by simp only [List.getElem?_toArray, List.getElem?_cons_succ, List.getElem?_cons_zero]; rfl) rfl (by simp only [Act.put, List.setIfInBounds_toArray, List.set_cons_succ, List.set_cons_zero]; rfl) (by kernel_rfl) (by kernel_rfl) (by kernel_rfl) (by exact fun _ _ _ h => h) (fun L w' h hL => h (by rw [getD_set_ne false (by decide)]; exact hL)) (.inl ⟨rfl, fun _ _ _ _ _ => rfl⟩) (closedB (by kernel_rfl)) C0.out C0.out ?_
      refine wpAnyS_take' (i := 2) (v := .pointer (some ⟨bx, 0, none⟩)) (L' := #[true, false, true, false, false, false, false, false, false, false, false]) (by simp only [List.getElem?_toArray, List.getElem?_cons_succ, List.getElem?_cons_zero]; rfl) rfl (by simp only [Act.put, List.setIfInBounds_toArray, List.set_cons_succ, List.set_cons_zero]; rfl) (by kernel_rfl) (by kernel_rfl) (by kernel_rfl) (by exact fun _ _ _ h => h) (fun L w' h hL => h (by rw [getD_set_ne false (by decide)]; exact hL)) (.inl ⟨rfl, fun _ _ _ _ _ => rfl⟩) (closedB (by kernel_rfl)) C0.out C0.out ?_
      refine wpAnyS_take' (i := 4) (v := .pointer (some ⟨bx, 0, none⟩)) (L' := #[true, false, true, false, true, false, false, false, false, false, false]) (by simp only [List.getElem?_toArray, List.getElem?_cons_succ, List.getElem?_cons_zero]; rfl) rfl (by simp only [Act.put, List.setIfInBounds_toArray, List.set_cons_succ, List.set_cons_zero]; rfl) (by kernel_rfl) (by kernel_rfl) (by kernel_rfl) (by exact fun _ _ _ h => h) (fun L w' h hL => h (by rw [getD_set_ne false (by decide)]; exact hL)) (.inl ⟨rfl, fun _ _ _ _ _ => rfl⟩) (closedB (by kernel_rfl)) C0.out C0.out ?_
      refine wpAnyS_take' (i := 1) (v := v7) (L' := #[true, true, true, false, true, false, false, false, false, false, false]) (by simp only [List.getElem?_toArray, List.getElem?_cons_succ, List.getElem?_cons_zero]; rfl) rfl (by simp only [Act.put, List.setIfInBounds_toArray, List.set_cons_succ, List.set_cons_zero]; rfl) (by kernel_rfl) (by kernel_rfl) (by kernel_rfl) (by exact fun _ _ _ h => h) (fun L w' h hL => h (by rw [getD_set_ne false (by decide)]; exact hL)) (.inl ⟨rfl, fun L w' hC hL hS => exec_load_one rfl rfl Tryz.underlying30 rfl (hS (hC.not (by kernel_rfl) hL))⟩) (closedB (by kernel_rfl)) C0.out C0.out ?_
      refine wpAnyS_one (i := 3) (L' := #[true, true, true, true, true, false, false, false, false, false, false]) (by kernel_rfl) rfl (by simp only [List.getElem?_toArray, List.getElem?_cons_succ, List.getElem?_cons_zero]; rfl) ?_
      go_wp2_with fail
      refine (in_c (InH.drew HS2.out.h).form (InH.drew HS2.out.h).nf).mono ?_
      rintro e w9 ⟨b9, B9, bad9, rfl, k⟩
      have K9 := Lib.hid (InP.ofDrew k.p)
      have d9 : w9.cell? ⟨jb, 18, none⟩ = some v7 := by have := HS2.out.cellAt K9.out (by rw [hpl0]; exact hcell); rwa [hpl0] at this
      have HN9 := Lib.hid (InP.nextH HS2.out.h K9.out)
      have HO9 := Lib.hid (InP.nextO HS2.out.old K9.out)
      have KE9 := Lib.hid (InP.both (Nat.lt_of_lt_of_le HS2.out.ls.lt HS2.out.ls.upd.size) (InP.unit (F := F) HS2.out.h.form) K9.out)
      clear k
      go_wp2_with fail
      refine ⟨fun _ => d9, ?_⟩
      refine wpAnyS_one (i := 5) (L' := #[true, true, true, true, true, true, false, false, false, false, false]) (by kernel_rfl) rfl (by simp only [List.getElem?_toArray, List.getElem?_cons_succ, List.getElem?_cons_zero]; rfl) ?_
      go_wp2_with fail
      refine (in_c HN9.out.form HN9.out.nf).mono ?_
      rintro e w10 ⟨b10, B10, bad10, rfl, k⟩
      have K10 := Lib.hid k.p
      have d10 : w10.cell? ⟨jb, 18, none⟩ = some v7 := by have := HS2.out.cellAt K10.out (by rw [hpl0]; exact d9); rwa [hpl0] at this
      have KE10 := Lib.hid (InP.both (Nat.lt_of_lt_of_le HS2.out.ls.lt HS2.out.ls.upd.size) KE9.out K10.out)
      clear k
      go_wp2_with fail
      refine ⟨fun _ => d10, ?_⟩
      obtain ⟨vs, hvs⟩ : ∃ vs : List Value, Hid (vs = (([] ++ [Value.int .i64 b9]) ++ [Value.int .i64 b10])) := ⟨_, Lib.hid rfl⟩
      have KF : Hid (InP schReport F wr w10 bx B8 bad8 B10 bad10 vs _) := Lib.hid (by rw [hvs.out]; exact KE10.out)
      have hlen : vs.length = 2 := Lay.len schReport KF.out.lay
      refine wpAnyS_one (i := 6) (L' := #[true, true, true, true, true, true, true, false, false, false, false]) (by kernel_rfl) rfl (by simp only [List.getElem?_toArray, List.getElem?_cons_succ, List.getElem?_cons_zero]; rfl) ?_
      refine wpList_build_vs rfl 118 _ rfl Tryz.shape118 [[Value.int .i64 b9], [Value.int .i64 b10]] ?_ vs ?_ ?_
      · simp only [List.map_toArray, List.map_cons, List.map_nil]
        exact ⟨by simp, rfl, by simp, ⟨by simp, rfl, by simp, trivial⟩⟩
      · rw [hvs.out]; simp
      go_wp2_with fail
      refine ⟨fun _ => d10, ?_⟩
      refine wpAnyS_act (by simp only [Act.put, List.setIfInBounds_toArray, List.set_cons_succ, List.set_cons_zero]; rfl) ?_
      refine wpAnyS_one (i := 7) (L' := #[true, true, true, true, true, true, true, true, false, false, false]) (by kernel_rfl) rfl (by simp only [List.getElem?_toArray, List.getElem?_cons_succ, List.getElem?_cons_zero]; rfl) ?_
      obtain ⟨i0, hi, hz0, hz1, hz2⟩ := info_parts Tryz.in118
      have HI := Lib.hid hi
      clear hi
      refine wpList_build_one rfl 30 118 (.tmp 30) rfl rfl (n := 2) (by omega) (by omega) hlen Tryz.underlying30 (by rw [HI.out]; simp [hz0, hz1]) ?_
      have hup : Upd (fun _ _ => False) w10 (w10.alloc (.cells vs.toArray 118)) := (Upd.refl _ w10).alloc _
      refine ⟨fun _ => (hup.cell jb 18 (World.block_lt_of_cell? w10 _ d10) (fun h => h)).trans d10, ?_⟩
      refine wpAnyS_act (by simp only [Act.put, List.setIfInBounds_toArray, List.set_cons_succ, List.set_cons_zero]; rfl) ?_
      refine wpAnyS_one (i := 8) (L' := #[true, true, true, true, true, true, true, true, true, false, false]) (by kernel_rfl) rfl (by simp only [List.getElem?_toArray, List.getElem?_cons_succ, List.getElem?_cons_zero]; rfl) ?_
      have HO := Lib.hid (HS2.out.ls.ownAt KF.out)
      have hs9 := KF.out.upd.size
      have hone := Lib.hid (Lay.one _ KF.out.lay)
      refine wpList_append_own_at _ rfl (.tmp 25) (.tmp 31) 30 rfl w6.heap.size 118 i0 _ 2 16 Tryz.underlying30 HI.out hz0 hz1 hz2 rfl (by decide) v7 xs.length cs rfl (HO.out.alloc _) ⟨w10.heap.size, 0, none⟩ 1 1 vs rfl (by rw [hlen]) ?_ hone.out ?_ ?_ ?_ ?_
      · intro i u hu
        rw [addr_add]
        exact At.new w10 vs.toArray 118 i u (by simpa using hu)
      · unfold maxLen; omega
      · omega
      · simp; omega
      intro v' wz hown' hgrow _hx hat
      obtain ⟨A', c', rfl⟩ := own_form hown'
      have HO2 := Lib.hid hown'
      have HG := Lib.hid hgrow
      have HT := Lib.hid hat
      obtain ⟨e0, e1⟩ := HS2.out.behind KF.out hgrow
      rw [hpl0] at e0 e1
      refine ⟨fun _ => e0, ?_⟩
      refine wpAnyS_act (by simp only [Act.put, List.setIfInBounds_toArray, List.set_cons_succ, List.set_cons_zero]; rfl) ?_
      have C1 : Hid (false = false → wz.cell? ⟨jb, 18, none⟩ = some v7) := Lib.hid (fun _ => e0)
      refine wpAnyS_take' (i := 9) (v := .pointer (some ⟨jb, 18, none⟩)) (L' := #[true, true, true, true, true, true, true, true, true, true, false]) (by simp only [List.getElem?_toArray, List.getElem?_cons_succ, List.getElem?_cons_zero]; rfl) rfl (by simp only [Act.put, List.setIfInBounds_toArray, List.set_cons_succ, List.set_cons_zero]; rfl) (by kernel_rfl) (by kernel_rfl) (by kernel_rfl) (by exact fun _ _ _ h => h) (fun L w' h hL => h (by rw [getD_set_ne false (by decide)]; exact hL)) (.inl ⟨rfl, fun _ _ _ _ _ => rfl⟩) (closedB (by kernel_rfl)) C1.out C1.out ?_
      refine wpAnyS_one (i := 10) (L' := #[true, true, true, true, true, true, true, true, true, true, true]) (by kernel_rfl) rfl (by simp only [List.getElem?_toArray, List.getElem?_cons_succ, List.getElem?_cons_zero]; rfl) ?_
      clear hown' hgrow hat C1
      go_wp2_with fail
      refine ⟨fun h => absurd h (by decide), wpAnyS_done (by kernel_rfl) ?_ _⟩
      refine hK _ _ ?_
      clear hK
      go_wp2_with fail
      go_roundw
      case rel =>
        have hst := HS2.out.step hjn KF.out (T := 118) (v' := .slice A' (j + 1) c') (by have := HO2.out; rw [hxl] at this ⊢; exact this) HG.out (by have := HT.out; rw [hxl] at this; simpa using this)
        rw [hpl0] at hst
        exact ⟨j + 1, B10, bad10, .slice A' (j + 1) c', cs ++ vs, _, by omega, by go_num, hst⟩
      case measure => simp [intOf]; omega
    · have Q8 := Lib.hid (InPX.both' hlt Q6.out (HS2.out.done (by omega)))
      have M8 := Lib.hid HS2.out.mkr
      have J8 := Lib.hid HS2.out.mkj
      have A8 := Lib.hid HS2.out.at_
      obtain ⟨pre4, hpre4⟩ : ∃ pre' : List Value, Hid (pre' = pre0 ++ [v7]) := ⟨_, Lib.hid rfl⟩
      have hpl4 : pre4.length = 19 := by rw [hpre4.out]; simp [hpl0]
      rw [← hpre4.out] at Q8 A8
      obtain ⟨w8, hwr⟩ : ∃ w', w' = wr := ⟨_, rfl⟩
      rw [← hwr] at Q8 M8 J8 A8 ⊢
      clear HS2 hcell hws hwr
      go_wp2_with fail
      refine (in_plan F _ bx _ _ (M8.out.h) M8.out.old).mono ?_
      rintro e w9 ⟨vs9, x9, B9, bad9, rfl, p9⟩
      have P9 := Lib.hid p9
      have hl9 : vs9.length = 6 := Lay.len _ p9.lay
      have M9 := Lib.hid (M8.out.next P9.out)
      have J9 := Lib.hid (J8.out.next P9.out)
      have Q9 := Lib.hid (InPX.both hlt Q8.out P9.out)
      have A9 := Lib.hid (P9.out.atX A8.out J8.out.ne)
      obtain ⟨pre5, hpre5⟩ : ∃ pre' : List Value, Hid (pre' = pre4 ++ vs9) := ⟨_, Lib.hid rfl⟩
      have hpl5 : pre5.length = 25 := by rw [hpre5.out]; simp [hpl4, hl9]
      rw [← hpre5.out] at Q9
      have TS9 : Hid (w9.there jb 19 vs9.toArray.size) := Lib.hid (by show World.there _ _ _ vs9.length; rw [hl9]; exact there_sub J9.out.th (by omega))
      have SS9 : Hid ((Tryz.prog.info? 34).map (·.size) = some vs9.toArray.size) := Lib.hid (by show _ = some vs9.length; rw [hl9]; exact Tryz.sz34)
      have OS9 := Lib.hid (all_oneCell_toArray (Lay.one _ P9.out.lay))
      clear p9 P9
      go_wp2_with (refine wpList_store_mid rfl 34 _ _ rfl jb 19 vs9.toArray rfl rfl TS9.out SS9.out OS9.out ?_)
      obtain ⟨w10, hw⟩ : ∃ w', w' = (w9.setCells jb 19 vs9) := ⟨_, rfl⟩
      have M10 : Hid (Mk w.heap.size 27 F w10 bx B9 bad9) := Lib.hid (by rw [hw]; exact M9.out.sets J9.out.ne HNF.out)
      have J10 : Hid (Mk jb 27 F w10 bx B9 bad9) := Lib.hid (by rw [hw]; exact J9.out.sets J9.out.ne HNF.out)
      have Q10 : Hid (InPX X _ F w w10 bx B bad B9 bad9 pre5 _) := Lib.hid (by rw [hw]; exact Q9.out.sets G2.out HX1.out)
      have A10 : Hid (At w10 jb 0 (pre5 ++ [Value.slice none 0 0, Value.slice none 0 0])) := Lib.hid (by rw [hw, hpre5.out]; simpa using At.put A9.out pre4 [Value.int .i64 0, Value.int .i64 0, Value.int .i64 0, Value.slice none 0 0, Value.slice none 0 0, Value.bool false] [Value.slice none 0 0, Value.slice none 0 0] (by simp) (by simp [hl9]) (by rw [hpl4]))
      rw [show w9.setCells jb 19 vs9.toArray.toList = w10 from hw.symm]
      clear hw M9 J9 Q9 A9 TS9 SS9 OS9
      go_wp2_with fail
      refine (in_conf F _ bx _ _ (M10.out.h) M10.out.old).mono ?_
      rintro e w11 ⟨vs11, x11, B11, bad11, rfl, p11⟩
      have P11 := Lib.hid p11
      have hl11 : vs11.length = 2 := Lay.len _ p11.lay
      have M11 := Lib.hid (M10.out.next P11.out)
      have J11 := Lib.hid (J10.out.next P11.out)
      have Q11 := Lib.hid (InPX.both hlt Q10.out P11.out)
      have A11 := Lib.hid (P11.out.atX A10.out J10.out.ne)
      obtain ⟨pre6, hpre6⟩ : ∃ pre' : List Value, Hid (pre' = pre5 ++ vs11) := ⟨_, Lib.hid rfl⟩
      have hpl6 : pre6.length = 27 := by rw [hpre6.out]; simp [hpl5, hl11]
      rw [← hpre6.out] at Q11
      have TS11 : Hid (w11.there jb 25 vs11.toArray.size) := Lib.hid (by show World.there _ _ _ vs11.length; rw [hl11]; exact there_sub J11.out.th (by omega))
      have SS11 : Hid ((Tryz.prog.info? 36).map (·.size) = some vs11.toArray.size) := Lib.hid (by show _ = some vs11.length; rw [hl11]; exact Tryz.sz36)
      have OS11 := Lib.hid (all_oneCell_toArray (Lay.one _ P11.out.lay))
      clear p11 P11
      have QZ : Hid (InPX X schCmd F w w11 bx B bad B11 bad11 pre6 _) := Lib.hid Q11.out
      have AZ : Hid (At (w11.setCells jb 25 vs11) jb 0 pre6) := Lib.hid (by rw [hpre6.out]; simpa using At.put A11.out pre5 [Value.slice none 0 0, Value.slice none 0 0] [] (by simp) (by simp [hl11]) (by rw [hpl5]))
      have TZ : Hid ((w11.setCells jb 25 vs11).there w.heap.size 0 pre6.toArray.size) := Lib.hid (by
        show World.there _ _ _ pre6.length
        rw [hpl6]
        exact (M11.out.sets J11.out.ne HNF.out).th)
      have SZ : Hid ((Tryz.prog.info? 38).map (·.size) = some pre6.toArray.size) := Lib.hid (by show _ = some pre6.length; rw [hpl6]; exact Tryz.sz38)
      have OZ := Lib.hid (all_oneCell_toArray (Lay.one schCmd QZ.out.lay))
      go_wp2_with (first
        | (refine wpList_store_mid rfl 36 _ _ rfl jb 25 vs11.toArray rfl rfl TS11.out SS11.out OS11.out ?_)
        | (refine wpList_load_mid rfl 38 _ rfl jb 0 rfl pre6 _ AZ.out Tryz.underlying38 rfl SZ.out ?_)
        | (refine wpList_store_mid rfl 38 _ _ rfl w.heap.size 0 pre6.toArray rfl rfl TZ.out SZ.out OZ.out ?_))
      refine ret_row1 rfl rfl Tryz.underlying38 rfl SZ.out (At.setCells TZ.out) rfl ?_
      exact ⟨pre6, _, B11, bad11, rfl, ((QZ.out.sets G2.out HX1.out).sets G2.out HX0.out).done G2.out⟩
end Go.Proofs
