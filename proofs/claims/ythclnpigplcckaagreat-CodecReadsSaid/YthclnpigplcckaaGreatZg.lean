/- A part of the document's readers. -/
import Derived.Test.YthclnpigplcckaaGreatProg
import Derived.Test.YthclnpigplcckaaGreatLibs
import Derived.Test.YthclnpigplcckaaGreatZe
import Derived.Test.YthclnpigplcckaaGreatRi
import Derived.Test.YthclnpigplcckaaGreatRj
import Derived.WalkSpells
import Derived.WalkLawsBesides
import Derived.Deep.LoopGhost
import Derived.Lib.Hide
import Derived.Deep.RegionWith
import Derived.Maps.AppendAt
import Derived.KernelRfl
set_option linter.unusedSimpArgs false
set_option linter.unusedVariables false

set_option linter.unusedSimpArgs false
namespace Go.Proofs
open Go Go.RowKit Cod

theorem Tryz.shape55 : bshape Tryz.prog 55 = some ([(0, 1), (1, 1), (2, 1), (3, 1), (4, 1), (5, 1), (6, 1), (7, 1), (8, 1), (9, 1), (10, 1), (11, 1), (12, 1), (13, 2), (15, 1), (16, 27), (43, 3)], #[.int .i64 0, .int .i64 0, .int .i64 0, .int .i64 0, .int .i64 0, .int .i64 0, .int .i64 0, .bool false, .int .i64 0, .int .i64 0, .int .i64 0, .int .i64 0, .slice none 0 0, .slice none 0 0, .slice none 0 0, .slice none 0 0, .int .i64 0, .int .i64 0, .int .i64 0, .int .i64 0, .int .i64 0, .int .i64 0, .int .i64 0, .slice none 0 0, .int .i64 0, .bool false, .int .i64 0, .int .i64 0, .int .i64 0, .bool false, .bool false, .int .i64 0, .int .i64 0, .int .i64 0, .slice none 0 0, .int .i64 0, .int .i64 0, .int .i64 0, .slice none 0 0, .slice none 0 0, .bool false, .slice none 0 0, .slice none 0 0, .int .i64 0, .int .i64 0, .slice none 0 0]) := by kernel_rfl

set_option maxRecDepth 100000 in
set_option maxHeartbeats 1000000 in
theorem in_msg : RecC Tryz.prog 36 schMsg := by
  intro F w bx B bad h hold
  have G := Lib.hid (InX.of h hold 1)
  have M0 : Hid (Mk w.heap.size 46 F (w.alloc (.cells (zeroc schMsg).toArray 55)) bx B bad) := Lib.hid (Mk.start h hold _ _ (by decide))
  have Q0 : Hid (InPX (fun k => w.heap.size ≤ k ∧ k < w.heap.size + 1) .unit F w (w.alloc (.cells (zeroc schMsg).toArray 55)) bx B bad B bad [] ()) := Lib.hid (InPX.begin h hold _ _)
  have hlt := h.lt
  clear h hold
  go_enter Tryz.func36, Tryz.ntmps36
  go_wp2_with fail
  refine (in_c (M0.out.h).form (M0.out.h).nf).mono ?_
  rintro e w1 ⟨a1, B1, bad1, rfl, p1⟩
  have P1 := Lib.hid p1.p
  have M1 := Lib.hid (M0.out.next P1.out)
  have Q1 := Lib.hid (InPX.both hlt Q0.out P1.out)
  clear p1 P1
  go_wp2_with fail
  refine (in_c (M1.out.h).form (M1.out.h).nf).mono ?_
  rintro e w2 ⟨a2, B2, bad2, rfl, p2⟩
  have P2 := Lib.hid p2.p
  have M2 := Lib.hid (M1.out.next P2.out)
  have Q2 := Lib.hid (InPX.both hlt Q1.out P2.out)
  clear p2 P2
  go_wp2_with fail
  refine (in_c (M2.out.h).form (M2.out.h).nf).mono ?_
  rintro e w3 ⟨a3, B3, bad3, rfl, p3⟩
  have P3 := Lib.hid p3.p
  have M3 := Lib.hid (M2.out.next P3.out)
  have Q3 := Lib.hid (InPX.both hlt Q2.out P3.out)
  clear p3 P3
  go_wp2_with fail
  refine (in_c (M3.out.h).form (M3.out.h).nf).mono ?_
  rintro e w4 ⟨a4, B4, bad4, rfl, p4⟩
  have P4 := Lib.hid p4.p
  have M4 := Lib.hid (M3.out.next P4.out)
  have Q4 := Lib.hid (InPX.both hlt Q3.out P4.out)
  clear p4 P4
  go_wp2_with fail
  refine (in_c (M4.out.h).form (M4.out.h).nf).mono ?_
  rintro e w5 ⟨a5, B5, bad5, rfl, p5⟩
  have P5 := Lib.hid p5.p
  have M5 := Lib.hid (M4.out.next P5.out)
  have Q5 := Lib.hid (InPX.both hlt Q4.out P5.out)
  clear p5 P5
  go_wp2_with fail
  refine (in_c (M5.out.h).form (M5.out.h).nf).mono ?_
  rintro e w6 ⟨a6, B6, bad6, rfl, p6⟩
  have P6 := Lib.hid p6.p
  have M6 := Lib.hid (M5.out.next P6.out)
  have Q6 := Lib.hid (InPX.both hlt Q5.out P6.out)
  clear p6 P6
  go_wp2_with fail
  refine (in_c (M6.out.h).form (M6.out.h).nf).mono ?_
  rintro e w7 ⟨a7, B7, bad7, rfl, p7⟩
  have P7 := Lib.hid p7.p
  have M7 := Lib.hid (M6.out.next P7.out)
  have Q7 := Lib.hid (InPX.both hlt Q6.out P7.out)
  clear p7 P7
  go_wp2_with fail
  refine (in_flag (M7.out.h)).mono ?_
  rintro e w8 ⟨a8, B8, bad8, rfl, p8⟩
  have P8 := Lib.hid p8
  have M8 := Lib.hid (M7.out.next P8.out)
  have Q8 := Lib.hid (InPX.both hlt Q7.out P8.out)
  clear p8 P8
  go_wp2_with fail
  refine (in_c (M8.out.h).form (M8.out.h).nf).mono ?_
  rintro e w9 ⟨a9, B9, bad9, rfl, p9⟩
  have P9 := Lib.hid p9.p
  have M9 := Lib.hid (M8.out.next P9.out)
  have R9 := Lib.hid (InPX.both (Nat.lt_of_lt_of_le hlt Q8.out.upd.size) (InPX.unitAt (Q8.out.hi) (Q8.out.form)) P9.out)
  clear p9 P9
  go_wp2_with fail
  refine (in_c (M9.out.h).form (M9.out.h).nf).mono ?_
  rintro e w10 ⟨a10, B10, bad10, rfl, p10⟩
  have P10 := Lib.hid p10.p
  have M10 := Lib.hid (M9.out.next P10.out)
  have R10 := Lib.hid (InPX.both (Nat.lt_of_lt_of_le hlt Q8.out.upd.size) R9.out P10.out)
  clear p10 P10
  go_wp2_with fail
  refine (in_c (M10.out.h).form (M10.out.h).nf).mono ?_
  rintro e w11 ⟨a11, B11, bad11, rfl, p11⟩
  have P11 := Lib.hid p11.p
  have M11 := Lib.hid (M10.out.next P11.out)
  have R11 := Lib.hid (InPX.both (Nat.lt_of_lt_of_le hlt Q8.out.upd.size) R10.out P11.out)
  clear p11 P11
  go_wp2_with fail
  refine (in_c (M11.out.h).form (M11.out.h).nf).mono ?_
  rintro e w12 ⟨a12, B12, bad12, rfl, p12⟩
  have P12 := Lib.hid p12.p
  have M12 := Lib.hid (M11.out.next P12.out)
  have R12 := Lib.hid (InPX.both (Nat.lt_of_lt_of_le hlt Q8.out.upd.size) R11.out P12.out)
  have Q12 := Lib.hid (InPX.both' hlt Q8.out R12.out)
  clear p12 P12
  obtain ⟨pre0, hpre⟩ : ∃ pre : List Value, Hid (pre = ((((((((([] ++ [Value.int .i64 a1]) ++ [Value.int .i64 a2]) ++ [Value.int .i64 a3]) ++ [Value.int .i64 a4]) ++ [Value.int .i64 a5]) ++ [Value.int .i64 a6]) ++ [Value.int .i64 a7]) ++ [Value.bool a8]) ++ (((([] ++ [Value.int .i64 a9]) ++ [Value.int .i64 a10]) ++ [Value.int .i64 a11]) ++ [Value.int .i64 a12]))) := ⟨_, Lib.hid rfl⟩
  have QP : Hid (InPX (fun k => w.heap.size ≤ k ∧ k < w.heap.size + 1) (.pair (.pair (numsL 7) .flag) (numsL 4)) F w w12 bx B bad B12 bad12 pre0 _) := Lib.hid (by rw [hpre.out]; exact Q12.out)
  have hpl0 : pre0.length = 12 := Lay.len (.pair (.pair (numsL 7) .flag) (numsL 4)) QP.out.lay
  obtain ⟨VS, hVS⟩ : ∃ VS : List Value, Hid (VS = pre0 ++ [Value.slice none 0 0, Value.slice none 0 0, Value.slice none 0 0, Value.slice none 0 0, Value.int .i64 0, Value.int .i64 0, Value.int .i64 0, Value.int .i64 0, Value.int .i64 0, Value.int .i64 0, Value.int .i64 0, Value.slice none 0 0, Value.int .i64 0, Value.bool false, Value.int .i64 0, Value.int .i64 0, Value.int .i64 0, Value.bool false, Value.bool false, Value.int .i64 0, Value.int .i64 0, Value.int .i64 0, Value.slice none 0 0, Value.int .i64 0, Value.int .i64 0, Value.int .i64 0, Value.slice none 0 0, Value.slice none 0 0, Value.bool false, Value.slice none 0 0, Value.slice none 0 0, Value.int .i64 0, Value.int .i64 0, Value.slice none 0 0]) := ⟨_, Lib.hid rfl⟩
  have hlv2 : VS.length = 46 := by rw [hVS.out]; simp [hpl0]
  have SV : Hid ((Tryz.prog.info? 55).map (·.size) = some VS.toArray.size) := Lib.hid (by show _ = some VS.length; rw [hlv2]; exact Tryz.sz55)
  have CV : Hid (46 = VS.toArray.size) := Lib.hid hlv2.symm
  have OV : Hid (VS.toArray.all (fun x => x.oneCell') = true) := Lib.hid (all_oneCell_toArray (by
    intro v hv
    rw [hVS.out] at hv
    rcases List.mem_append.1 hv with hv | hv
    · exact Lay.one (.pair (.pair (numsL 7) .flag) (numsL 4)) QP.out.lay v hv
    · simp only [List.mem_cons, List.not_mem_nil, or_false] at hv
      rcases hv with rfl | rfl | rfl | rfl | rfl | rfl | rfl | rfl | rfl | rfl | rfl | rfl | rfl | rfl | rfl | rfl | rfl | rfl | rfl | rfl | rfl | rfl | rfl | rfl | rfl | rfl | rfl | rfl | rfl | rfl | rfl | rfl | rfl | rfl <;> rfl))
  clear hlv2 Q12
  go_wp2_with (first
    | (refine wpList_build_vs rfl 55 _ rfl Tryz.shape55 [[Value.int .i64 a1], [Value.int .i64 a2], [Value.int .i64 a3], [Value.int .i64 a4], [Value.int .i64 a5], [Value.int .i64 a6], [Value.int .i64 a7], [Value.bool a8], [Value.int .i64 a9], [Value.int .i64 a10], [Value.int .i64 a11], [Value.int .i64 a12]] ?_ VS ?_ ?_)
    | (refine wpList_store_new rfl 55 _ _ rfl rfl rfl SV.out CV.out OV.out ?_))
  · exact ⟨by simp, rfl, by simp, ⟨by simp, rfl, by simp, ⟨by simp, rfl, by simp, ⟨by simp, rfl, by simp, ⟨by simp, rfl, by simp, ⟨by simp, rfl, by simp, ⟨by simp, rfl, by simp, ⟨by simp, rfl, by simp, ⟨by simp, rfl, by simp, ⟨by simp, rfl, by simp, ⟨by simp, rfl, by simp, ⟨by simp, rfl, by simp, trivial⟩⟩⟩⟩⟩⟩⟩⟩⟩⟩⟩⟩
  · rw [hVS.out, hpre.out]; simp
  have hsz4 := QP.out.upd.size
  have G2 := Lib.hid (G.out.add (w1 := w12) hsz4)
  have M13 : Hid (Mk w.heap.size 46 F (w12.alloc (.cells VS.toArray 55)) bx B12 bad12) := Lib.hid (M12.out.alloc _)
  have J13 : Hid (Mk w12.heap.size 46 F (w12.alloc (.cells VS.toArray 55)) bx B12 bad12) := Lib.hid (M12.out.newb _ _ (by rw [← CV.out]; exact Nat.le_refl _))
  have Q13 := Lib.hid (QP.out.allocX VS.toArray 55)
  have A13 : Hid (At (w12.alloc (.cells VS.toArray 55)) w12.heap.size 0 VS) := Lib.hid (At.new w12 VS.toArray 55)
  obtain ⟨jb, hjb⟩ : ∃ jb, jb = w12.heap.size := ⟨_, rfl⟩
  obtain ⟨w13, hw⟩ : ∃ w', w' = w12.alloc (.cells VS.toArray 55) := ⟨_, rfl⟩
  rw [← hw] at M13 J13 Q13 A13 ⊢
  rw [← hjb] at G2 J13 Q13 A13 ⊢
  rw [hVS.out] at A13
  obtain ⟨X, hX⟩ : ∃ X : Nat → Prop, X = fun k => (w.heap.size ≤ k ∧ k < w.heap.size + 1) ∨ k = jb := ⟨_, rfl⟩
  rw [← hX] at G2 Q13
  have HX0 : Hid (X w.heap.size) := Lib.hid (by rw [hX]; exact .inl ⟨Nat.le_refl _, by omega⟩)
  have HX1 : Hid (X jb) := Lib.hid (by rw [hX]; exact .inr rfl)
  have hnF : ¬ F jb := fun e => by have := G2.out.old _ e; have := G2.out.new _ HX1.out; omega
  have HNF := Lib.hid hnF
  clear SV CV OV hw hjb hX M12 QP hnF hsz4
  go_wp2_with fail
  refine (in_count M13.out.h).mono ?_
  rintro e w14 ⟨n, B14, bad14, rfl, hm⟩
  have hn64 := hm.le
  have HS : Hid (LpI X schEntry 47 F w13 w14 bx B12 bad12 B14 bad14 n 0 (.slice none 0 0) [] [] w.heap.size jb 46 pre0 [Value.slice none 0 0, Value.slice none 0 0, Value.slice none 0 0, Value.int .i64 0, Value.int .i64 0, Value.int .i64 0, Value.int .i64 0, Value.int .i64 0, Value.int .i64 0, Value.int .i64 0, Value.slice none 0 0, Value.int .i64 0, Value.bool false, Value.int .i64 0, Value.int .i64 0, Value.int .i64 0, Value.bool false, Value.bool false, Value.int .i64 0, Value.int .i64 0, Value.int .i64 0, Value.slice none 0 0, Value.int .i64 0, Value.int .i64 0, Value.int .i64 0, Value.slice none 0 0, Value.slice none 0 0, Value.bool false, Value.slice none 0 0, Value.slice none 0 0, Value.int .i64 0, Value.int .i64 0, Value.slice none 0 0]) :=
    Lib.hid (.start hm Q13.out.hi M13.out.h.lt G2.out.nx M13.out.h.nf (fun k hk e => by have := G2.out.old _ hk; have := G2.out.new _ e; omega) M13.out.old HX0.out HX1.out (by have := A13.out; simpa using this) M13.out.th J13.out.th (by rw [hpl0]; omega))
  clear hm
  go_wp2_with fail
  go_loopw [5] (fun i wr => ∃ (j : Nat) (B' : List UInt8) (bad' : Bool) (v : Value) (cs : List Value) (xs : List (Ty schEntry)), j ≤ n ∧ i = .int .i64 j ∧ LpI X schEntry 47 F w13 wr bx B12 bad12 B' bad' n j v cs xs w.heap.size jb 46 pre0 [Value.slice none 0 0, Value.slice none 0 0, Value.slice none 0 0, Value.int .i64 0, Value.int .i64 0, Value.int .i64 0, Value.int .i64 0, Value.int .i64 0, Value.int .i64 0, Value.int .i64 0, Value.slice none 0 0, Value.int .i64 0, Value.bool false, Value.int .i64 0, Value.int .i64 0, Value.int .i64 0, Value.bool false, Value.bool false, Value.int .i64 0, Value.int .i64 0, Value.int .i64 0, Value.slice none 0 0, Value.int .i64 0, Value.int .i64 0, Value.int .i64 0, Value.slice none 0 0, Value.slice none 0 0, Value.bool false, Value.slice none 0 0, Value.slice none 0 0, Value.int .i64 0, Value.int .i64 0, Value.slice none 0 0]) (fun i _ => n - (intOf i).toNat)
  case atStart => exact ⟨0, B14, bad14, _, _, _, by omega, rfl, HS.out⟩
  case round =>
    obtain ⟨j, B15, bad15, v14, cs, xs, hj, rfl, hS⟩ := hrel
    have HS2 := Lib.hid hS
    have hxl : xs.length = j := hS.ls.len
    have hcell := hS.cell
    rw [hpl0] at hcell
    have hws := hS.ls.upd.size
    clear hS
    by_cases hjn : j < n
    · go_wp2_with fail
      rename_i hK
      refine wp_region_S (fun L w' => L.getD 7 false = false → w'.cell? ⟨jb, 12, none⟩ = some v14) (n := 8) (L := #[false, false, false, false, false, false, false, false]) (by kernel_rfl) rfl rfl ?_
      have C0 : Hid (false = false → wr.drew.cell? ⟨jb, 12, none⟩ = some v14) := Lib.hid (fun _ => hcell)
      refine wpAnyS_take' (i := 0) (v := .pointer (some ⟨jb, 12, none⟩)) (L' := #[true, false, false, false, false, false, false, false]) (by simp only [List.getElem?_toArray, List.getElem?_cons_succ, List.getElem?_cons_zero]; rfl) rfl (by simp only [Act.put, List.setIfInBounds_toArray, List.set_cons_succ, List.set_cons_zero]; rfl) (by kernel_rfl) (by kernel_rfl) (by kernel_rfl) (by exact fun _ _ _ h => h) (fun L w' h hL => h (by rw [getD_set_ne false (by decide)]; exact hL)) (.inl ⟨rfl, fun _ _ _ _ _ => rfl⟩) (closedB (by kernel_rfl)) C0.out C0.out ?_
      refine wpAnyS_take' (i := 2) (v := .pointer (some ⟨bx, 0, none⟩)) (L' := #[true, false, true, false, false, false, false, false]) (by simp only [List.getElem?_toArray, List.getElem?_cons_succ, List.getElem?_cons_zero]; rfl) rfl (by simp only [Act.put, List.setIfInBounds_toArray, List.set_cons_succ, List.set_cons_zero]; rfl) (by kernel_rfl) (by kernel_rfl) (by kernel_rfl) (by exact fun _ _ _ h => h) (fun L w' h hL => h (by rw [getD_set_ne false (by decide)]; exact hL)) (.inl ⟨rfl, fun _ _ _ _ _ => rfl⟩) (closedB (by kernel_rfl)) C0.out C0.out ?_
      refine wpAnyS_take' (i := 1) (v := v14) (L' := #[true, true, true, false, false, false, false, false]) (by simp only [List.getElem?_toArray, List.getElem?_cons_succ, List.getElem?_cons_zero]; rfl) rfl (by simp only [Act.put, List.setIfInBounds_toArray, List.set_cons_succ, List.set_cons_zero]; rfl) (by kernel_rfl) (by kernel_rfl) (by kernel_rfl) (by exact fun _ _ _ h => h) (fun L w' h hL => h (by rw [getD_set_ne false (by decide)]; exact hL)) (.inl ⟨rfl, fun L w' hC hL hS => exec_load_one rfl rfl Tryz.underlying51 rfl (hS (hC.not (by kernel_rfl) hL))⟩) (closedB (by kernel_rfl)) C0.out C0.out ?_
      refine wpAnyS_one (i := 3) (L' := #[true, true, true, true, false, false, false, false]) (by kernel_rfl) rfl (by simp only [List.getElem?_toArray, List.getElem?_cons_succ, List.getElem?_cons_zero]; rfl) ?_
      go_wp2_with fail
      refine (in_entry F _ bx _ _ (InH.drew HS2.out.h) HS2.out.old).mono ?_
      rintro e w16 ⟨u16s, y16, B16, bad16, rfl, k⟩
      have K16 := Lib.hid (InP.ofDrew k)
      have hu16 : u16s.length = 29 := Lay.len _ K16.out.lay
      have d16 : w16.cell? ⟨jb, 12, none⟩ = some v14 := by have := HS2.out.cellAt K16.out (by rw [hpl0]; exact hcell); rwa [hpl0] at this
      have KE16 := K16
      clear k
      go_wp2_with fail
      refine ⟨fun _ => d16, ?_⟩
      obtain ⟨vs, hvs⟩ : ∃ vs : List Value, Hid (vs = u16s) := ⟨_, Lib.hid rfl⟩
      have KF : Hid (InP schEntry F wr w16 bx B15 bad15 B16 bad16 vs _) := Lib.hid (by rw [hvs.out]; exact KE16.out)
      have hlen : vs.length = 29 := Lay.len schEntry KF.out.lay
      rw [← hvs.out]
      refine wpAnyS_one (i := 4) (L' := #[true, true, true, true, true, false, false, false]) (by kernel_rfl) rfl (by simp only [List.getElem?_toArray, List.getElem?_cons_succ, List.getElem?_cons_zero]; rfl) ?_
      obtain ⟨i0, hi, hz0, hz1, hz2⟩ := info_parts Tryz.in47
      have HI := Lib.hid hi
      clear hi
      refine wpList_build_one rfl 51 47 (.tmp 41) rfl rfl (n := 29) (by omega) (by omega) hlen Tryz.underlying51 (by rw [HI.out]; simp [hz0, hz1]) ?_
      have hup : Upd (fun _ _ => False) w16 (w16.alloc (.cells vs.toArray 47)) := (Upd.refl _ w16).alloc _
      refine ⟨fun _ => (hup.cell jb 12 (World.block_lt_of_cell? w16 _ d16) (fun h => h)).trans d16, ?_⟩
      refine wpAnyS_act (by simp only [Act.put, List.setIfInBounds_toArray, List.set_cons_succ, List.set_cons_zero]; rfl) ?_
      refine wpAnyS_one (i := 5) (L' := #[true, true, true, true, true, true, false, false]) (by kernel_rfl) rfl (by simp only [List.getElem?_toArray, List.getElem?_cons_succ, List.getElem?_cons_zero]; rfl) ?_
      have HO := Lib.hid (HS2.out.ls.ownAt KF.out)
      have hs9 := KF.out.upd.size
      have hone := Lib.hid (Lay.one _ KF.out.lay)
      refine wpList_append_own_at _ rfl (.tmp 39) (.tmp 42) 51 rfl w13.heap.size 47 i0 _ 29 320 Tryz.underlying51 HI.out hz0 hz1 hz2 rfl (by decide) v14 xs.length cs rfl (HO.out.alloc _) ⟨w16.heap.size, 0, none⟩ 1 1 vs rfl (by rw [hlen]) ?_ hone.out ?_ ?_ ?_ ?_
      · intro i u hu
        rw [addr_add]
        exact At.new w16 vs.toArray 47 i u (by simpa using hu)
      · unfold maxLen; omega
      · omega
      · simp; omega
      intro v' wz hown' hgrow _hx hat
      obtain ⟨A', c', rfl⟩ := own_form hown'
      have HO2 := Lib.hid hown'
      have HG := Lib.hid hgrow
      have HT := Lib.hid hat
      obtain ⟨e0, e1⟩ := HS2.out.behind KF.out hgrow
      rw [hpl0] at e0 e1
      refine ⟨fun _ => e0, ?_⟩
      refine wpAnyS_act (by simp only [Act.put, List.setIfInBounds_toArray, List.set_cons_succ, List.set_cons_zero]; rfl) ?_
      have C1 : Hid (false = false → wz.cell? ⟨jb, 12, none⟩ = some v14) := Lib.hid (fun _ => e0)
      refine wpAnyS_take' (i := 6) (v := .pointer (some ⟨jb, 12, none⟩)) (L' := #[true, true, true, true, true, true, true, false]) (by simp only [List.getElem?_toArray, List.getElem?_cons_succ, List.getElem?_cons_zero]; rfl) rfl (by simp only [Act.put, List.setIfInBounds_toArray, List.set_cons_succ, List.set_cons_zero]; rfl) (by kernel_rfl) (by kernel_rfl) (by kernel_rfl) (by exact fun _ _ _ h => h) (fun L w' h hL => h (by rw [getD_set_ne false (by decide)]; exact hL)) (.inl ⟨rfl, fun _ _ _ _ _ => rfl⟩) (closedB (by kernel_rfl)) C1.out C1.out ?_
      refine wpAnyS_one (i := 7) (L' := #[true, true, true, true, true, true, true, true]) (by kernel_rfl) rfl (by simp only [List.getElem?_toArray, List.getElem?_cons_succ, List.getElem?_cons_zero]; rfl) ?_
      clear hown' hgrow hat C1
      go_wp2_with fail
      refine ⟨fun h => absurd h (by decide), wpAnyS_done (by kernel_rfl) ?_ _⟩
      refine hK _ _ ?_
      clear hK
      go_wp2_with fail
      go_roundw
      case rel =>
        have hst := HS2.out.step hjn KF.out (T := 47) (v' := .slice A' (j + 1) c') (by have := HO2.out; rw [hxl] at this ⊢; exact this) HG.out (by have := HT.out; rw [hxl] at this; simpa using this)
        rw [hpl0] at hst
        exact ⟨j + 1, B16, bad16, .slice A' (j + 1) c', cs ++ vs, _, by omega, by go_num, hst⟩
      case measure => simp [intOf]; omega
    · have Q15 := Lib.hid (InPX.both' hlt Q13.out (HS2.out.done (by omega)))
      have M15 := Lib.hid HS2.out.mkr
      have J15 := Lib.hid HS2.out.mkj
      have A15 := Lib.hid HS2.out.at_
      obtain ⟨pre4, hpre4⟩ : ∃ pre' : List Value, Hid (pre' = pre0 ++ [v14]) := ⟨_, Lib.hid rfl⟩
      have hpl4 : pre4.length = 13 := by rw [hpre4.out]; simp [hpl0]
      rw [← hpre4.out] at Q15 A15
      obtain ⟨w15, hwr⟩ : ∃ w', w' = wr := ⟨_, rfl⟩
      rw [← hwr] at Q15 M15 J15 A15 ⊢
      clear HS2 hcell hws hwr
      go_wp2_with fail
      refine (in_conf F _ bx _ _ (M15.out.h) M15.out.old).mono ?_
      rintro e w16 ⟨vs16, x16, B16, bad16, rfl, p16⟩
      have P16 := Lib.hid p16
      have hl16 : vs16.length = 2 := Lay.len _ p16.lay
      have M16 := Lib.hid (M15.out.next P16.out)
      have J16 := Lib.hid (J15.out.next P16.out)
      have Q16 := Lib.hid (InPX.both hlt Q15.out P16.out)
      have A16 := Lib.hid (P16.out.atX A15.out J15.out.ne)
      obtain ⟨pre5, hpre5⟩ : ∃ pre' : List Value, Hid (pre' = pre4 ++ vs16) := ⟨_, Lib.hid rfl⟩
      have hpl5 : pre5.length = 15 := by rw [hpre5.out]; simp [hpl4, hl16]
      rw [← hpre5.out] at Q16
      have TS16 : Hid (w16.there jb 13 vs16.toArray.size) := Lib.hid (by show World.there _ _ _ vs16.length; rw [hl16]; exact there_sub J16.out.th (by omega))
      have SS16 : Hid ((Tryz.prog.info? 36).map (·.size) = some vs16.toArray.size) := Lib.hid (by show _ = some vs16.length; rw [hl16]; exact Tryz.sz36)
      have OS16 := Lib.hid (all_oneCell_toArray (Lay.one _ P16.out.lay))
      clear p16 P16
      go_wp2_with (refine wpList_store_mid rfl 36 _ _ rfl jb 13 vs16.toArray rfl rfl TS16.out SS16.out OS16.out ?_)
      obtain ⟨w17, hw⟩ : ∃ w', w' = (w16.setCells jb 13 vs16) := ⟨_, rfl⟩
      have M17 : Hid (Mk w.heap.size 46 F w17 bx B16 bad16) := Lib.hid (by rw [hw]; exact M16.out.sets J16.out.ne HNF.out)
      have J17 : Hid (Mk jb 46 F w17 bx B16 bad16) := Lib.hid (by rw [hw]; exact J16.out.sets J16.out.ne HNF.out)
      have Q17 : Hid (InPX X _ F w w17 bx B bad B16 bad16 pre5 _) := Lib.hid (by rw [hw]; exact Q16.out.sets G2.out HX1.out)
      have A17 : Hid (At w17 jb 0 (pre5 ++ [Value.slice none 0 0, Value.int .i64 0, Value.int .i64 0, Value.int .i64 0, Value.int .i64 0, Value.int .i64 0, Value.int .i64 0, Value.int .i64 0, Value.slice none 0 0, Value.int .i64 0, Value.bool false, Value.int .i64 0, Value.int .i64 0, Value.int .i64 0, Value.bool false, Value.bool false, Value.int .i64 0, Value.int .i64 0, Value.int .i64 0, Value.slice none 0 0, Value.int .i64 0, Value.int .i64 0, Value.int .i64 0, Value.slice none 0 0, Value.slice none 0 0, Value.bool false, Value.slice none 0 0, Value.slice none 0 0, Value.int .i64 0, Value.int .i64 0, Value.slice none 0 0])) := Lib.hid (by rw [hw, hpre5.out]; simpa using At.put A16.out pre4 [Value.slice none 0 0, Value.slice none 0 0] [Value.slice none 0 0, Value.int .i64 0, Value.int .i64 0, Value.int .i64 0, Value.int .i64 0, Value.int .i64 0, Value.int .i64 0, Value.int .i64 0, Value.slice none 0 0, Value.int .i64 0, Value.bool false, Value.int .i64 0, Value.int .i64 0, Value.int .i64 0, Value.bool false, Value.bool false, Value.int .i64 0, Value.int .i64 0, Value.int .i64 0, Value.slice none 0 0, Value.int .i64 0, Value.int .i64 0, Value.int .i64 0, Value.slice none 0 0, Value.slice none 0 0, Value.bool false, Value.slice none 0 0, Value.slice none 0 0, Value.int .i64 0, Value.int .i64 0, Value.slice none 0 0] (by simp) (by simp [hl16]) (by rw [hpl4]))
      rw [show w16.setCells jb 13 vs16.toArray.toList = w17 from hw.symm]
      clear hw M16 J16 Q16 A16 TS16 SS16 OS16
      go_wp2_with fail
      refine (in_bytes (M17.out.h)).mono ?_
      rintro e w18 ⟨a18, x18, B18, bad18, rfl, p18⟩
      obtain ⟨sA18, sn18, sc18, rfl⟩ := lay_raw p18.lay
      have P18 := Lib.hid p18
      have M18 := Lib.hid (M17.out.next P18.out)
      have J18 := Lib.hid (J17.out.next P18.out)
      have Q18 := Lib.hid (InPX.both hlt Q17.out P18.out)
      have A18 := Lib.hid (P18.out.atX A17.out J17.out.ne)
      obtain ⟨pre6, hpre6⟩ : ∃ pre' : List Value, Hid (pre' = pre5 ++ [Value.slice sA18 sn18 sc18]) := ⟨_, Lib.hid rfl⟩
      have hpl6 : pre6.length = 16 := by rw [hpre6.out]; simp [hpl5]
      rw [← hpre6.out] at Q18
      have c18_ : w18.cell? ⟨jb, 15, none⟩ = some (Value.slice none 0 0) := by
        have := A18.out 15 (Value.slice none 0 0) (by rw [List.getElem?_append_right (by omega)]; simp [hpl5])
        rwa [Nat.zero_add] at this
      have f18_ : w18.frozen? ⟨jb, 15, none⟩ = false := by
        have := (J18.out.th 15 (by omega)).2
        rwa [Nat.zero_add] at this
      clear p18 P18
      go_wp2_with fail
      obtain ⟨w19, hw⟩ : ∃ w', w' = (w18.setCell ⟨jb, 15, none⟩ (Value.slice sA18 sn18 sc18)) := ⟨_, rfl⟩
      have M19 : Hid (Mk w.heap.size 46 F w19 bx B18 bad18) := Lib.hid (by rw [hw]; exact M18.out.set J18.out.ne HNF.out _)
      have J19 : Hid (Mk jb 46 F w19 bx B18 bad18) := Lib.hid (by rw [hw]; exact J18.out.set J18.out.ne HNF.out _)
      have Q19 : Hid (InPX X _ F w w19 bx B bad B18 bad18 pre6 _) := Lib.hid (by rw [hw]; exact Q18.out.set G2.out HX1.out _)
      have A19 : Hid (At w19 jb 0 (pre6 ++ [Value.int .i64 0, Value.int .i64 0, Value.int .i64 0, Value.int .i64 0, Value.int .i64 0, Value.int .i64 0, Value.int .i64 0, Value.slice none 0 0, Value.int .i64 0, Value.bool false, Value.int .i64 0, Value.int .i64 0, Value.int .i64 0, Value.bool false, Value.bool false, Value.int .i64 0, Value.int .i64 0, Value.int .i64 0, Value.slice none 0 0, Value.int .i64 0, Value.int .i64 0, Value.int .i64 0, Value.slice none 0 0, Value.slice none 0 0, Value.bool false, Value.slice none 0 0, Value.slice none 0 0, Value.int .i64 0, Value.int .i64 0, Value.slice none 0 0])) := Lib.hid (by rw [hw, hpre6.out]; simpa using At.put1 (u := Value.slice sA18 sn18 sc18) A18.out pre5 (Value.slice none 0 0) [Value.int .i64 0, Value.int .i64 0, Value.int .i64 0, Value.int .i64 0, Value.int .i64 0, Value.int .i64 0, Value.int .i64 0, Value.slice none 0 0, Value.int .i64 0, Value.bool false, Value.int .i64 0, Value.int .i64 0, Value.int .i64 0, Value.bool false, Value.bool false, Value.int .i64 0, Value.int .i64 0, Value.int .i64 0, Value.slice none 0 0, Value.int .i64 0, Value.int .i64 0, Value.int .i64 0, Value.slice none 0 0, Value.slice none 0 0, Value.bool false, Value.slice none 0 0, Value.slice none 0 0, Value.int .i64 0, Value.int .i64 0, Value.slice none 0 0] (by simp) (by rw [hpl5]))
      rw [← hw]
      clear hw M18 J18 Q18 A18 c18_ f18_
      go_wp2_with fail
      refine (in_cmd F _ bx _ _ (M19.out.h) M19.out.old).mono ?_
      rintro e w20 ⟨vs20, x20, B20, bad20, rfl, p20⟩
      have P20 := Lib.hid p20
      have hl20 : vs20.length = 27 := Lay.len _ p20.lay
      have M20 := Lib.hid (M19.out.next P20.out)
      have J20 := Lib.hid (J19.out.next P20.out)
      have Q20 := Lib.hid (InPX.both hlt Q19.out P20.out)
      have A20 := Lib.hid (P20.out.atX A19.out J19.out.ne)
      obtain ⟨pre7, hpre7⟩ : ∃ pre' : List Value, Hid (pre' = pre6 ++ vs20) := ⟨_, Lib.hid rfl⟩
      have hpl7 : pre7.length = 43 := by rw [hpre7.out]; simp [hpl6, hl20]
      rw [← hpre7.out] at Q20
      have TS20 : Hid (w20.there jb 16 vs20.toArray.size) := Lib.hid (by show World.there _ _ _ vs20.length; rw [hl20]; exact there_sub J20.out.th (by omega))
      have SS20 : Hid ((Tryz.prog.info? 38).map (·.size) = some vs20.toArray.size) := Lib.hid (by show _ = some vs20.length; rw [hl20]; exact Tryz.sz38)
      have OS20 := Lib.hid (all_oneCell_toArray (Lay.one _ P20.out.lay))
      clear p20 P20
      go_wp2_with (refine wpList_store_mid rfl 38 _ _ rfl jb 16 vs20.toArray rfl rfl TS20.out SS20.out OS20.out ?_)
      obtain ⟨w21, hw⟩ : ∃ w', w' = (w20.setCells jb 16 vs20) := ⟨_, rfl⟩
      have M21 : Hid (Mk w.heap.size 46 F w21 bx B20 bad20) := Lib.hid (by rw [hw]; exact M20.out.sets J20.out.ne HNF.out)
      have J21 : Hid (Mk jb 46 F w21 bx B20 bad20) := Lib.hid (by rw [hw]; exact J20.out.sets J20.out.ne HNF.out)
      have Q21 : Hid (InPX X _ F w w21 bx B bad B20 bad20 pre7 _) := Lib.hid (by rw [hw]; exact Q20.out.sets G2.out HX1.out)
      have A21 : Hid (At w21 jb 0 (pre7 ++ [Value.int .i64 0, Value.int .i64 0, Value.slice none 0 0])) := Lib.hid (by rw [hw, hpre7.out]; simpa using At.put A20.out pre6 [Value.int .i64 0, Value.int .i64 0, Value.int .i64 0, Value.int .i64 0, Value.int .i64 0, Value.int .i64 0, Value.int .i64 0, Value.slice none 0 0, Value.int .i64 0, Value.bool false, Value.int .i64 0, Value.int .i64 0, Value.int .i64 0, Value.bool false, Value.bool false, Value.int .i64 0, Value.int .i64 0, Value.int .i64 0, Value.slice none 0 0, Value.int .i64 0, Value.int .i64 0, Value.int .i64 0, Value.slice none 0 0, Value.slice none 0 0, Value.bool false, Value.slice none 0 0, Value.slice none 0 0] [Value.int .i64 0, Value.int .i64 0, Value.slice none 0 0] (by simp) (by simp [hl20]) (by rw [hpl6]))
      rw [show w20.setCells jb 16 vs20.toArray.toList = w21 from hw.symm]
      clear hw M20 J20 Q20 A20 TS20 SS20 OS20
      go_wp2_with fail
      refine (in_result F _ bx _ _ (M21.out.h) M21.out.old).mono ?_
      rintro e w22 ⟨vs22, x22, B22, bad22, rfl, p22⟩
      have P22 := Lib.hid p22
      have hl22 : vs22.length = 3 := Lay.len _ p22.lay
      have M22 := Lib.hid (M21.out.next P22.out)
      have J22 := Lib.hid (J21.out.next P22.out)
      have Q22 := Lib.hid (InPX.both hlt Q21.out P22.out)
      have A22 := Lib.hid (P22.out.atX A21.out J21.out.ne)
      obtain ⟨pre8, hpre8⟩ : ∃ pre' : List Value, Hid (pre' = pre7 ++ vs22) := ⟨_, Lib.hid rfl⟩
      have hpl8 : pre8.length = 46 := by rw [hpre8.out]; simp [hpl7, hl22]
      rw [← hpre8.out] at Q22
      have TS22 : Hid (w22.there jb 43 vs22.toArray.size) := Lib.hid (by show World.there _ _ _ vs22.length; rw [hl22]; exact there_sub J22.out.th (by omega))
      have SS22 : Hid ((Tryz.prog.info? 53).map (·.size) = some vs22.toArray.size) := Lib.hid (by show _ = some vs22.length; rw [hl22]; exact Tryz.sz53)
      have OS22 := Lib.hid (all_oneCell_toArray (Lay.one _ P22.out.lay))
      clear p22 P22
      have QZ : Hid (InPX X schMsg F w w22 bx B bad B22 bad22 pre8 _) := Lib.hid Q22.out
      have AZ : Hid (At (w22.setCells jb 43 vs22) jb 0 pre8) := Lib.hid (by rw [hpre8.out]; simpa using At.put A22.out pre7 [Value.int .i64 0, Value.int .i64 0, Value.slice none 0 0] [] (by simp) (by simp [hl22]) (by rw [hpl7]))
      have TZ : Hid ((w22.setCells jb 43 vs22).there w.heap.size 0 pre8.toArray.size) := Lib.hid (by
        show World.there _ _ _ pre8.length
        rw [hpl8]
        exact (M22.out.sets J22.out.ne HNF.out).th)
      have SZ : Hid ((Tryz.prog.info? 55).map (·.size) = some pre8.toArray.size) := Lib.hid (by show _ = some pre8.length; rw [hpl8]; exact Tryz.sz55)
      have OZ := Lib.hid (all_oneCell_toArray (Lay.one schMsg QZ.out.lay))
      go_wp2_with (first
        | (refine wpList_store_mid rfl 53 _ _ rfl jb 43 vs22.toArray rfl rfl TS22.out SS22.out OS22.out ?_)
        | (refine wpList_load_mid rfl 55 _ rfl jb 0 rfl pre8 _ AZ.out Tryz.underlying55 rfl SZ.out ?_)
        | (refine wpList_store_mid rfl 55 _ _ rfl w.heap.size 0 pre8.toArray rfl rfl TZ.out SZ.out OZ.out ?_))
      refine ret_row1 rfl rfl Tryz.underlying55 rfl SZ.out (At.setCells TZ.out) rfl ?_
      exact ⟨pre8, _, B22, bad22, rfl, ((QZ.out.sets G2.out HX1.out).sets G2.out HX0.out).done G2.out⟩
end Go.Proofs
