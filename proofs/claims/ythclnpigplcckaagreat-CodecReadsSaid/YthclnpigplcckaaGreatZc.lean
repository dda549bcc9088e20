/- A part of the document's readers. -/
import Derived.Test.YthclnpigplcckaaGreatProg
import Derived.Test.YthclnpigplcckaaGreatLibs
import Derived.Test.YthclnpigplcckaaGreatZa
import Derived.Test.YthclnpigplcckaaGreatRa
import Derived.Test.YthclnpigplcckaaGreatRc
import Derived.WalkSpells
import Derived.WalkLawsBesides
import Derived.Deep.LoopGhost
import Derived.Lib.Hide
import Derived.Deep.RegionWith
import Derived.Maps.AppendAt
import Derived.KernelRfl
set_option linter.unusedSimpArgs false
set_option linter.unusedVariables false

set_option linter.unusedSimpArgs false
namespace Go.Proofs
open Go Go.RowKit Cod

theorem Tryz.shape25 : bshape Tryz.prog 25 = some ([(0, 1), (1, 1), (2, 1), (3, 1), (4, 1), (5, 1), (6, 1)], #[.int .i64 0, .int .i64 0, .int .i64 0, .int .i64 0, .slice none 0 0, .int .i64 0, .bool false]) := by kernel_rfl
theorem Tryz.shape187 : bshape Tryz.prog 187 = some ([(0, 1), (1, 2)], #[.int .i64 0, .int .i64 0, .int .i64 0]) := by kernel_rfl
theorem Tryz.sz25 : (Tryz.prog.info? 25).map (·.size) = some 7 := by kernel_rfl

set_option maxRecDepth 100000 in
set_option maxHeartbeats 1000000 in
theorem in_job : RecC Tryz.prog 57 schJob := by
  intro F w bx B bad h hold
  have G := Lib.hid (InX.of h hold 1)
  have M0 : Hid (Mk w.heap.size 7 F (w.alloc (.cells (zeroc schJob).toArray 25)) bx B bad) := Lib.hid (Mk.start h hold _ _ (by decide))
  have Q0 : Hid (InPX (fun k => w.heap.size ≤ k ∧ k < w.heap.size + 1) .unit F w (w.alloc (.cells (zeroc schJob).toArray 25)) bx B bad B bad [] ()) := Lib.hid (InPX.begin h hold _ _)
  have hlt := h.lt
  clear h hold
  go_enter Tryz.func57, Tryz.ntmps57
  go_wp2_with fail
  refine (in_c M0.out.h.form M0.out.h.nf).mono ?_
  rintro e w1 ⟨a1, B1, bad1, rfl, p1⟩
  have P1 := Lib.hid p1.p
  have M1 := Lib.hid (M0.out.next P1.out)
  have Q1 := Lib.hid (InPX.both hlt Q0.out P1.out)
  clear p1 P1
  go_wp2_with fail
  refine (in_c M1.out.h.form M1.out.h.nf).mono ?_
  rintro e w2 ⟨a2, B2, bad2, rfl, p2⟩
  have P2 := Lib.hid p2.p
  have M2 := Lib.hid (M1.out.next P2.out)
  have Q2 := Lib.hid (InPX.both hlt Q1.out P2.out)
  clear p2 P2
  go_wp2_with fail
  refine (in_c M2.out.h.form M2.out.h.nf).mono ?_
  rintro e w3 ⟨a3, B3, bad3, rfl, p3⟩
  have P3 := Lib.hid p3.p
  have M3 := Lib.hid (M2.out.next P3.out)
  have Q3 := Lib.hid (InPX.both hlt Q2.out P3.out)
  clear p3 P3
  go_wp2_with fail
  refine (in_c M3.out.h.form M3.out.h.nf).mono ?_
  rintro e w4 ⟨a4, B4, bad4, rfl, p4⟩
  have P4 := Lib.hid p4.p
  have M4 := Lib.hid (M3.out.next P4.out)
  have Q4 := Lib.hid (InPX.both hlt Q3.out P4.out)
  clear p4 P4
  obtain ⟨pre, hpre⟩ : ∃ pre : List Value, Hid (pre = [] ++ [Value.int .i64 a1] ++ [Value.int .i64 a2] ++ [Value.int .i64 a3] ++ [Value.int .i64 a4]) := ⟨_, Lib.hid rfl⟩
  have QP : Hid (InPX (fun k => w.heap.size ≤ k ∧ k < w.heap.size + 1) (numsL 4) F w w4 bx B bad B4 bad4 pre _) := Lib.hid (by rw [hpre.out]; exact Q4.out)
  have hpl : pre.length = 4 := Lay.len (numsL 4) QP.out.lay
  obtain ⟨VS, hVS⟩ : ∃ VS : List Value, Hid (VS = pre ++ [Value.slice none 0 0] ++ [Value.int .i64 0, Value.bool false]) := ⟨_, Lib.hid rfl⟩
  have hlv2 : VS.length = 7 := by rw [hVS.out]; simp [hpl]
  have SV : Hid ((Tryz.prog.info? 25).map (·.size) = some VS.toArray.size) := Lib.hid (by show _ = some VS.length; rw [hlv2]; exact Tryz.sz25)
  have CV : Hid (7 = VS.toArray.size) := Lib.hid hlv2.symm
  have OV : Hid (VS.toArray.all (fun x => x.oneCell') = true) := Lib.hid (all_oneCell_toArray (by
    intro v hv
    rw [hVS.out, List.append_assoc] at hv
    rcases List.mem_append.1 hv with hv | hv
    · exact Lay.one (numsL 4) QP.out.lay v hv
    · simp only [List.cons_append, List.nil_append, List.mem_cons, List.not_mem_nil, or_false] at hv
      rcases hv with rfl | rfl | rfl <;> rfl))
  have HPL := Lib.hid hpl
  clear hlv2 Q4
  go_wp2_with (first
    | (refine wpList_build_vs rfl 25 _ rfl Tryz.shape25 [[Value.int .i64 a1], [Value.int .i64 a2], [Value.int .i64 a3], [Value.int .i64 a4]] ?_ VS ?_ ?_)
    | (refine wpList_store_new rfl 25 _ _ rfl rfl rfl SV.out CV.out OV.out ?_))
  · exact ⟨by simp, rfl, by simp, ⟨by simp, rfl, by simp, ⟨by simp, rfl, by simp, ⟨by simp, rfl, by simp, trivial⟩⟩⟩⟩
  · rw [hVS.out, hpre.out]; simp
  have hsz4 := QP.out.upd.size
  have G2 := Lib.hid (G.out.add (w1 := w4) hsz4)
  have M5 : Hid (Mk w.heap.size 7 F (w4.alloc (.cells VS.toArray 25)) bx B4 bad4) := Lib.hid (M4.out.alloc _)
  have J5 : Hid (Mk w4.heap.size 7 F (w4.alloc (.cells VS.toArray 25)) bx B4 bad4) := Lib.hid (M4.out.newb _ _ (by rw [← CV.out]; exact Nat.le_refl _))
  have Q5 := Lib.hid (QP.out.allocX VS.toArray 25)
  have A5 : Hid (At (w4.alloc (.cells VS.toArray 25)) w4.heap.size 0 VS) := Lib.hid (At.new w4 VS.toArray 25)
  obtain ⟨jb, hjb⟩ : ∃ jb, jb = w4.heap.size := ⟨_, rfl⟩
  obtain ⟨w5, hw5⟩ : ∃ w5, w5 = w4.alloc (.cells VS.toArray 25) := ⟨_, rfl⟩
  rw [← hw5] at M5 J5 Q5 A5 ⊢
  rw [← hjb] at G2 J5 Q5 A5 ⊢
  obtain ⟨X, hX⟩ : ∃ X : Nat → Prop, X = fun k => (w.heap.size ≤ k ∧ k < w.heap.size + 1) ∨ k = jb := ⟨_, rfl⟩
  rw [← hX] at G2 Q5
  have HX0 : Hid (X w.heap.size) := Lib.hid (by rw [hX]; exact .inl ⟨Nat.le_refl _, by omega⟩)
  have HX1 : Hid (X jb) := Lib.hid (by rw [hX]; exact .inr rfl)
  clear SV CV OV hw5 hjb hX M4 QP
  go_wp2_with fail
  refine (in_count M5.out.h).mono ?_
  rintro e w6 ⟨n, B6, bad6, rfl, hm⟩
  have hn64 := hm.le
  have HS : Hid (LpI X schGroup 187 F w5 w6 bx B4 bad4 B6 bad6 n 0 (.slice none 0 0) [] [] w.heap.size jb 7 pre [Value.int .i64 0, Value.bool false]) :=
    Lib.hid (.start hm Q5.out.hi M5.out.h.lt G2.out.nx M5.out.h.nf (fun k hk e => by have := G2.out.old _ hk; have := G2.out.new _ e; omega) M5.out.old HX0.out HX1.out (by have := A5.out; rw [hVS.out] at this; exact this) M5.out.th J5.out.th (by rw [HPL.out]; omega))
  clear hm
  go_wp2_with fail
  go_loopw [5] (fun i wr => ∃ (j : Nat) (B' : List UInt8) (bad' : Bool) (v : Value) (cs : List Value) (xs : List (Ty schGroup)), j ≤ n ∧ i = .int .i64 j ∧ LpI X schGroup 187 F w5 wr bx B4 bad4 B' bad' n j v cs xs w.heap.size jb 7 pre [Value.int .i64 0, Value.bool false]) (fun i _ => n - (intOf i).toNat)
  case atStart => exact ⟨0, B6, bad6, _, _, _, by omega, rfl, HS.out⟩
  case round =>
    obtain ⟨j, B7, bad7, v, cs, xs, hj, rfl, hS⟩ := hrel
    have HS2 := Lib.hid hS
    have hxl : xs.length = j := hS.ls.len
    have hcell := hS.cell
    rw [hpl] at hcell
    have hws := hS.ls.upd.size
    clear hS
    by_cases hjn : j < n
    · go_wp2_with fail
      rename_i hK
      refine wp_region_S (fun L w' => L.getD 10 false = false → w'.cell? ⟨jb, 4, none⟩ = some v) (n := 11) (L := #[false, false, false, false, false, false, false, false, false, false, false]) (by kernel_rfl) rfl rfl ?_
      have C0 : Hid (false = false → wr.drew.cell? ⟨jb, 4, none⟩ = some v) := Lib.hid (fun _ => hcell)
      refine wpAnyS_take' (i := 0) (v := .pointer (some ⟨jb, 4, none⟩)) (L' := #[true, false, false, false, false, false, false, false, false, false, false]) (by simp only [List.getElem?_toArray, List.getElem?_cons_succ, List.getElem?_cons_zero]; rfl) rfl (by simp only [Act.put, List.setIfInBounds_toArray, List.set_cons_succ, List.set_cons_zero]; rfl) (by kernel_rfl) (by kernel_rfl) (by kernel_rfl) (by exact fun _ _ _ h => h) (fun L w' h hL => h (by rw [getD_set_ne false (by decide)]; exact hL)) (.inl ⟨rfl, fun _ _ _ _ _ => rfl⟩) (closedB (by kernel_rfl)) C0.out C0.out ?_
      refine wpAnyS_take' (i := 2) (v := .pointer (some ⟨bx, 0, none⟩)) (L' := #[true, false, true, false, false, false, false, false, false, false, false]) (by simp only [List.getElem?_toArray, List.getElem?_cons_succ, List.getElem?_cons_zero]; rfl) rfl (by simp only [Act.put, List.setIfInBounds_toArray, List.set_cons_succ, List.set_cons_zero]; rfl) (by kernel_rfl) (by kernel_rfl) (by kernel_rfl) (by exact fun _ _ _ h => h) (fun L w' h hL => h (by rw [getD_set_ne false (by decide)]; exact hL)) (.inl ⟨rfl, fun _ _ _ _ _ => rfl⟩) (closedB (by kernel_rfl)) C0.out C0.out ?_
      refine wpAnyS_take' (i := 4) (v := .pointer (some ⟨bx, 0, none⟩)) (L' := #[true, false, true, false, true, false, false, false, false, false, false]) (by simp only [List.getElem?_toArray, List.getElem?_cons_succ, List.getElem?_cons_zero]; rfl) rfl (by simp only [Act.put, List.setIfInBounds_toArray, List.set_cons_succ, List.set_cons_zero]; rfl) (by kernel_rfl) (by kernel_rfl) (by kernel_rfl) (by exact fun _ _ _ h => h) (fun L w' h hL => h (by rw [getD_set_ne false (by decide)]; exact hL)) (.inl ⟨rfl, fun _ _ _ _ _ => rfl⟩) (closedB (by kernel_rfl)) C0.out C0.out ?_
      refine wpAnyS_take' (i := 1) (v := v) (L' := #[true, true, true, false, true, false, false, false, false, false, false]) (by simp only [List.getElem?_toArray, List.getElem?_cons_succ, List.getElem?_cons_zero]; rfl) rfl (by simp only [Act.put, List.setIfInBounds_toArray, List.set_cons_succ, List.set_cons_zero]; rfl) (by kernel_rfl) (by kernel_rfl) (by kernel_rfl) (by exact fun _ _ _ h => h) (fun L w' h hL => h (by rw [getD_set_ne false (by decide)]; exact hL)) (.inl ⟨rfl, fun L w' hC hL hS => exec_load_one rfl rfl Tryz.underlying23 rfl (hS (hC.not (by kernel_rfl) hL))⟩) (closedB (by kernel_rfl)) C0.out C0.out ?_
      refine wpAnyS_one (i := 3) (L' := #[true, true, true, true, true, false, false, false, false, false, false]) (by kernel_rfl) rfl (by simp only [List.getElem?_toArray, List.getElem?_cons_succ, List.getElem?_cons_zero]; rfl) ?_
      go_wp2_with fail
      refine (in_c (InH.drew HS2.out.h).form HS2.out.h.nf).mono ?_
      rintro e w8 ⟨b1, B8, bad8, rfl, k1⟩
      have K1 := Lib.hid (InP.ofDrew k1.p)
      have d1 := HS2.out.cellAt K1.out (by rw [hpl]; exact hcell)
      rw [hpl] at d1
      clear k1
      go_wp2_with fail
      refine ⟨fun _ => d1, ?_⟩
      refine wpAnyS_one (i := 5) (L' := #[true, true, true, true, true, true, false, false, false, false, false]) (by kernel_rfl) rfl (by simp only [List.getElem?_toArray, List.getElem?_cons_succ, List.getElem?_cons_zero]; rfl) ?_
      have HN8 := Lib.hid (InP.nextH HS2.out.h K1.out)
      have HO8 := Lib.hid (InP.nextO HS2.out.old K1.out)
      go_wp2_with fail
      refine (in_res F _ bx _ _ HN8.out HO8.out).mono ?_
      rintro e w9 ⟨vs2, y2, B9, bad9, rfl, k2⟩
      have K2 := Lib.hid k2
      have hl2 : vs2.length = 2 := Lay.len _ k2.lay
      have d2 : w9.cell? ⟨jb, 4, none⟩ = some v := by have := HS2.out.cellAt k2 (by rw [hpl]; exact d1); rwa [hpl] at this
      have KE := Lib.hid (InP.both (Nat.lt_of_lt_of_le HS2.out.ls.lt HS2.out.ls.upd.size) K1.out k2)
      clear k2
      go_wp2_with fail
      refine ⟨fun _ => d2, ?_⟩
      refine wpAnyS_one (i := 6) (L' := #[true, true, true, true, true, true, true, false, false, false, false]) (by kernel_rfl) rfl (by simp only [List.getElem?_toArray, List.getElem?_cons_succ, List.getElem?_cons_zero]; rfl) ?_
      obtain ⟨vs, hvs⟩ : ∃ vs : List Value, Hid (vs = [Value.int .i64 b1] ++ vs2) := ⟨_, Lib.hid rfl⟩
      have KF : Hid (InP schGroup F wr w9 bx B7 bad7 B9 bad9 vs _) := Lib.hid (by rw [hvs.out]; exact KE.out)
      have hlen : vs.length = 3 := Lay.len schGroup KF.out.lay
      refine wpList_build_vs rfl 187 _ rfl Tryz.shape187 [[Value.int .i64 b1], vs2] ?_ vs ?_ ?_
      · simp only [List.map_toArray, List.map_cons, List.map_nil]
        exact ⟨by simp, rfl, by simp, ⟨by simp [hl2], rfl, by simp [hl2], trivial⟩⟩
      · rw [hvs.out]; simp [hl2]
      go_wp2_with fail
      refine ⟨fun _ => d2, ?_⟩
      refine wpAnyS_act (by simp only [Act.put, List.setIfInBounds_toArray, List.set_cons_succ, List.set_cons_zero]; rfl) ?_
      refine wpAnyS_one (i := 7) (L' := #[true, true, true, true, true, true, true, true, false, false, false]) (by kernel_rfl) rfl (by simp only [List.getElem?_toArray, List.getElem?_cons_succ, List.getElem?_cons_zero]; rfl) ?_
      obtain ⟨i0, hi, hz0, hz1, hz2⟩ := info_parts Tryz.in187
      have HI := Lib.hid hi
      clear hi
      refine wpList_build_one rfl 23 187 (.tmp 28) rfl rfl (n := 3) (by omega) (by omega) hlen Tryz.underlying23 (by rw [HI.out]; simp [hz0, hz1]) ?_
      have hup : Upd (fun _ _ => False) w9 (w9.alloc (.cells vs.toArray 187)) := (Upd.refl _ w9).alloc _
      refine ⟨fun _ => (hup.cell jb 4 (World.block_lt_of_cell? w9 _ d2) (fun h => h)).trans d2, ?_⟩
      refine wpAnyS_act (by simp only [Act.put, List.setIfInBounds_toArray, List.set_cons_succ, List.set_cons_zero]; rfl) ?_
      refine wpAnyS_one (i := 8) (L' := #[true, true, true, true, true, true, true, true, true, false, false]) (by kernel_rfl) rfl (by simp only [List.getElem?_toArray, List.getElem?_cons_succ, List.getElem?_cons_zero]; rfl) ?_
      have HO := Lib.hid (HS2.out.ls.ownAt KF.out)
      have hs9 := KF.out.upd.size
      have hone := Lib.hid (Lay.one _ KF.out.lay)
      refine wpList_append_own_at _ rfl (.tmp 23) (.tmp 29) 23 rfl w5.heap.size 187 i0 _ 3 24 Tryz.underlying23 HI.out hz0 hz1 hz2 rfl (by decide) v xs.length cs rfl (HO.out.alloc _) ⟨w9.heap.size, 0, none⟩ 1 1 vs rfl (by rw [hlen]) ?_ hone.out ?_ ?_ ?_ ?_
      · intro i u hu
        rw [addr_add]
        exact At.new w9 vs.toArray 187 i u (by simpa using hu)
      · unfold maxLen; omega
      · omega
      · simp; omega
      intro v' w10 hown' hgrow _hx hat
      obtain ⟨A', c', rfl⟩ := own_form hown'
      have HO2 := Lib.hid hown'
      have HG := Lib.hid hgrow
      have HT := Lib.hid hat
      obtain ⟨e0, e1⟩ := HS2.out.behind KF.out hgrow
      rw [hpl] at e0 e1
      refine ⟨fun _ => e0, ?_⟩
      refine wpAnyS_act (by simp only [Act.put, List.setIfInBounds_toArray, List.set_cons_succ, List.set_cons_zero]; rfl) ?_
      have C1 : Hid (false = false → w10.cell? ⟨jb, 4, none⟩ = some v) := Lib.hid (fun _ => e0)
      refine wpAnyS_take' (i := 9) (v := .pointer (some ⟨jb, 4, none⟩)) (L' := #[true, true, true, true, true, true, true, true, true, true, false]) (by simp only [List.getElem?_toArray, List.getElem?_cons_succ, List.getElem?_cons_zero]; rfl) rfl (by simp only [Act.put, List.setIfInBounds_toArray, List.set_cons_succ, List.set_cons_zero]; rfl) (by kernel_rfl) (by kernel_rfl) (by kernel_rfl) (by exact fun _ _ _ h => h) (fun L w' h hL => h (by rw [getD_set_ne false (by decide)]; exact hL)) (.inl ⟨rfl, fun _ _ _ _ _ => rfl⟩) (closedB (by kernel_rfl)) C1.out C1.out ?_
      refine wpAnyS_one (i := 10) (L' := #[true, true, true, true, true, true, true, true, true, true, true]) (by kernel_rfl) rfl (by simp only [List.getElem?_toArray, List.getElem?_cons_succ, List.getElem?_cons_zero]; rfl) ?_
      clear hown' hgrow hat C1
      go_wp2_with fail
      refine ⟨fun h => absurd h (by decide), wpAnyS_done (by kernel_rfl) ?_ _⟩
      refine hK _ _ ?_
      clear hK
      go_wp2_with fail
      go_roundw
      case rel =>
        have hst := HS2.out.step hjn KF.out (T := 187) (v' := .slice A' (j + 1) c') (by have := HO2.out; rw [hxl] at this ⊢; exact this) HG.out (by have := HT.out; rw [hxl] at this; simpa using this)
        rw [hpl] at hst
        exact ⟨j + 1, B9, bad9, .slice A' (j + 1) c', cs ++ vs, _, by omega, by go_num, hst⟩
      case measure => simp [intOf]; omega
    · go_wp2_with fail
      have Q7 := Lib.hid (InPX.both' hlt Q5.out (HS2.out.done (by omega)))
      have M7 := Lib.hid HS2.out.mkr
      have J7 := Lib.hid HS2.out.mkj
      have A7 := Lib.hid HS2.out.at_
      refine (in_c M7.out.h.form M7.out.h.nf).mono ?_
      rintro e w11 ⟨a6, B11, bad11, rfl, p⟩
      have P11 := Lib.hid p.p
      have M11 := Lib.hid (M7.out.next P11.out)
      have J11 := Lib.hid (J7.out.next P11.out)
      have Q11 := Lib.hid (InPX.both hlt Q7.out P11.out)
      have A11 := Lib.hid (P11.out.atX A7.out J7.out.ne)
      clear p P11
      have c11 : w11.cell? ⟨jb, 5, none⟩ = some (.int .i64 0) := by
        have := A11.out 5 (.int .i64 0) (by rw [List.append_assoc, List.getElem?_append_right (by omega)]; simp [hpl])
        rwa [Nat.zero_add] at this
      have f11 : w11.frozen? ⟨jb, 5, none⟩ = false := by
        have := (J11.out.th 5 (by omega)).2
        rwa [Nat.zero_add] at this
      go_wp2_with fail
      obtain ⟨w12, hw12⟩ : ∃ w12, w12 = w11.setCell ⟨jb, 5, none⟩ (.int .i64 a6) := ⟨_, rfl⟩
      have hnF : ¬ F jb := fun e => by have := G2.out.old _ e; have := G2.out.new _ HX1.out; omega
      have M12 : Hid (Mk w.heap.size 7 F w12 bx B11 bad11) := Lib.hid (by rw [hw12]; exact M11.out.set J11.out.ne hnF _)
      have J12 : Hid (Mk jb 7 F w12 bx B11 bad11) := Lib.hid (by rw [hw12]; exact J11.out.set J11.out.ne hnF _)
      have Q12 : Hid (InPX X _ F w w12 bx B bad B11 bad11 _ _) := Lib.hid (by rw [hw12]; exact Q11.out.set G2.out HX1.out _)
      have A12 : Hid (At w12 jb 0 (pre ++ [v] ++ [Value.int .i64 a6, Value.bool false])) := Lib.hid (by
        rw [hw12]
        have := A11.out.put1 (u := .int .i64 a6) (pre ++ [v]) (.int .i64 0) [Value.bool false] (by simp) (o := 5) (by simp [hpl])
        simpa using this)
      rw [← hw12]
      clear hw12 c11 f11 M11 J11 Q11 A11 M7 J7 Q7 A7
      refine (in_flag M12.out.h).mono ?_
      rintro e w13 ⟨a7, B13, bad13, rfl, p⟩
      have P13 := Lib.hid p
      have M13 := Lib.hid (M12.out.next P13.out)
      have J13 := Lib.hid (J12.out.next P13.out)
      have Q13 := Lib.hid (InPX.both hlt Q12.out P13.out)
      have A13 := Lib.hid (P13.out.atX A12.out J12.out.ne)
      clear p P13
      have c13 : w13.cell? ⟨jb, 6, none⟩ = some (.bool false) := by
        have := A13.out 6 (.bool false) (by rw [List.append_assoc, List.getElem?_append_right (by omega)]; simp [hpl])
        rwa [Nat.zero_add] at this
      have f13 : w13.frozen? ⟨jb, 6, none⟩ = false := by
        have := (J13.out.th 6 (by omega)).2
        rwa [Nat.zero_add] at this
      obtain ⟨ZS, hZS⟩ : ∃ ZS : List Value, Hid (ZS = pre ++ [v] ++ [Value.int .i64 a6] ++ [Value.bool a7]) := ⟨_, Lib.hid rfl⟩
      have QZ : Hid (InPX X schJob F w w13 bx B bad B13 bad13 ZS _) := Lib.hid (by rw [hZS.out]; exact Q13.out)
      have hzl : ZS.length = 7 := Lay.len schJob QZ.out.lay
      have AZ : Hid (At (w13.setCell ⟨jb, 6, none⟩ (.bool a7)) jb 0 ZS) := Lib.hid (by
        have := A13.out.put1 (u := .bool a7) (pre ++ [v] ++ [Value.int .i64 a6]) (.bool false) [] (by simp) (o := 6) (by simp [hpl])
        rw [hZS.out]
        simpa using this)
      have TZ : Hid ((w13.setCell ⟨jb, 6, none⟩ (.bool a7)).there w.heap.size 0 ZS.toArray.size) := Lib.hid (by
        show World.there _ _ _ ZS.length
        rw [hzl]
        exact (M13.out.set J13.out.ne hnF _).th)
      have SZ : Hid ((Tryz.prog.info? 25).map (·.size) = some ZS.toArray.size) := Lib.hid (by show _ = some ZS.length; rw [hzl]; exact Tryz.sz25)
      have OZ := Lib.hid (all_oneCell_toArray (Lay.one schJob QZ.out.lay))
      clear hzl
      go_wp2_with (first
        | (refine wpList_load_mid rfl 25 _ rfl jb 0 rfl ZS _ AZ.out Tryz.underlying25 rfl SZ.out ?_)
        | (refine wpList_store_mid rfl 25 _ _ rfl w.heap.size 0 ZS.toArray rfl rfl TZ.out SZ.out OZ.out ?_))
      refine ret_row1 rfl rfl Tryz.underlying25 rfl SZ.out (At.setCells TZ.out) rfl ?_
      exact ⟨ZS, _, B13, bad13, rfl, ((QZ.out.set G2.out HX1.out _).sets G2.out HX0.out).done G2.out⟩
end Go.Proofs
