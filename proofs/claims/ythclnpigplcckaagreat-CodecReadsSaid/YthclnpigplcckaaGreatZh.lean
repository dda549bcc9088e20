/- A part of the document's readers. -/
import Derived.Test.YthclnpigplcckaaGreatProg
import Derived.Test.YthclnpigplcckaaGreatLibs
import Derived.Test.YthclnpigplcckaaGreatZf
import Derived.Test.YthclnpigplcckaaGreatZb
import Derived.Test.YthclnpigplcckaaGreatZc
import Derived.Test.YthclnpigplcckaaGreatZa
import Derived.Test.YthclnpigplcckaaGreatRd
import Derived.Test.YthclnpigplcckaaGreatRf
import Derived.Test.YthclnpigplcckaaGreatRk
import Derived.Test.YthclnpigplcckaaGreatRl
import Derived.Test.YthclnpigplcckaaGreatGb
import Derived.WalkSpells
import Derived.WalkLawsBesides
import Derived.Deep.LoopGhost
import Derived.Lib.Hide
import Derived.Deep.RegionWith
import Derived.Maps.AppendAt
import Derived.KernelRfl
set_option linter.unusedSimpArgs false
set_option linter.unusedVariables false

set_option linter.unusedSimpArgs false
namespace Go.Proofs
open Go Go.RowKit Cod

theorem Tryz.shape70 : bshape Tryz.prog 70 = some ([(0, 1), (1, 1), (2, 1), (3, 1), (4, 1), (5, 1), (6, 1), (7, 1), (8, 1)], #[.int .i64 0, .int .i64 0, .slice none 0 0, .slice none 0 0, .slice none 0 0, .slice none 0 0, .slice none 0 0, .slice none 0 0, .slice none 0 0]) := by kernel_rfl
theorem Tryz.shape167 : bshape Tryz.prog 167 = some ([(0, 1), (1, 1), (2, 1), (3, 1)], #[.int .i64 0, .int .i64 0, .int .i64 0, .int .i64 0]) := by kernel_rfl
theorem Tryz.shape172 : bshape Tryz.prog 172 = some ([(0, 1), (1, 1), (2, 1), (3, 1)], #[.int .i64 0, .int .i64 0, .int .i64 0, .int .i64 0]) := by kernel_rfl
theorem Tryz.shape177 : bshape Tryz.prog 177 = some ([(0, 1), (1, 1), (2, 3)], #[.int .i64 0, .int .i64 0, .int .i64 0, .int .i64 0, .slice none 0 0]) := by kernel_rfl

set_option maxRecDepth 100000 in
set_option maxHeartbeats 1000000 in
theorem in_store : RecC Tryz.prog 46 schStore := by
  intro F w bx B bad h hold
  have G := Lib.hid (InX.of h hold 1)
  have M0 : Hid (Mk w.heap.size 9 F (w.alloc (.cells (zeroc schStore).toArray 70)) bx B bad) := Lib.hid (Mk.start h hold _ _ (by decide))
  have Q0 : Hid (InPX (fun k => w.heap.size ≤ k ∧ k < w.heap.size + 1) .unit F w (w.alloc (.cells (zeroc schStore).toArray 70)) bx B bad B bad [] ()) := Lib.hid (InPX.begin h hold _ _)
  have hlt := h.lt
  clear h hold
  go_enter Tryz.func46, Tryz.ntmps46
  go_wp2_with fail
  refine (in_c (M0.out.h).form (M0.out.h).nf).mono ?_
  rintro e w1 ⟨a1, B1, bad1, rfl, p1⟩
  have P1 := Lib.hid p1.p
  have M1 := Lib.hid (M0.out.next P1.out)
  have Q1 := Lib.hid (InPX.both hlt Q0.out P1.out)
  clear p1 P1
  go_wp2_with fail
  refine (in_c (M1.out.h).form (M1.out.h).nf).mono ?_
  rintro e w2 ⟨a2, B2, bad2, rfl, p2⟩
  have P2 := Lib.hid p2.p
  have M2 := Lib.hid (M1.out.next P2.out)
  have Q2 := Lib.hid (InPX.both hlt Q1.out P2.out)
  clear p2 P2
  go_wp2_with fail
  refine (in_jobs (M2.out.h) M2.out.old).mono ?_
  rintro e w3 ⟨a3, x3, B3, bad3, rfl, p3⟩
  obtain ⟨sA3, sn3, sc3, rfl⟩ := lay_slice p3.lay
  have P3 := Lib.hid p3
  have M3 := Lib.hid (M2.out.next P3.out)
  have Q3 := Lib.hid (InPX.both hlt Q2.out P3.out)
  clear p3 P3
  go_wp2_with fail
  refine (in_jobs (M3.out.h) M3.out.old).mono ?_
  rintro e w4 ⟨a4, x4, B4, bad4, rfl, p4⟩
  obtain ⟨sA4, sn4, sc4, rfl⟩ := lay_slice p4.lay
  have P4 := Lib.hid p4
  have M4 := Lib.hid (M3.out.next P4.out)
  have Q4 := Lib.hid (InPX.both hlt Q3.out P4.out)
  clear p4 P4
  obtain ⟨pre0, hpre⟩ : ∃ pre : List Value, Hid (pre = (((([] ++ [Value.int .i64 a1]) ++ [Value.int .i64 a2]) ++ [Value.slice sA3 sn3 sc3]) ++ [Value.slice sA4 sn4 sc4])) := ⟨_, Lib.hid rfl⟩
  have QP : Hid (InPX (fun k => w.heap.size ≤ k ∧ k < w.heap.size + 1) (.pair (.pair (numsL 2) (.list schJob)) (.list schJob)) F w w4 bx B bad B4 bad4 pre0 _) := Lib.hid (by rw [hpre.out]; exact Q4.out)
  have hpl0 : pre0.length = 4 := Lay.len (.pair (.pair (numsL 2) (.list schJob)) (.list schJob)) QP.out.lay
  obtain ⟨VS, hVS⟩ : ∃ VS : List Value, Hid (VS = pre0 ++ [Value.slice none 0 0, Value.slice none 0 0, Value.slice none 0 0, Value.slice none 0 0, Value.slice none 0 0]) := ⟨_, Lib.hid rfl⟩
  have hlv2 : VS.length = 9 := by rw [hVS.out]; simp [hpl0]
  have SV : Hid ((Tryz.prog.info? 70).map (·.size) = some VS.toArray.size) := Lib.hid (by show _ = some VS.length; rw [hlv2]; exact Tryz.sz70)
  have CV : Hid (9 = VS.toArray.size) := Lib.hid hlv2.symm
  have OV : Hid (VS.toArray.all (fun x => x.oneCell') = true) := Lib.hid (all_oneCell_toArray (by
    intro v hv
    rw [hVS.out] at hv
    rcases List.mem_append.1 hv with hv | hv
    · exact Lay.one (.pair (.pair (numsL 2) (.list schJob)) (.list schJob)) QP.out.lay v hv
    · simp only [List.mem_cons, List.not_mem_nil, or_false] at hv
      rcases hv with rfl | rfl | rfl | rfl | rfl <;> rfl))
  clear hlv2 Q4
  go_wp2_with (first
    | (refine wpList_build_vs rfl 70 _ rfl Tryz.shape70 [[Value.int .i64 a1], [Value.int .i64 a2], [Value.slice sA3 sn3 sc3], [Value.slice sA4 sn4 sc4]] ?_ VS ?_ ?_)
    | (refine wpList_store_new rfl 70 _ _ rfl rfl rfl SV.out CV.out OV.out ?_))
  · exact ⟨by simp, rfl, by simp, ⟨by simp, rfl, by simp, ⟨by simp, rfl, by simp, ⟨by simp, rfl, by simp, trivial⟩⟩⟩⟩
  · rw [hVS.out, hpre.out]; simp
  have hsz4 := QP.out.upd.size
  have G2 := Lib.hid (G.out.add (w1 := w4) hsz4)
  have M5 : Hid (Mk w.heap.size 9 F (w4.alloc (.cells VS.toArray 70)) bx B4 bad4) := Lib.hid (M4.out.alloc _)
  have J5 : Hid (Mk w4.heap.size 9 F (w4.alloc (.cells VS.toArray 70)) bx B4 bad4) := Lib.hid (M4.out.newb _ _ (by rw [← CV.out]; exact Nat.le_refl _))
  have Q5 := Lib.hid (QP.out.allocX VS.toArray 70)
  have A5 : Hid (At (w4.alloc (.cells VS.toArray 70)) w4.heap.size 0 VS) := Lib.hid (At.new w4 VS.toArray 70)
  obtain ⟨jb, hjb⟩ : ∃ jb, jb = w4.heap.size := ⟨_, rfl⟩
  obtain ⟨w5, hw⟩ : ∃ w', w' = w4.alloc (.cells VS.toArray 70) := ⟨_, rfl⟩
  rw [← hw] at M5 J5 Q5 A5 ⊢
  rw [← hjb] at G2 J5 Q5 A5 ⊢
  rw [hVS.out] at A5
  obtain ⟨X, hX⟩ : ∃ X : Nat → Prop, X = fun k => (w.heap.size ≤ k ∧ k < w.heap.size + 1) ∨ k = jb := ⟨_, rfl⟩
  rw [← hX] at G2 Q5
  have HX0 : Hid (X w.heap.size) := Lib.hid (by rw [hX]; exact .inl ⟨Nat.le_refl _, by omega⟩)
  have HX1 : Hid (X jb) := Lib.hid (by rw [hX]; exact .inr rfl)
  have hnF : ¬ F jb := fun e => by have := G2.out.old _ e; have := G2.out.new _ HX1.out; omega
  have HNF := Lib.hid hnF
  clear SV CV OV hw hjb hX M4 QP hnF hsz4
  go_wp2_with fail
  refine (in_count M5.out.h).mono ?_
  rintro e w6 ⟨n, B6, bad6, rfl, hm⟩
  have hn64 := hm.le
  have HS : Hid (LpI X schNode 29 F w5 w6 bx B4 bad4 B6 bad6 n 0 (.slice none 0 0) [] [] w.heap.size jb 9 pre0 [Value.slice none 0 0, Value.slice none 0 0, Value.slice none 0 0, Value.slice none 0 0]) :=
    Lib.hid (.start hm Q5.out.hi M5.out.h.lt G2.out.nx M5.out.h.nf (fun k hk e => by have := G2.out.old _ hk; have := G2.out.new _ e; omega) M5.out.old HX0.out HX1.out (by have := A5.out; simpa using this) M5.out.th J5.out.th (by rw [hpl0]; omega))
  clear hm
  go_wp2_with fail
  go_loopw [5] (fun i wr => ∃ (j : Nat) (B' : List UInt8) (bad' : Bool) (v : Value) (cs : List Value) (xs : List (Ty schNode)), j ≤ n ∧ i = .int .i64 j ∧ LpI X schNode 29 F w5 wr bx B4 bad4 B' bad' n j v cs xs w.heap.size jb 9 pre0 [Value.slice none 0 0, Value.slice none 0 0, Value.slice none 0 0, Value.slice none 0 0]) (fun i _ => n - (intOf i).toNat)
  case atStart => exact ⟨0, B6, bad6, _, _, _, by omega, rfl, HS.out⟩
  case round =>
    obtain ⟨j, B7, bad7, v6, cs, xs, hj, rfl, hS⟩ := hrel
    have HS2 := Lib.hid hS
    have hxl : xs.length = j := hS.ls.len
    have hcell := hS.cell
    rw [hpl0] at hcell
    have hws := hS.ls.upd.size
    clear hS
    by_cases hjn : j < n
    · go_wp2_with fail
      rename_i hK
      refine wp_region_S (fun L w' => L.getD 7 false = false → w'.cell? ⟨jb, 4, none⟩ = some v6) (n := 8) (L := #[false, false, false, false, false, false, false, false]) (by kernel_rfl) rfl rfl ?_
      have C0 : Hid (false = false → wr.drew.cell? ⟨jb, 4, none⟩ = some v6) := Lib.hid (fun _ => hcell)
      refine wpAnyS_take' (i := 0) (v := .pointer (some ⟨jb, 4, none⟩)) (L' := #[true, false, false, false, false, false, false, false]) (by simp only [List.getElem?_toArray, List.getElem?_cons_succ, List.getElem?_cons_zero]; rfl) rfl (by simp only [Act.put, List.setIfInBounds_toArray, List.set_cons_succ, List.set_cons_zero]; rfl) (by kernel_rfl) (by kernel_rfl) (by kernel_rfl) (by exact fun _ _ _ h => h) (fun L w' h hL => h (by rw [getD_set_ne false (by decide)]; exact hL)) (.inl ⟨rfl, fun _ _ _ _ _ => rfl⟩) (closedB (by kernel_rfl)) C0.out C0.out ?_
      refine wpAnyS_take' (i := 2) (v := .pointer (some ⟨bx, 0, none⟩)) (L' := #[true, false, true, false, false, false, false, false]) (by simp only [List.getElem?_toArray, List.getElem?_cons_succ, List.getElem?_cons_zero]; rfl) rfl (by simp only [Act.put, List.setIfInBounds_toArray, List.set_cons_succ, List.set_cons_zero]; rfl) (by kernel_rfl) (by kernel_rfl) (by kernel_rfl) (by exact fun _ _ _ h => h) (fun L w' h hL => h (by rw [getD_set_ne false (by decide)]; exact hL)) (.inl ⟨rfl, fun _ _ _ _ _ => rfl⟩) (closedB (by kernel_rfl)) C0.out C0.out ?_
      refine wpAnyS_take' (i := 1) (v := v6) (L' := #[true, true, true, false, false, false, false, false]) (by simp only [List.getElem?_toArray, List.getElem?_cons_succ, List.getElem?_cons_zero]; rfl) rfl (by simp only [Act.put, List.setIfInBounds_toArray, List.set_cons_succ, List.set_cons_zero]; rfl) (by kernel_rfl) (by kernel_rfl) (by kernel_rfl) (by exact fun _ _ _ h => h) (fun L w' h hL => h (by rw [getD_set_ne false (by decide)]; exact hL)) (.inl ⟨rfl, fun L w' hC hL hS => exec_load_one rfl rfl Tryz.underlying65 rfl (hS (hC.not (by kernel_rfl) hL))⟩) (closedB (by kernel_rfl)) C0.out C0.out ?_
      refine wpAnyS_one (i := 3) (L' := #[true, true, true, true, false, false, false, false]) (by kernel_rfl) rfl (by simp only [List.getElem?_toArray, List.getElem?_cons_succ, List.getElem?_cons_zero]; rfl) ?_
      go_wp2_with fail
      refine (in_node F _ bx _ _ (InH.drew HS2.out.h) HS2.out.old).mono ?_
      rintro e w8 ⟨u8s, y8, B8, bad8, rfl, k⟩
      have K8 := Lib.hid (InP.ofDrew k)
      have hu8 : u8s.length = 8 := Lay.len _ K8.out.lay
      have d8 : w8.cell? ⟨jb, 4, none⟩ = some v6 := by have := HS2.out.cellAt K8.out (by rw [hpl0]; exact hcell); rwa [hpl0] at this
      have KE8 := K8
      clear k
      go_wp2_with fail
      refine ⟨fun _ => d8, ?_⟩
      obtain ⟨vs, hvs⟩ : ∃ vs : List Value, Hid (vs = u8s) := ⟨_, Lib.hid rfl⟩
      have KF : Hid (InP schNode F wr w8 bx B7 bad7 B8 bad8 vs _) := Lib.hid (by rw [hvs.out]; exact KE8.out)
      have hlen : vs.length = 8 := Lay.len schNode KF.out.lay
      rw [← hvs.out]
      refine wpAnyS_one (i := 4) (L' := #[true, true, true, true, true, false, false, false]) (by kernel_rfl) rfl (by simp only [List.getElem?_toArray, List.getElem?_cons_succ, List.getElem?_cons_zero]; rfl) ?_
      obtain ⟨i0, hi, hz0, hz1, hz2⟩ := info_parts Tryz.in29
      have HI := Lib.hid hi
      clear hi
      refine wpList_build_one rfl 65 29 (.tmp 28) rfl rfl (n := 8) (by omega) (by omega) hlen Tryz.underlying65 (by rw [HI.out]; simp [hz0, hz1]) ?_
      have hup : Upd (fun _ _ => False) w8 (w8.alloc (.cells vs.toArray 29)) := (Upd.refl _ w8).alloc _
      refine ⟨fun _ => (hup.cell jb 4 (World.block_lt_of_cell? w8 _ d8) (fun h => h)).trans d8, ?_⟩
      refine wpAnyS_act (by simp only [Act.put, List.setIfInBounds_toArray, List.set_cons_succ, List.set_cons_zero]; rfl) ?_
      refine wpAnyS_one (i := 5) (L' := #[true, true, true, true, true, true, false, false]) (by kernel_rfl) rfl (by simp only [List.getElem?_toArray, List.getElem?_cons_succ, List.getElem?_cons_zero]; rfl) ?_
      have HO := Lib.hid (HS2.out.ls.ownAt KF.out)
      have hs9 := KF.out.upd.size
      have hone := Lib.hid (Lay.one _ KF.out.lay)
      refine wpList_append_own_at _ rfl (.tmp 26) (.tmp 29) 65 rfl w5.heap.size 29 i0 _ 8 56 Tryz.underlying65 HI.out hz0 hz1 hz2 rfl (by decide) v6 xs.length cs rfl (HO.out.alloc _) ⟨w8.heap.size, 0, none⟩ 1 1 vs rfl (by rw [hlen]) ?_ hone.out ?_ ?_ ?_ ?_
      · intro i u hu
        rw [addr_add]
        exact At.new w8 vs.toArray 29 i u (by simpa using hu)
      · unfold maxLen; omega
      · omega
      · simp; omega
      intro v' wz hown' hgrow _hx hat
      obtain ⟨A', c', rfl⟩ := own_form hown'
      have HO2 := Lib.hid hown'
      have HG := Lib.hid hgrow
      have HT := Lib.hid hat
      obtain ⟨e0, e1⟩ := HS2.out.behind KF.out hgrow
      rw [hpl0] at e0 e1
      refine ⟨fun _ => e0, ?_⟩
      refine wpAnyS_act (by simp only [Act.put, List.setIfInBounds_toArray, List.set_cons_succ, List.set_cons_zero]; rfl) ?_
      have C1 : Hid (false = false → wz.cell? ⟨jb, 4, none⟩ = some v6) := Lib.hid (fun _ => e0)
      refine wpAnyS_take' (i := 6) (v := .pointer (some ⟨jb, 4, none⟩)) (L' := #[true, true, true, true, true, true, true, false]) (by simp only [List.getElem?_toArray, List.getElem?_cons_succ, List.getElem?_cons_zero]; rfl) rfl (by simp only [Act.put, List.setIfInBounds_toArray, List.set_cons_succ, List.set_cons_zero]; rfl) (by kernel_rfl) (by kernel_rfl) (by kernel_rfl) (by exact fun _ _ _ h => h) (fun L w' h hL => h (by rw [getD_set_ne false (by decide)]; exact hL)) (.inl ⟨rfl, fun _ _ _ _ _ => rfl⟩) (closedB (by kernel_rfl)) C1.out C1.out ?_
      refine wpAnyS_one (i := 7) (L' := #[true, true, true, true, true, true, true, true]) (by kernel_rfl) rfl (by simp only [List.getElem?_toArray, List.getElem?_cons_succ, List.getElem?_cons_zero]; rfl) ?_
      clear hown' hgrow hat C1
      go_wp2_with fail
      refine ⟨fun h => absurd h (by decide), wpAnyS_done (by kernel_rfl) ?_ _⟩
      refine hK _ _ ?_
      clear hK
      go_wp2_with fail
      go_roundw
      case rel =>
        have hst := HS2.out.step hjn KF.out (T := 29) (v' := .slice A' (j + 1) c') (by have := HO2.out; rw [hxl] at this ⊢; exact this) HG.out (by have := HT.out; rw [hxl] at this; simpa using this)
        rw [hpl0] at hst
        exact ⟨j + 1, B8, bad8, .slice A' (j + 1) c', cs ++ vs, _, by omega, by go_num, hst⟩
      case measure => simp [intOf]; omega
    · have Q7 := Lib.hid (InPX.both' hlt Q5.out (HS2.out.done (by omega)))
      have M7 := Lib.hid HS2.out.mkr
      have J7 := Lib.hid HS2.out.mkj
      have A7 := Lib.hid HS2.out.at_
      obtain ⟨pre4, hpre4⟩ : ∃ pre' : List Value, Hid (pre' = pre0 ++ [v6]) := ⟨_, Lib.hid rfl⟩
      have hpl4 : pre4.length = 5 := by rw [hpre4.out]; simp [hpl0]
      rw [← hpre4.out] at Q7 A7
      obtain ⟨w7, hwr⟩ : ∃ w', w' = wr := ⟨_, rfl⟩
      rw [← hwr] at Q7 M7 J7 A7 ⊢
      clear HS2 hcell hws hwr
      go_wp2_with fail
      refine (in_allocs (M7.out.h) M7.out.old).mono ?_
      rintro e w8 ⟨a8, x8, B8, bad8, rfl, p8⟩
      obtain ⟨sA8, sn8, sc8, rfl⟩ := lay_slice p8.lay
      have P8 := Lib.hid p8
      have M8 := Lib.hid (M7.out.next P8.out)
      have J8 := Lib.hid (J7.out.next P8.out)
      have Q8 := Lib.hid (InPX.both hlt Q7.out P8.out)
      have A8 := Lib.hid (P8.out.atX A7.out J7.out.ne)
      obtain ⟨pre5, hpre5⟩ : ∃ pre' : List Value, Hid (pre' = pre4 ++ [Value.slice sA8 sn8 sc8]) := ⟨_, Lib.hid rfl⟩
      have hpl5 : pre5.length = 6 := by rw [hpre5.out]; simp [hpl4]
      rw [← hpre5.out] at Q8
      have c8_ : w8.cell? ⟨jb, 5, none⟩ = some (Value.slice none 0 0) := by
        have := A8.out 5 (Value.slice none 0 0) (by rw [List.getElem?_append_right (by omega)]; simp [hpl4])
        rwa [Nat.zero_add] at this
      have f8_ : w8.frozen? ⟨jb, 5, none⟩ = false := by
        have := (J8.out.th 5 (by omega)).2
        rwa [Nat.zero_add] at this
      clear p8 P8
      go_wp2_with fail
      obtain ⟨w9, hw⟩ : ∃ w', w' = (w8.setCell ⟨jb, 5, none⟩ (Value.slice sA8 sn8 sc8)) := ⟨_, rfl⟩
      have M9 : Hid (Mk w.heap.size 9 F w9 bx B8 bad8) := Lib.hid (by rw [hw]; exact M8.out.set J8.out.ne HNF.out _)
      have J9 : Hid (Mk jb 9 F w9 bx B8 bad8) := Lib.hid (by rw [hw]; exact J8.out.set J8.out.ne HNF.out _)
      have Q9 : Hid (InPX X _ F w w9 bx B bad B8 bad8 pre5 _) := Lib.hid (by rw [hw]; exact Q8.out.set G2.out HX1.out _)
      have A9 : Hid (At w9 jb 0 (pre5 ++ [Value.slice none 0 0, Value.slice none 0 0, Value.slice none 0 0])) := Lib.hid (by rw [hw, hpre5.out]; simpa using At.put1 (u := Value.slice sA8 sn8 sc8) A8.out pre4 (Value.slice none 0 0) [Value.slice none 0 0, Value.slice none 0 0, Value.slice none 0 0] (by simp) (by rw [hpl4]))
      rw [← hw]
      clear hw M8 J8 Q8 A8 c8_ f8_
      go_wp2_with fail
      refine (in_count M9.out.h).mono ?_
      rintro e w10 ⟨n, B10, bad10, rfl, hm⟩
      have hn64 := hm.le
      have HS : Hid (LpI X schEval 167 F w9 w10 bx B8 bad8 B10 bad10 n 0 (.slice none 0 0) [] [] w.heap.size jb 9 pre5 [Value.slice none 0 0, Value.slice none 0 0]) :=
        Lib.hid (.start hm Q9.out.hi M9.out.h.lt G2.out.nx M9.out.h.nf (fun k hk e => by have := G2.out.old _ hk; have := G2.out.new _ e; omega) M9.out.old HX0.out HX1.out (by have := A9.out; simpa using this) M9.out.th J9.out.th (by rw [hpl5]; omega))
      clear hm
      go_wp2_with fail
      go_loopw [6] (fun i wr => ∃ (j : Nat) (B' : List UInt8) (bad' : Bool) (v : Value) (cs : List Value) (xs : List (Ty schEval)), j ≤ n ∧ i = .int .i64 j ∧ LpI X schEval 167 F w9 wr bx B8 bad8 B' bad' n j v cs xs w.heap.size jb 9 pre5 [Value.slice none 0 0, Value.slice none 0 0]) (fun i _ => n - (intOf i).toNat)
      case atStart => exact ⟨0, B10, bad10, _, _, _, by omega, rfl, HS.out⟩
      case round =>
        obtain ⟨j, B11, bad11, v10, cs, xs, hj, rfl, hS⟩ := hrel
        have HS2 := Lib.hid hS
        have hxl : xs.length = j := hS.ls.len
        have hcell := hS.cell
        rw [hpl5] at hcell
        have hws := hS.ls.upd.size
        clear hS
        by_cases hjn : j < n
        · go_wp2_with fail
          rename_i hK
          refine wp_region_S (fun L w' => L.getD 14 false = false → w'.cell? ⟨jb, 6, none⟩ = some v10) (n := 15) (L := #[false, false, false, false, false, false, false, false, false, false, false, false, false, false, false]) (by kernel_rfl) rfl rfl ?_
          have C0 : Hid (false = false → wr.drew.cell? ⟨jb, 6, none⟩ = some v10) := Lib.hid (fun _ => hcell)
          refine wpAnyS_take' (i := 0) (v := .pointer (some ⟨jb, 6, none⟩)) (L' := #[true, false, false, false, false, false, false, false, false, false, false, false, false, false, false]) (by simp only [List.getElem?_toArray, List.getElem?_cons_succ, List.getElem?_cons_zero]; rfl) rfl (by simp only [Act.put, List.setIfInBounds_toArray, List.set_cons_succ, List.set_cons_zero]; rfl) (by kernel_rfl) (by kernel_rfl) (by kernel_rfl) (by exact fun _ _ _ h => h) (fun L w' h hL => h (by rw [getD_set_ne false (by decide)]; exact hL)) (.inl ⟨rfl, fun _ _ _ _ _ => rfl⟩) (closedB (by kernel_rfl)) C0.out C0.out ?_
          refine wpAnyS_take' (i := 2) (v := .pointer (some ⟨bx, 0, none⟩)) (L' := #[true, false, true, false, false, false, false, false, false, false, false, false, false, false, false]) (by simp only [List.getElem?_toArray, List.getElem?_cons_succ, List.getElem?_cons_zero]; rfl) rfl (by simp only [Act.put, List.setIfInBounds_toArray, List.set_cons_succ, List.set_cons_zero]; rfl) (by kernel_rfl) (by kernel_rfl) (by kernel_rfl) (by exact fun _ _ _ h => h) (fun L w' h hL => h (by rw [getD_set_ne false (by decide)]; exact hL)) (.inl ⟨rfl, fun _ _ _ _ _ => rfl⟩) (closedB (by kernel_rfl)) C0.out C0.out ?_
          refine wpAnyS_take' (i := 4) (v := .pointer (some ⟨bx, 0, none⟩)) (L' := #[true, false, true, false, true, false, false, false, false, false, false, false, false, false, false]) (by simp only [List.getElem?_toArray, List.getElem?_cons_succ, List.getElem?_cons_zero]; rfl) rfl (by simp only [Act.put, List.setIfInBounds_toArray, List.set_cons_succ, List.set_cons_zero]; rfl) (by kernel_rfl) (by kernel_rfl) (by kernel_rfl) (by exact fun _ _ _ h => h) (fun L w' h hL => h (by rw [getD_set_ne false (by decide)]; exact hL)) (.inl ⟨rfl, fun _ _ _ _ _ => rfl⟩) (closedB (by kernel_rfl)) C0.out C0.out ?_
          refine wpAnyS_take' (i := 6) (v := .pointer (some ⟨bx, 0, none⟩)) (L' := #[true, false, true, false, true, false, true, false, false, false, false, false, false, false, false]) (by simp only [List.getElem?_toArray, List.getElem?_cons_succ, List.getElem?_cons_zero]; rfl) rfl (by simp only [Act.put, List.setIfInBounds_toArray, List.set_cons_succ, List.set_cons_zero]; rfl) (by kernel_rfl) (by kernel_rfl) (by kernel_rfl) (by exact fun _ _ _ h => h) (fun L w' h hL => h (by rw [getD_set_ne false (by decide)]; exact hL)) (.inl ⟨rfl, fun _ _ _ _ _ => rfl⟩) (closedB (by kernel_rfl)) C0.out C0.out ?_
          refine wpAnyS_take' (i := 8) (v := .pointer (some ⟨bx, 0, none⟩)) (L' := #[true, false, true, false, true, false, true, false, true, false, false, false, false, false, false]) (by simp only [List.getElem?_toArray, List.getElem?_cons_succ, List.getElem?_cons_zero]; rfl) rfl (by simp only [Act.put, List.setIfInBounds_toArray, List.set_cons_succ, List.set_cons_zero]; rfl) (by kernel_rfl) (by kernel_rfl) (by kernel_rfl) (by exact fun _ _ _ h => h) (fun L w' h hL => h (by rw [getD_set_ne false (by decide)]; exact hL)) (.inl ⟨rfl, fun _ _ _ _ _ => rfl⟩) (closedB (by kernel_rfl)) C0.out C0.out ?_
          refine wpAnyS_take' (i := 1) (v := v10) (L' := #[true, true, true, false, true, false, true, false, true, false, false, false, false, false, false]) (by simp only [List.getElem?_toArray, List.getElem?_cons_succ, List.getElem?_cons_zero]; rfl) rfl (by simp only [Act.put, List.setIfInBounds_toArray, List.set_cons_succ, List.set_cons_zero]; rfl) (by kernel_rfl) (by kernel_rfl) (by kernel_rfl) (by exact fun _ _ _ h => h) (fun L w' h hL => h (by rw [getD_set_ne false (by decide)]; exact hL)) (.inl ⟨rfl, fun L w' hC hL hS => exec_load_one rfl rfl Tryz.underlying66 rfl (hS (hC.not (by kernel_rfl) hL))⟩) (closedB (by kernel_rfl)) C0.out C0.out ?_
          refine wpAnyS_one (i := 3) (L' := #[true, true, true, true, true, false, true, false, true, false, false, false, false, false, false]) (by kernel_rfl) rfl (by simp only [List.getElem?_toArray, List.getElem?_cons_succ, List.getElem?_cons_zero]; rfl) ?_
          go_wp2_with fail
          refine (in_c (InH.drew HS2.out.h).form (InH.drew HS2.out.h).nf).mono ?_
          rintro e w12 ⟨b12, B12, bad12, rfl, k⟩
          have K12 := Lib.hid (InP.ofDrew k.p)
          have d12 : w12.cell? ⟨jb, 6, none⟩ = some v10 := by have := HS2.out.cellAt K12.out (by rw [hpl5]; exact hcell); rwa [hpl5] at this
          have HN12 := Lib.hid (InP.nextH HS2.out.h K12.out)
          have HO12 := Lib.hid (InP.nextO HS2.out.old K12.out)
          have KE12 := Lib.hid (InP.both (Nat.lt_of_lt_of_le HS2.out.ls.lt HS2.out.ls.upd.size) (InP.unit (F := F) HS2.out.h.form) K12.out)
          clear k
          go_wp2_with fail
          refine ⟨fun _ => d12, ?_⟩
          refine wpAnyS_one (i := 5) (L' := #[true, true, true, true, true, true, true, false, true, false, false, false, false, false, false]) (by kernel_rfl) rfl (by simp only [List.getElem?_toArray, List.getElem?_cons_succ, List.getElem?_cons_zero]; rfl) ?_
          go_wp2_with fail
          refine (in_c HN12.out.form HN12.out.nf).mono ?_
          rintro e w13 ⟨b13, B13, bad13, rfl, k⟩
          have K13 := Lib.hid k.p
          have d13 : w13.cell? ⟨jb, 6, none⟩ = some v10 := by have := HS2.out.cellAt K13.out (by rw [hpl5]; exact d12); rwa [hpl5] at this
          have HN13 := Lib.hid (InP.nextH HN12.out K13.out)
          have HO13 := Lib.hid (InP.nextO HO12.out K13.out)
          have KE13 := Lib.hid (InP.both (Nat.lt_of_lt_of_le HS2.out.ls.lt HS2.out.ls.upd.size) KE12.out K13.out)
          clear k
          go_wp2_with fail
          refine ⟨fun _ => d13, ?_⟩
          refine wpAnyS_one (i := 7) (L' := #[true, true, true, true, true, true, true, true, true, false, false, false, false, false, false]) (by kernel_rfl) rfl (by simp only [List.getElem?_toArray, List.getElem?_cons_succ, List.getElem?_cons_zero]; rfl) ?_
          go_wp2_with fail
          refine (in_c HN13.out.form HN13.out.nf).mono ?_
          rintro e w14 ⟨b14, B14, bad14, rfl, k⟩
          have K14 := Lib.hid k.p
          have d14 : w14.cell? ⟨jb, 6, none⟩ = some v10 := by have := HS2.out.cellAt K14.out (by rw [hpl5]; exact d13); rwa [hpl5] at this
          have HN14 := Lib.hid (InP.nextH HN13.out K14.out)
          have HO14 := Lib.hid (InP.nextO HO13.out K14.out)
          have KE14 := Lib.hid (InP.both (Nat.lt_of_lt_of_le HS2.out.ls.lt HS2.out.ls.upd.size) KE13.out K14.out)
          clear k
          go_wp2_with fail
          refine ⟨fun _ => d14, ?_⟩
          refine wpAnyS_one (i := 9) (L' := #[true, true, true, true, true, true, true, true, true, true, false, false, false, false, false]) (by kernel_rfl) rfl (by simp only [List.getElem?_toArray, List.getElem?_cons_succ, List.getElem?_cons_zero]; rfl) ?_
          go_wp2_with fail
          refine (in_c HN14.out.form HN14.out.nf).mono ?_
          rintro e w15 ⟨b15, B15, bad15, rfl, k⟩
          have K15 := Lib.hid k.p
          have d15 : w15.cell? ⟨jb, 6, none⟩ = some v10 := by have := HS2.out.cellAt K15.out (by rw [hpl5]; exact d14); rwa [hpl5] at this
          have KE15 := Lib.hid (InP.both (Nat.lt_of_lt_of_le HS2.out.ls.lt HS2.out.ls.upd.size) KE14.out K15.out)
          clear k
          go_wp2_with fail
          refine ⟨fun _ => d15, ?_⟩
          obtain ⟨vs, hvs⟩ : ∃ vs : List Value, Hid (vs = (((([] ++ [Value.int .i64 b12]) ++ [Value.int .i64 b13]) ++ [Value.int .i64 b14]) ++ [Value.int .i64 b15])) := ⟨_, Lib.hid rfl⟩
          have KF : Hid (InP schEval F wr w15 bx B11 bad11 B15 bad15 vs _) := Lib.hid (by rw [hvs.out]; exact KE15.out)
          have hlen : vs.length = 4 := Lay.len schEval KF.out.lay
          refine wpAnyS_one (i := 10) (L' := #[true, true, true, true, true, true, true, true, true, true, true, false, false, false, false]) (by kernel_rfl) rfl (by simp only [List.getElem?_toArray, List.getElem?_cons_succ, List.getElem?_cons_zero]; rfl) ?_
          refine wpList_build_vs rfl 167 _ rfl Tryz.shape167 [[Value.int .i64 b12], [Value.int .i64 b13], [Value.int .i64 b14], [Value.int .i64 b15]] ?_ vs ?_ ?_
          · simp only [List.map_toArray, List.map_cons, List.map_nil]
            exact ⟨by simp, rfl, by simp, ⟨by simp, rfl, by simp, ⟨by simp, rfl, by simp, ⟨by simp, rfl, by simp, trivial⟩⟩⟩⟩
          · rw [hvs.out]; simp
          go_wp2_with fail
          refine ⟨fun _ => d15, ?_⟩
          refine wpAnyS_act (by simp only [Act.put, List.setIfInBounds_toArray, List.set_cons_succ, List.set_cons_zero]; rfl) ?_
          refine wpAnyS_one (i := 11) (L' := #[true, true, true, true, true, true, true, true, true, true, true, true, false, false, false]) (by kernel_rfl) rfl (by simp only [List.getElem?_toArray, List.getElem?_cons_succ, List.getElem?_cons_zero]; rfl) ?_
          obtain ⟨i0, hi, hz0, hz1, hz2⟩ := info_parts Tryz.in167
          have HI := Lib.hid hi
          clear hi
          refine wpList_build_one rfl 66 167 (.tmp 52) rfl rfl (n := 4) (by omega) (by omega) hlen Tryz.underlying66 (by rw [HI.out]; simp [hz0, hz1]) ?_
          have hup : Upd (fun _ _ => False) w15 (w15.alloc (.cells vs.toArray 167)) := (Upd.refl _ w15).alloc _
          refine ⟨fun _ => (hup.cell jb 6 (World.block_lt_of_cell? w15 _ d15) (fun h => h)).trans d15, ?_⟩
          refine wpAnyS_act (by simp only [Act.put, List.setIfInBounds_toArray, List.set_cons_succ, List.set_cons_zero]; rfl) ?_
          refine wpAnyS_one (i := 12) (L' := #[true, true, true, true, true, true, true, true, true, true, true, true, true, false, false]) (by kernel_rfl) rfl (by simp only [List.getElem?_toArray, List.getElem?_cons_succ, List.getElem?_cons_zero]; rfl) ?_
          have HO := Lib.hid (HS2.out.ls.ownAt KF.out)
          have hs9 := KF.out.upd.size
          have hone := Lib.hid (Lay.one _ KF.out.lay)
          refine wpList_append_own_at _ rfl (.tmp 43) (.tmp 53) 66 rfl w9.heap.size 167 i0 _ 4 32 Tryz.underlying66 HI.out hz0 hz1 hz2 rfl (by decide) v10 xs.length cs rfl (HO.out.alloc _) ⟨w15.heap.size, 0, none⟩ 1 1 vs rfl (by rw [hlen]) ?_ hone.out ?_ ?_ ?_ ?_
          · intro i u hu
            rw [addr_add]
            exact At.new w15 vs.toArray 167 i u (by simpa using hu)
          · unfold maxLen; omega
          · omega
          · simp; omega
          intro v' wz hown' hgrow _hx hat
          obtain ⟨A', c', rfl⟩ := own_form hown'
          have HO2 := Lib.hid hown'
          have HG := Lib.hid hgrow
          have HT := Lib.hid hat
          obtain ⟨e0, e1⟩ := HS2.out.behind KF.out hgrow
          rw [hpl5] at e0 e1
          refine ⟨fun _ => e0, ?_⟩
          refine wpAnyS_act (by simp only [Act.put, List.setIfInBounds_toArray, List.set_cons_succ, List.set_cons_zero]; rfl) ?_
          have C1 : Hid (false = false → wz.cell? ⟨jb, 6, none⟩ = some v10) := Lib.hid (fun _ => e0)
          refine wpAnyS_take' (i := 13) (v := .pointer (some ⟨jb, 6, none⟩)) (L' := #[true, true, true, true, true, true, true, true, true, true, true, true, true, true, false]) (by simp only [List.getElem?_toArray, List.getElem?_cons_succ, List.getElem?_cons_zero]; rfl) rfl (by simp only [Act.put, List.setIfInBounds_toArray, List.set_cons_succ, List.set_cons_zero]; rfl) (by kernel_rfl) (by kernel_rfl) (by kernel_rfl) (by exact fun _ _ _ h => h) (fun L w' h hL => h (by rw [getD_set_ne false (by decide)]; exact hL)) (.inl ⟨rfl, fun _ _ _ _ _ => rfl⟩) (closedB (by kernel_rfl)) C1.out C1.out ?_
          refine wpAnyS_one (i := 14) (L' := #[true, true, true, true, true, true, true, true, true, true, true, true, true, true, true]) (by kernel_rfl) rfl (by simp only [List.getElem?_toArray, List.getElem?_cons_succ, List.getElem?_cons_zero]; rfl) ?_
          clear hown' hgrow hat C1
          go_wp2_with fail
          refine ⟨fun h => absurd h (by decide), wpAnyS_done (by kernel_rfl) ?_ _⟩
          refine hK _ _ ?_
          clear hK
          go_wp2_with fail
          go_roundw
          case rel =>
            have hst := HS2.out.step hjn KF.out (T := 167) (v' := .slice A' (j + 1) c') (by have := HO2.out; rw [hxl] at this ⊢; exact this) HG.out (by have := HT.out; rw [hxl] at this; simpa using this)
            rw [hpl5] at hst
            exact ⟨j + 1, B15, bad15, .slice A' (j + 1) c', cs ++ vs, _, by omega, by go_num, hst⟩
          case measure => simp [intOf]; omega
        · have Q11 := Lib.hid (InPX.both' hlt Q9.out (HS2.out.done (by omega)))
          have M11 := Lib.hid HS2.out.mkr
          have J11 := Lib.hid HS2.out.mkj
          have A11 := Lib.hid HS2.out.at_
          obtain ⟨pre6, hpre6⟩ : ∃ pre' : List Value, Hid (pre' = pre5 ++ [v10]) := ⟨_, Lib.hid rfl⟩
          have hpl6 : pre6.length = 7 := by rw [hpre6.out]; simp [hpl5]
          rw [← hpre6.out] at Q11 A11
          obtain ⟨w11, hwr⟩ : ∃ w', w' = wr := ⟨_, rfl⟩
          rw [← hwr] at Q11 M11 J11 A11 ⊢
          clear HS2 hcell hws hwr
          go_wp2_with fail
          refine (in_count M11.out.h).mono ?_
          rintro e w12 ⟨n, B12, bad12, rfl, hm⟩
          have hn64 := hm.le
          have HS : Hid (LpI X schDeploy 172 F w11 w12 bx B11 bad11 B12 bad12 n 0 (.slice none 0 0) [] [] w.heap.size jb 9 pre6 [Value.slice none 0 0]) :=
            Lib.hid (.start hm Q11.out.hi M11.out.h.lt G2.out.nx M11.out.h.nf (fun k hk e => by have := G2.out.old _ hk; have := G2.out.new _ e; omega) M11.out.old HX0.out HX1.out (by have := A11.out; simpa using this) M11.out.th J11.out.th (by rw [hpl6]; omega))
          clear hm
          go_wp2_with fail
          go_loopw [7] (fun i wr => ∃ (j : Nat) (B' : List UInt8) (bad' : Bool) (v : Value) (cs : List Value) (xs : List (Ty schDeploy)), j ≤ n ∧ i = .int .i64 j ∧ LpI X schDeploy 172 F w11 wr bx B11 bad11 B' bad' n j v cs xs w.heap.size jb 9 pre6 [Value.slice none 0 0]) (fun i _ => n - (intOf i).toNat)
          case atStart => exact ⟨0, B12, bad12, _, _, _, by omega, rfl, HS.out⟩
          case round =>
            obtain ⟨j, B13, bad13, v12, cs, xs, hj, rfl, hS⟩ := hrel
            have HS2 := Lib.hid hS
            have hxl : xs.length = j := hS.ls.len
            have hcell := hS.cell
            rw [hpl6] at hcell
            have hws := hS.ls.upd.size
            clear hS
            by_cases hjn : j < n
            · go_wp2_with fail
              rename_i hK
              refine wp_region_S (fun L w' => L.getD 14 false = false → w'.cell? ⟨jb, 7, none⟩ = some v12) (n := 15) (L := #[false, false, false, false, false, false, false, false, false, false, false, false, false, false, false]) (by kernel_rfl) rfl rfl ?_
              have C0 : Hid (false = false → wr.drew.cell? ⟨jb, 7, none⟩ = some v12) := Lib.hid (fun _ => hcell)
              refine wpAnyS_take' (i := 0) (v := .pointer (some ⟨jb, 7, none⟩)) (L' := #[true, false, false, false, false, false, false, false, false, false, false, false, false, false, false]) (by simp only [List.getElem?_toArray, List.getElem?_cons_succ, List.getElem?_cons_zero]; rfl) rfl (by simp only [Act.put, List.setIfInBounds_toArray, List.set_cons_succ, List.set_cons_zero]; rfl) (by kernel_rfl) (by kernel_rfl) (by kernel_rfl) (by exact fun _ _ _ h => h) (fun L w' h hL => h (by rw [getD_set_ne false (by decide)]; exact hL)) (.inl ⟨rfl, fun _ _ _ _ _ => rfl⟩) (closedB (by kernel_rfl)) C0.out C0.out ?_
              refine wpAnyS_take' (i := 2) (v := .pointer (some ⟨bx, 0, none⟩)) (L' := #[true, false, true, false, false, false, false, false, false, false, false, false, false, false, false]) (by simp only [List.getElem?_toArray, List.getElem?_cons_succ, List.getElem?_cons_zero]; rfl) rfl (by simp only [Act.put, List.setIfInBounds_toArray, List.set_cons_succ, List.set_cons_zero]; rfl) (by kernel_rfl) (by kernel_rfl) (by kernel_rfl) (by exact fun _ _ _ h => h) (fun L w' h hL => h (by rw [getD_set_ne false (by decide)]; exact hL)) (.inl ⟨rfl, fun _ _ _ _ _ => rfl⟩) (closedB (by kernel_rfl)) C0.out C0.out ?_
              refine wpAnyS_take' (i := 4) (v := .pointer (some ⟨bx, 0, none⟩)) (L' := #[true, false, true, false, true, false, false, false, false, false, false, false, false, false, false]) (by simp only [List.getElem?_toArray, List.getElem?_cons_succ, List.getElem?_cons_zero]; rfl) rfl (by simp only [Act.put, List.setIfInBounds_toArray, List.set_cons_succ, List.set_cons_zero]; rfl) (by kernel_rfl) (by kernel_rfl) (by kernel_rfl) (by exact fun _ _ _ h => h) (fun L w' h hL => h (by rw [getD_set_ne false (by decide)]; exact hL)) (.inl ⟨rfl, fun _ _ _ _ _ => rfl⟩) (closedB (by kernel_rfl)) C0.out C0.out ?_
              refine wpAnyS_take' (i := 6) (v := .pointer (some ⟨bx, 0, none⟩)) (L' := #[true, false, true, false, true, false, true, false, false, false, false, false, false, false, false]) (by simp only [List.getElem?_toArray, List.getElem?_cons_succ, List.getElem?_cons_zero]; rfl) rfl (by simp only [Act.put, List.setIfInBounds_toArray, List.set_cons_succ, List.set_cons_zero]; rfl) (by kernel_rfl) (by kernel_rfl) (by kernel_rfl) (by exact fun _ _ _ h => h) (fun L w' h hL => h (by rw [getD_set_ne false (by decide)]; exact hL)) (.inl ⟨rfl, fun _ _ _ _ _ => rfl⟩) (closedB (by kernel_rfl)) C0.out C0.out ?_
              refine wpAnyS_take' (i := 8) (v := .pointer (some ⟨bx, 0, none⟩)) (L' := #[true, false, true, false, true, false, true, false, true, false, false, false, false, false, false]) (by simp only [List.getElem?_toArray, List.getElem?_cons_succ, List.getElem?_cons_zero]; rfl) rfl (by simp only [Act.put, List.setIfInBounds_toArray, List.set_cons_succ, List.set_cons_zero]; rfl) (by kernel_rfl) (by kernel_rfl) (by kernel_rfl) (by exact fun _ _ _ h => h) (fun L w' h hL => h (by rw [getD_set_ne false (by decide)]; exact hL)) (.inl ⟨rfl, fun _ _ _ _ _ => rfl⟩) (closedB (by kernel_rfl)) C0.out C0.out ?_
              refine wpAnyS_take' (i := 1) (v := v12) (L' := #[true, true, true, false, true, false, true, false, true, false, false, false, false, false, false]) (by simp only [List.getElem?_toArray, List.getElem?_cons_succ, List.getElem?_cons_zero]; rfl) rfl (by simp only [Act.put, List.setIfInBounds_toArray, List.set_cons_succ, List.set_cons_zero]; rfl) (by kernel_rfl) (by kernel_rfl) (by kernel_rfl) (by exact fun _ _ _ h => h) (fun L w' h hL => h (by rw [getD_set_ne false (by decide)]; exact hL)) (.inl ⟨rfl, fun L w' hC hL hS => exec_load_one rfl rfl Tryz.underlying67 rfl (hS (hC.not (by kernel_rfl) hL))⟩) (closedB (by kernel_rfl)) C0.out C0.out ?_
              refine wpAnyS_one (i := 3) (L' := #[true, true, true, true, true, false, true, false, true, false, false, false, false, false, false]) (by kernel_rfl) rfl (by simp only [List.getElem?_toArray, List.getElem?_cons_succ, List.getElem?_cons_zero]; rfl) ?_
              go_wp2_with fail
              refine (in_c (InH.drew HS2.out.h).form (InH.drew HS2.out.h).nf).mono ?_
              rintro e w14 ⟨b14, B14, bad14, rfl, k⟩
              have K14 := Lib.hid (InP.ofDrew k.p)
              have d14 : w14.cell? ⟨jb, 7, none⟩ = some v12 := by have := HS2.out.cellAt K14.out (by rw [hpl6]; exact hcell); rwa [hpl6] at this
              have HN14 := Lib.hid (InP.nextH HS2.out.h K14.out)
              have HO14 := Lib.hid (InP.nextO HS2.out.old K14.out)
              have KE14 := Lib.hid (InP.both (Nat.lt_of_lt_of_le HS2.out.ls.lt HS2.out.ls.upd.size) (InP.unit (F := F) HS2.out.h.form) K14.out)
              clear k
              go_wp2_with fail
              refine ⟨fun _ => d14, ?_⟩
              refine wpAnyS_one (i := 5) (L' := #[true, true, true, true, true, true, true, false, true, false, false, false, false, false, false]) (by kernel_rfl) rfl (by simp only [List.getElem?_toArray, List.getElem?_cons_succ, List.getElem?_cons_zero]; rfl) ?_
              go_wp2_with fail
              refine (in_c HN14.out.form HN14.out.nf).mono ?_
              rintro e w15 ⟨b15, B15, bad15, rfl, k⟩
              have K15 := Lib.hid k.p
              have d15 : w15.cell? ⟨jb, 7, none⟩ = some v12 := by have := HS2.out.cellAt K15.out (by rw [hpl6]; exact d14); rwa [hpl6] at this
              have HN15 := Lib.hid (InP.nextH HN14.out K15.out)
              have HO15 := Lib.hid (InP.nextO HO14.out K15.out)
              have KE15 := Lib.hid (InP.both (Nat.lt_of_lt_of_le HS2.out.ls.lt HS2.out.ls.upd.size) KE14.out K15.out)
              clear k
              go_wp2_with fail
              refine ⟨fun _ => d15, ?_⟩
              refine wpAnyS_one (i := 7) (L' := #[true, true, true, true, true, true, true, true, true, false, false, false, false, false, false]) (by kernel_rfl) rfl (by simp only [List.getElem?_toArray, List.getElem?_cons_succ, List.getElem?_cons_zero]; rfl) ?_
              go_wp2_with fail
              refine (in_c HN15.out.form HN15.out.nf).mono ?_
              rintro e w16 ⟨b16, B16, bad16, rfl, k⟩
              have K16 := Lib.hid k.p
              have d16 : w16.cell? ⟨jb, 7, none⟩ = some v12 := by have := HS2.out.cellAt K16.out (by rw [hpl6]; exact d15); rwa [hpl6] at this
              have HN16 := Lib.hid (InP.nextH HN15.out K16.out)
              have HO16 := Lib.hid (InP.nextO HO15.out K16.out)
              have KE16 := Lib.hid (InP.both (Nat.lt_of_lt_of_le HS2.out.ls.lt HS2.out.ls.upd.size) KE15.out K16.out)
              clear k
              go_wp2_with fail
              refine ⟨fun _ => d16, ?_⟩
              refine wpAnyS_one (i := 9) (L' := #[true, true, true, true, true, true, true, true, true, true, false, false, false, false, false]) (by kernel_rfl) rfl (by simp only [List.getElem?_toArray, List.getElem?_cons_succ, List.getElem?_cons_zero]; rfl) ?_
              go_wp2_with fail
              refine (in_c HN16.out.form HN16.out.nf).mono ?_
              rintro e w17 ⟨b17, B17, bad17, rfl, k⟩
              have K17 := Lib.hid k.p
              have d17 : w17.cell? ⟨jb, 7, none⟩ = some v12 := by have := HS2.out.cellAt K17.out (by rw [hpl6]; exact d16); rwa [hpl6] at this
              have KE17 := Lib.hid (InP.both (Nat.lt_of_lt_of_le HS2.out.ls.lt HS2.out.ls.upd.size) KE16.out K17.out)
              clear k
              go_wp2_with fail
              refine ⟨fun _ => d17, ?_⟩
              obtain ⟨vs, hvs⟩ : ∃ vs : List Value, Hid (vs = (((([] ++ [Value.int .i64 b14]) ++ [Value.int .i64 b15]) ++ [Value.int .i64 b16]) ++ [Value.int .i64 b17])) := ⟨_, Lib.hid rfl⟩
              have KF : Hid (InP schDeploy F wr w17 bx B13 bad13 B17 bad17 vs _) := Lib.hid (by rw [hvs.out]; exact KE17.out)
              have hlen : vs.length = 4 := Lay.len schDeploy KF.out.lay
              refine wpAnyS_one (i := 10) (L' := #[true, true, true, true, true, true, true, true, true, true, true, false, false, false, false]) (by kernel_rfl) rfl (by simp only [List.getElem?_toArray, List.getElem?_cons_succ, List.getElem?_cons_zero]; rfl) ?_
              refine wpList_build_vs rfl 172 _ rfl Tryz.shape172 [[Value.int .i64 b14], [Value.int .i64 b15], [Value.int .i64 b16], [Value.int .i64 b17]] ?_ vs ?_ ?_
              · simp only [List.map_toArray, List.map_cons, List.map_nil]
                exact ⟨by simp, rfl, by simp, ⟨by simp, rfl, by simp, ⟨by simp, rfl, by simp, ⟨by simp, rfl, by simp, trivial⟩⟩⟩⟩
              · rw [hvs.out]; simp
              go_wp2_with fail
              refine ⟨fun _ => d17, ?_⟩
              refine wpAnyS_act (by simp only [Act.put, List.setIfInBounds_toArray, List.set_cons_succ, List.set_cons_zero]; rfl) ?_
              refine wpAnyS_one (i := 11) (L' := #[true, true, true, true, true, true, true, true, true, true, true, true, false, false, false]) (by kernel_rfl) rfl (by simp only [List.getElem?_toArray, List.getElem?_cons_succ, List.getElem?_cons_zero]; rfl) ?_
              obtain ⟨i0, hi, hz0, hz1, hz2⟩ := info_parts Tryz.in172
              have HI := Lib.hid hi
              clear hi
              refine wpList_build_one rfl 67 172 (.tmp 73) rfl rfl (n := 4) (by omega) (by omega) hlen Tryz.underlying67 (by rw [HI.out]; simp [hz0, hz1]) ?_
              have hup : Upd (fun _ _ => False) w17 (w17.alloc (.cells vs.toArray 172)) := (Upd.refl _ w17).alloc _
              refine ⟨fun _ => (hup.cell jb 7 (World.block_lt_of_cell? w17 _ d17) (fun h => h)).trans d17, ?_⟩
              refine wpAnyS_act (by simp only [Act.put, List.setIfInBounds_toArray, List.set_cons_succ, List.set_cons_zero]; rfl) ?_
              refine wpAnyS_one (i := 12) (L' := #[true, true, true, true, true, true, true, true, true, true, true, true, true, false, false]) (by kernel_rfl) rfl (by simp only [List.getElem?_toArray, List.getElem?_cons_succ, List.getElem?_cons_zero]; rfl) ?_
              have HO := Lib.hid (HS2.out.ls.ownAt KF.out)
              have hs9 := KF.out.upd.size
              have hone := Lib.hid (Lay.one _ KF.out.lay)
              refine wpList_append_own_at _ rfl (.tmp 64) (.tmp 74) 67 rfl w11.heap.size 172 i0 _ 4 32 Tryz.underlying67 HI.out hz0 hz1 hz2 rfl (by decide) v12 xs.length cs rfl (HO.out.alloc _) ⟨w17.heap.size, 0, none⟩ 1 1 vs rfl (by rw [hlen]) ?_ hone.out ?_ ?_ ?_ ?_
              · intro i u hu
                rw [addr_add]
                exact At.new w17 vs.toArray 172 i u (by simpa using hu)
              · unfold maxLen; omega
              · omega
              · simp; omega
              intro v' wz hown' hgrow _hx hat
              obtain ⟨A', c', rfl⟩ := own_form hown'
              have HO2 := Lib.hid hown'
              have HG := Lib.hid hgrow
              have HT := Lib.hid hat
              obtain ⟨e0, e1⟩ := HS2.out.behind KF.out hgrow
              rw [hpl6] at e0 e1
              refine ⟨fun _ => e0, ?_⟩
              refine wpAnyS_act (by simp only [Act.put, List.setIfInBounds_toArray, List.set_cons_succ, List.set_cons_zero]; rfl) ?_
              have C1 : Hid (false = false → wz.cell? ⟨jb, 7, none⟩ = some v12) := Lib.hid (fun _ => e0)
              refine wpAnyS_take' (i := 13) (v := .pointer (some ⟨jb, 7, none⟩)) (L' := #[true, true, true, true, true, true, true, true, true, true, true, true, true, true, false]) (by simp only [List.getElem?_toArray, List.getElem?_cons_succ, List.getElem?_cons_zero]; rfl) rfl (by simp only [Act.put, List.setIfInBounds_toArray, List.set_cons_succ, List.set_cons_zero]; rfl) (by kernel_rfl) (by kernel_rfl) (by kernel_rfl) (by exact fun _ _ _ h => h) (fun L w' h hL => h (by rw [getD_set_ne false (by decide)]; exact hL)) (.inl ⟨rfl, fun _ _ _ _ _ => rfl⟩) (closedB (by kernel_rfl)) C1.out C1.out ?_
              refine wpAnyS_one (i := 14) (L' := #[true, true, true, true, true, true, true, true, true, true, true, true, true, true, true]) (by kernel_rfl) rfl (by simp only [List.getElem?_toArray, List.getElem?_cons_succ, List.getElem?_cons_zero]; rfl) ?_
              clear hown' hgrow hat C1
              go_wp2_with fail
              refine ⟨fun h => absurd h (by decide), wpAnyS_done (by kernel_rfl) ?_ _⟩
              refine hK _ _ ?_
              clear hK
              go_wp2_with fail
              go_roundw
              case rel =>
                have hst := HS2.out.step hjn KF.out (T := 172) (v' := .slice A' (j + 1) c') (by have := HO2.out; rw [hxl] at this ⊢; exact this) HG.out (by have := HT.out; rw [hxl] at this; simpa using this)
                rw [hpl6] at hst
                exact ⟨j + 1, B17, bad17, .slice A' (j + 1) c', cs ++ vs, _, by omega, by go_num, hst⟩
              case measure => simp [intOf]; omega
            · have Q13 := Lib.hid (InPX.both' hlt Q11.out (HS2.out.done (by omega)))
              have M13 := Lib.hid HS2.out.mkr
              have J13 := Lib.hid HS2.out.mkj
              have A13 := Lib.hid HS2.out.at_
              obtain ⟨pre7, hpre7⟩ : ∃ pre' : List Value, Hid (pre' = pre6 ++ [v12]) := ⟨_, Lib.hid rfl⟩
              have hpl7 : pre7.length = 8 := by rw [hpre7.out]; simp [hpl6]
              rw [← hpre7.out] at Q13 A13
              obtain ⟨w13, hwr⟩ : ∃ w', w' = wr := ⟨_, rfl⟩
              rw [← hwr] at Q13 M13 J13 A13 ⊢
              clear HS2 hcell hws hwr
              go_wp2_with fail
              refine (in_count M13.out.h).mono ?_
              rintro e w14 ⟨n, B14, bad14, rfl, hm⟩
              have hn64 := hm.le
              have HS : Hid (LpI X schSeen 177 F w13 w14 bx B13 bad13 B14 bad14 n 0 (.slice none 0 0) [] [] w.heap.size jb 9 pre7 []) :=
                Lib.hid (.start hm Q13.out.hi M13.out.h.lt G2.out.nx M13.out.h.nf (fun k hk e => by have := G2.out.old _ hk; have := G2.out.new _ e; omega) M13.out.old HX0.out HX1.out (by have := A13.out; simpa using this) M13.out.th J13.out.th (by rw [hpl7]; omega))
              clear hm
              go_wp2_with fail
              go_loopw [8] (fun i wr => ∃ (j : Nat) (B' : List UInt8) (bad' : Bool) (v : Value) (cs : List Value) (xs : List (Ty schSeen)), j ≤ n ∧ i = .int .i64 j ∧ LpI X schSeen 177 F w13 wr bx B13 bad13 B' bad' n j v cs xs w.heap.size jb 9 pre7 []) (fun i _ => n - (intOf i).toNat)
              case atStart => exact ⟨0, B14, bad14, _, _, _, by omega, rfl, HS.out⟩
              case round =>
                obtain ⟨j, B15, bad15, v14, cs, xs, hj, rfl, hS⟩ := hrel
                have HS2 := Lib.hid hS
                have hxl : xs.length = j := hS.ls.len
                have hcell := hS.cell
                rw [hpl7] at hcell
                have hws := hS.ls.upd.size
                clear hS
                by_cases hjn : j < n
                · go_wp2_with fail
                  rename_i hK
                  refine wp_region_S (fun L w' => L.getD 12 false = false → w'.cell? ⟨jb, 8, none⟩ = some v14) (n := 13) (L := #[false, false, false, false, false, false, false, false, false, false, false, false, false]) (by kernel_rfl) rfl rfl ?_
                  have C0 : Hid (false = false → wr.drew.cell? ⟨jb, 8, none⟩ = some v14) := Lib.hid (fun _ => hcell)
                  refine wpAnyS_take' (i := 0) (v := .pointer (some ⟨jb, 8, none⟩)) (L' := #[true, false, false, false, false, false, false, false, false, false, false, false, false]) (by simp only [List.getElem?_toArray, List.getElem?_cons_succ, List.getElem?_cons_zero]; rfl) rfl (by simp only [Act.put, List.setIfInBounds_toArray, List.set_cons_succ, List.set_cons_zero]; rfl) (by kernel_rfl) (by kernel_rfl) (by kernel_rfl) (by exact fun _ _ _ h => h) (fun L w' h hL => h (by rw [getD_set_ne false (by decide)]; exact hL)) (.inl ⟨rfl, fun _ _ _ _ _ => rfl⟩) (closedB (by kernel_rfl)) C0.out C0.out ?_
                  refine wpAnyS_take' (i := 2) (v := .pointer (some ⟨bx, 0, none⟩)) (L' := #[true, false, true, false, false, false, false, false, false, false, false, false, false]) (by simp only [List.getElem?_toArray, List.getElem?_cons_succ, List.getElem?_cons_zero]; rfl) rfl (by simp only [Act.put, List.setIfInBounds_toArray, List.set_cons_succ, List.set_cons_zero]; rfl) (by kernel_rfl) (by kernel_rfl) (by kernel_rfl) (by exact fun _ _ _ h => h) (fun L w' h hL => h (by rw [getD_set_ne false (by decide)]; exact hL)) (.inl ⟨rfl, fun _ _ _ _ _ => rfl⟩) (closedB (by kernel_rfl)) C0.out C0.out ?_
                  refine wpAnyS_take' (i := 4) (v := .pointer (some ⟨bx, 0, none⟩)) (L' := #[true, false, true, false, true, false, false, false, false, false, false, false, false]) (by simp only [List.getElem?_toArray, List.getElem?_cons_succ, List.getElem?_cons_zero]; rfl) rfl (by simp only [Act.put, List.setIfInBounds_toArray, List.set_cons_succ, List.set_cons_zero]; rfl) (by kernel_rfl) (by kernel_rfl) (by kernel_rfl) (by exact fun _ _ _ h => h) (fun L w' h hL => h (by rw [getD_set_ne false (by decide)]; exact hL)) (.inl ⟨rfl, fun _ _ _ _ _ => rfl⟩) (closedB (by kernel_rfl)) C0.out C0.out ?_
                  refine wpAnyS_take' (i := 6) (v := .pointer (some ⟨bx, 0, none⟩)) (L' := #[true, false, true, false, true, false, true, false, false, false, false, false, false]) (by simp only [List.getElem?_toArray, List.getElem?_cons_succ, List.getElem?_cons_zero]; rfl) rfl (by simp only [Act.put, List.setIfInBounds_toArray, List.set_cons_succ, List.set_cons_zero]; rfl) (by kernel_rfl) (by kernel_rfl) (by kernel_rfl) (by exact fun _ _ _ h => h) (fun L w' h hL => h (by rw [getD_set_ne false (by decide)]; exact hL)) (.inl ⟨rfl, fun _ _ _ _ _ => rfl⟩) (closedB (by kernel_rfl)) C0.out C0.out ?_
                  refine wpAnyS_take' (i := 1) (v := v14) (L' := #[true, true, true, false, true, false, true, false, false, false, false, false, false]) (by simp only [List.getElem?_toArray, List.getElem?_cons_succ, List.getElem?_cons_zero]; rfl) rfl (by simp only [Act.put, List.setIfInBounds_toArray, List.set_cons_succ, List.set_cons_zero]; rfl) (by kernel_rfl) (by kernel_rfl) (by kernel_rfl) (by exact fun _ _ _ h => h) (fun L w' h hL => h (by rw [getD_set_ne false (by decide)]; exact hL)) (.inl ⟨rfl, fun L w' hC hL hS => exec_load_one rfl rfl Tryz.underlying68 rfl (hS (hC.not (by kernel_rfl) hL))⟩) (closedB (by kernel_rfl)) C0.out C0.out ?_
                  refine wpAnyS_one (i := 3) (L' := #[true, true, true, true, true, false, true, false, false, false, false, false, false]) (by kernel_rfl) rfl (by simp only [List.getElem?_toArray, List.getElem?_cons_succ, List.getElem?_cons_zero]; rfl) ?_
                  go_wp2_with fail
                  refine (in_c (InH.drew HS2.out.h).form (InH.drew HS2.out.h).nf).mono ?_
                  rintro e w16 ⟨b16, B16, bad16, rfl, k⟩
                  have K16 := Lib.hid (InP.ofDrew k.p)
                  have d16 : w16.cell? ⟨jb, 8, none⟩ = some v14 := by have := HS2.out.cellAt K16.out (by rw [hpl7]; exact hcell); rwa [hpl7] at this
                  have HN16 := Lib.hid (InP.nextH HS2.out.h K16.out)
                  have HO16 := Lib.hid (InP.nextO HS2.out.old K16.out)
                  have KE16 := Lib.hid (InP.both (Nat.lt_of_lt_of_le HS2.out.ls.lt HS2.out.ls.upd.size) (InP.unit (F := F) HS2.out.h.form) K16.out)
                  clear k
                  go_wp2_with fail
                  refine ⟨fun _ => d16, ?_⟩
                  refine wpAnyS_one (i := 5) (L' := #[true, true, true, true, true, true, true, false, false, false, false, false, false]) (by kernel_rfl) rfl (by simp only [List.getElem?_toArray, List.getElem?_cons_succ, List.getElem?_cons_zero]; rfl) ?_
                  go_wp2_with fail
                  refine (in_c HN16.out.form HN16.out.nf).mono ?_
                  rintro e w17 ⟨b17, B17, bad17, rfl, k⟩
                  have K17 := Lib.hid k.p
                  have d17 : w17.cell? ⟨jb, 8, none⟩ = some v14 := by have := HS2.out.cellAt K17.out (by rw [hpl7]; exact d16); rwa [hpl7] at this
                  have HN17 := Lib.hid (InP.nextH HN16.out K17.out)
                  have HO17 := Lib.hid (InP.nextO HO16.out K17.out)
                  have KE17 := Lib.hid (InP.both (Nat.lt_of_lt_of_le HS2.out.ls.lt HS2.out.ls.upd.size) KE16.out K17.out)
                  clear k
                  go_wp2_with fail
                  refine ⟨fun _ => d17, ?_⟩
                  refine wpAnyS_one (i := 7) (L' := #[true, true, true, true, true, true, true, true, false, false, false, false, false]) (by kernel_rfl) rfl (by simp only [List.getElem?_toArray, List.getElem?_cons_succ, List.getElem?_cons_zero]; rfl) ?_
                  go_wp2_with fail
                  refine (in_result F _ bx _ _ HN17.out HO17.out).mono ?_
                  rintro e w18 ⟨u18s, y18, B18, bad18, rfl, k⟩
                  have K18 := Lib.hid k
                  have hu18 : u18s.length = 3 := Lay.len _ K18.out.lay
                  have d18 : w18.cell? ⟨jb, 8, none⟩ = some v14 := by have := HS2.out.cellAt K18.out (by rw [hpl7]; exact d17); rwa [hpl7] at this
                  have KE18 := Lib.hid (InP.both (Nat.lt_of_lt_of_le HS2.out.ls.lt HS2.out.ls.upd.size) KE17.out K18.out)
                  clear k
                  go_wp2_with fail
                  refine ⟨fun _ => d18, ?_⟩
                  obtain ⟨vs, hvs⟩ : ∃ vs : List Value, Hid (vs = ((([] ++ [Value.int .i64 b16]) ++ [Value.int .i64 b17]) ++ u18s)) := ⟨_, Lib.hid rfl⟩
                  have KF : Hid (InP schSeen F wr w18 bx B15 bad15 B18 bad18 vs _) := Lib.hid (by rw [hvs.out]; exact KE18.out)
                  have hlen : vs.length = 5 := Lay.len schSeen KF.out.lay
                  refine wpAnyS_one (i := 8) (L' := #[true, true, true, true, true, true, true, true, true, false, false, false, false]) (by kernel_rfl) rfl (by simp only [List.getElem?_toArray, List.getElem?_cons_succ, List.getElem?_cons_zero]; rfl) ?_
                  refine wpList_build_vs rfl 177 _ rfl Tryz.shape177 [[Value.int .i64 b16], [Value.int .i64 b17], u18s] ?_ vs ?_ ?_
                  · simp only [List.map_toArray, List.map_cons, List.map_nil]
                    exact ⟨by simp [hu18], rfl, by simp [hu18], ⟨by simp [hu18], rfl, by simp [hu18], ⟨by simp [hu18], rfl, by simp [hu18], trivial⟩⟩⟩
                  · rw [hvs.out]; simp [hu18]
                  go_wp2_with fail
                  refine ⟨fun _ => d18, ?_⟩
                  refine wpAnyS_act (by simp only [Act.put, List.setIfInBounds_toArray, List.set_cons_succ, List.set_cons_zero]; rfl) ?_
                  refine wpAnyS_one (i := 9) (L' := #[true, true, true, true, true, true, true, true, true, true, false, false, false]) (by kernel_rfl) rfl (by simp only [List.getElem?_toArray, List.getElem?_cons_succ, List.getElem?_cons_zero]; rfl) ?_
                  obtain ⟨i0, hi, hz0, hz1, hz2⟩ := info_parts Tryz.in177
                  have HI := Lib.hid hi
                  clear hi
                  refine wpList_build_one rfl 68 177 (.tmp 92) rfl rfl (n := 5) (by omega) (by omega) hlen Tryz.underlying68 (by rw [HI.out]; simp [hz0, hz1]) ?_
                  have hup : Upd (fun _ _ => False) w18 (w18.alloc (.cells vs.toArray 177)) := (Upd.refl _ w18).alloc _
                  refine ⟨fun _ => (hup.cell jb 8 (World.block_lt_of_cell? w18 _ d18) (fun h => h)).trans d18, ?_⟩
                  refine wpAnyS_act (by simp only [Act.put, List.setIfInBounds_toArray, List.set_cons_succ, List.set_cons_zero]; rfl) ?_
                  refine wpAnyS_one (i := 10) (L' := #[true, true, true, true, true, true, true, true, true, true, true, false, false]) (by kernel_rfl) rfl (by simp only [List.getElem?_toArray, List.getElem?_cons_succ, List.getElem?_cons_zero]; rfl) ?_
                  have HO := Lib.hid (HS2.out.ls.ownAt KF.out)
                  have hs9 := KF.out.upd.size
                  have hone := Lib.hid (Lay.one _ KF.out.lay)
                  refine wpList_append_own_at _ rfl (.tmp 85) (.tmp 93) 68 rfl w13.heap.size 177 i0 _ 5 56 Tryz.underlying68 HI.out hz0 hz1 hz2 rfl (by decide) v14 xs.length cs rfl (HO.out.alloc _) ⟨w18.heap.size, 0, none⟩ 1 1 vs rfl (by rw [hlen]) ?_ hone.out ?_ ?_ ?_ ?_
                  · intro i u hu
                    rw [addr_add]
                    exact At.new w18 vs.toArray 177 i u (by simpa using hu)
                  · unfold maxLen; omega
                  · omega
                  · simp; omega
                  intro v' wz hown' hgrow _hx hat
                  obtain ⟨A', c', rfl⟩ := own_form hown'
                  have HO2 := Lib.hid hown'
                  have HG := Lib.hid hgrow
                  have HT := Lib.hid hat
                  obtain ⟨e0, e1⟩ := HS2.out.behind KF.out hgrow
                  rw [hpl7] at e0 e1
                  refine ⟨fun _ => e0, ?_⟩
                  refine wpAnyS_act (by simp only [Act.put, List.setIfInBounds_toArray, List.set_cons_succ, List.set_cons_zero]; rfl) ?_
                  have C1 : Hid (false = false → wz.cell? ⟨jb, 8, none⟩ = some v14) := Lib.hid (fun _ => e0)
                  refine wpAnyS_take' (i := 11) (v := .pointer (some ⟨jb, 8, none⟩)) (L' := #[true, true, true, true, true, true, true, true, true, true, true, true, false]) (by simp only [List.getElem?_toArray, List.getElem?_cons_succ, List.getElem?_cons_zero]; rfl) rfl (by simp only [Act.put, List.setIfInBounds_toArray, List.set_cons_succ, List.set_cons_zero]; rfl) (by kernel_rfl) (by kernel_rfl) (by kernel_rfl) (by exact fun _ _ _ h => h) (fun L w' h hL => h (by rw [getD_set_ne false (by decide)]; exact hL)) (.inl ⟨rfl, fun _ _ _ _ _ => rfl⟩) (closedB (by kernel_rfl)) C1.out C1.out ?_
                  refine wpAnyS_one (i := 12) (L' := #[true, true, true, true, true, true, true, true, true, true, true, true, true]) (by kernel_rfl) rfl (by simp only [List.getElem?_toArray, List.getElem?_cons_succ, List.getElem?_cons_zero]; rfl) ?_
                  clear hown' hgrow hat C1
                  go_wp2_with fail
                  refine ⟨fun h => absurd h (by decide), wpAnyS_done (by kernel_rfl) ?_ _⟩
                  refine hK _ _ ?_
                  clear hK
                  go_wp2_with fail
                  go_roundw
                  case rel =>
                    have hst := HS2.out.step hjn KF.out (T := 177) (v' := .slice A' (j + 1) c') (by have := HO2.out; rw [hxl] at this ⊢; exact this) HG.out (by have := HT.out; rw [hxl] at this; simpa using this)
                    rw [hpl7] at hst
                    exact ⟨j + 1, B18, bad18, .slice A' (j + 1) c', cs ++ vs, _, by omega, by go_num, hst⟩
                  case measure => simp [intOf]; omega
                · have Q15 := Lib.hid (InPX.both' hlt Q13.out (HS2.out.done (by omega)))
                  have M15 := Lib.hid HS2.out.mkr
                  have J15 := Lib.hid HS2.out.mkj
                  have A15 := Lib.hid HS2.out.at_
                  obtain ⟨pre8, hpre8⟩ : ∃ pre' : List Value, Hid (pre' = pre7 ++ [v14]) := ⟨_, Lib.hid rfl⟩
                  have hpl8 : pre8.length = 9 := by rw [hpre8.out]; simp [hpl7]
                  rw [← hpre8.out] at Q15 A15
                  obtain ⟨w15, hwr⟩ : ∃ w', w' = wr := ⟨_, rfl⟩
                  rw [← hwr] at Q15 M15 J15 A15 ⊢
                  clear HS2 hcell hws hwr
                  have QZ : Hid (InPX X schStore F w w15 bx B bad B15 bad15 pre8 _) := Lib.hid Q15.out
                  have AZ : Hid (At w15 jb 0 pre8) := Lib.hid (by have := A15.out; simpa using this)
                  have TZ : Hid (w15.there w.heap.size 0 pre8.toArray.size) := Lib.hid (by
                    show World.there _ _ _ pre8.length
                    rw [hpl8]
                    exact M15.out.th)
                  have SZ : Hid ((Tryz.prog.info? 70).map (·.size) = some pre8.toArray.size) := Lib.hid (by show _ = some pre8.length; rw [hpl8]; exact Tryz.sz70)
                  have OZ := Lib.hid (all_oneCell_toArray (Lay.one schStore QZ.out.lay))
                  go_wp2_with (first
                    | (refine wpList_load_mid rfl 70 _ rfl jb 0 rfl pre8 _ AZ.out Tryz.underlying70 rfl SZ.out ?_)
                    | (refine wpList_store_mid rfl 70 _ _ rfl w.heap.size 0 pre8.toArray rfl rfl TZ.out SZ.out OZ.out ?_))
                  refine ret_row1 rfl rfl Tryz.underlying70 rfl SZ.out (At.setCells TZ.out) rfl ?_
                  exact ⟨pre8, _, B15, bad15, rfl, (QZ.out.sets G2.out HX0.out).done G2.out⟩
end Go.Proofs
