/- A part of the codec's readers. -/
import Derived.Test.YthclnpigplcckaaGreatProg
import Derived.Test.YthclnpigplcckaaGreatLib
import Derived.Test.YthclnpigplcckaaGreatRa
import Derived.WalkSpells
import Derived.WalkLawsBesides
import Derived.Deep.LoopGhost
import Derived.Lib.Hide
import Derived.Deep.RegionWith
import Derived.Maps.AppendAt
import Derived.KernelRfl
import Derived.Test.YthclnpigplcckaaGreatLibs
set_option linter.unusedSimpArgs false
set_option linter.unusedVariables false

set_option linter.unusedSimpArgs false
namespace Go.Proofs
open Go Go.RowKit Cod

theorem wpList_build_cell {P : Program} {ops : Array Oper} {rest : List Oper} {o : Oper} {a : Act} {w : World} {Q : Exit → Act → World → Prop} (hg : o.guard = none) (t e : TypeId) (x : Operand) (ho : o.op = .buildSlice t 1 #[(0, x)])
    {v : Value} (hx : a.eval x = v) (hv : v.cells = #[v]) (hu : P.underlying t = some (.slice e)) (hi : (P.info? e).map (fun i => (i.zero.isSome, i.size)) = some (true, 1))
    (h : wpList P ops Q rest (a.put o.dst (.slice (some ⟨w.heap.size, 0, none⟩) 1 1)) (w.alloc (.cells #[v] e))) : wpList P ops Q (o :: rest) a w := by
  obtain ⟨i, hie, h2⟩ := Option.map_eq_some_iff.1 hi
  simp only [Prod.mk.injEq, Option.isSome_iff_exists] at h2
  obtain ⟨⟨z, hz⟩, hs⟩ := h2
  refine wpList_buildSlice hg t e 1 #[(0, x)] ho #[v] i z hu hie hz (by omega) (by omega) ?_ h
  simp only [List.map_toArray, List.map_cons, List.map_nil, hx, hs]
  simp [Instr.fill, hv, List.foldl_toArray]
  have key : ∀ A : Array Value, A.size = 1 → A.setIfInBounds 0 v = #[v] := by
    intro A hA
    rcases A with ⟨l⟩
    match l, hA with
    | [x], _ => rfl
  exact key _ (by simp)

theorem Tryz.in3 : (Tryz.prog.info? 3).map (fun i => (i.zero, i.size, i.bytes)) = some (some (.int .i64 0), 1, 8) := by kernel_rfl

set_option maxRecDepth 100000 in
set_option maxHeartbeats 1000000 in
theorem list95_rd {F : Nat → Prop} {w : World} {bf b o : Nat} {B : List UInt8} {bad : Bool} (h : RdH (.list .num) F w bf b o B bad) :
    Calls Tryz.prog 95 #[.pointer (some ⟨bf, 0, none⟩), .pointer (some ⟨b, o, none⟩), .func (.func 90) #[.pointer (some ⟨bf, 0, none⟩)] #[]] w (RdEnd (.list .num) F w bf b o B bad) := by
  have H := Lib.hid h
  have cb : w.cell? ⟨b, o, none⟩ = some (.slice none 0 0) := h.at_ 0 _ rfl
  have hlt := h.lt
  have hlf := h.lf
  have hne := h.ne
  clear h
  go_enter Tryz.func95, Tryz.ntmps95
  go_wp2_with fail
  refine (many_rd 64 H.out (by omega)).mono ?_
  rintro e w1 ⟨n, B1, bad1, rfl, hm⟩
  have hn64 := hm.le
  obtain ⟨A1, n1, c1, d0, d1, d2, g0, g1, g2, hn, hbt⟩ := hm.form.cells
  have HS : Hid (LsR .num 3 F w w1 bf b o B bad B1 bad1 n 0 (.slice none 0 0) [] []) := .start H.out hm
  clear hm hbt d0 g0 g1 g2 hn d2
  go_wp2_with fail
  go_loopw [42] (fun i wr => ∃ (j : Nat) (B' : List UInt8) (bad' : Bool) (v : Value) (cs : List Value) (xs : List (Ty .num)), j ≤ n ∧ i = .int .i64 j ∧ LsR .num 3 F w wr bf b o B bad B' bad' n j v cs xs) (fun i _ => n - (intOf i).toNat)
  case atStart => exact ⟨0, B1, bad1, _, _, _, by omega, rfl, HS.out⟩
  case round =>
    obtain ⟨j, B2, bad2, v, cs, xs, hj, rfl, hS⟩ := hrel
    have HS2 := Lib.hid hS
    obtain ⟨A2, n2, c2, k0, k1, k2, m0, m1, m2, hn2, hbt2⟩ := hS.form.cells
    have hcell := hS.cell
    have hsz := hS.upd.size
    clear hS hbt2 k0 k1 m0 m1 m2 hn2
    by_cases hjn : j < n
    · cases bad2 with
      | true =>
        go_wp2_with fail
        refine bodyPost_ret (results_none rfl _ _ _) rfl ?_
        exact ⟨rfl, B2, true, HS2.out.done (.inr rfl)⟩
      | false =>
        go_wp2_with fail
        refine (num_rd F _ bf wr.heap.size 0 B2 false (HS2.out.item H.out _ _ rfl)).mono ?_
        rintro e w2 ⟨rfl, B3, bad3, hk⟩
        have HK := Lib.hid hk
        obtain ⟨vs, x, hA, hL, hp⟩ := hk.cells
        obtain ⟨hown, q0, q1, q2, q3⟩ := HS2.out.ownAt H.out hk
        have hlen : vs.length = 1 := Lay.len _ hL
        have hvx : vs = [.int .i64 x] := by simpa only [Lay] using hL
        have hxc : ∀ w', At w' wr.heap.size 0 vs → w'.cell? ⟨wr.heap.size, 0, none⟩ = some (.int .i64 x) := fun w' h => by subst hvx; exact h.head
        have hvs : (#[.int .i64 x] : Array Value) = vs.toArray := by rw [hvx]
        have hone := Lib.hid (Lay.one _ hL)
        have HL := Lib.hid hL
        have HP := Lib.hid hp
        have HA := Lib.hid hA
        have hxl : xs.length = j := HS2.out.len
        obtain ⟨i0, hi, hz0, hz1, hz2⟩ := info_parts Tryz.in3
        have HI := Lib.hid hi
        clear hk hL hp hA hi
        go_wp2_with fail
        rename_i hK
        refine wp_region_S (fun L w' => (L.getD 8 false = false → w'.cell? ⟨b, o, none⟩ = some v) ∧ (L.getD 5 false = false → At w' wr.heap.size 0 vs)) (n := 9) (L := #[false, false, false, false, false, false, false, false, false]) (by kernel_rfl) rfl rfl ?_
        have S0 : (false = false → w2.drew.cell? ⟨b, o, none⟩ = some v) ∧ (false = false → At w2.drew wr.heap.size 0 vs) := ⟨fun _ => q0, fun _ => HA.out⟩
        have C0 := Lib.hid S0
        clear S0
        refine wpAnyS_take' (i := 0) (v := .pointer (some ⟨b, o, none⟩)) (L' := #[true, false, false, false, false, false, false, false, false]) (by simp only [List.getElem?_toArray, List.getElem?_cons_succ, List.getElem?_cons_zero]; rfl) rfl (by simp only [Act.put, List.setIfInBounds_toArray, List.set_cons_succ, List.set_cons_zero]; rfl) (by kernel_rfl) (by kernel_rfl) (by kernel_rfl) (by exact fun _ _ _ h => h) (fun L w' h => ⟨fun hL => h.1 (by rw [getD_set_ne false (by decide)]; exact hL), fun hL => h.2 (by rw [getD_set_ne false (by decide)]; exact hL)⟩) (.inl ⟨rfl, fun _ _ _ _ _ => rfl⟩) (closedB (by kernel_rfl)) C0.out C0.out ?_
        refine wpAnyS_take' (i := 1) (v := .pointer (some ⟨b, o, none⟩)) (L' := #[true, true, false, false, false, false, false, false, false]) (by simp only [List.getElem?_toArray, List.getElem?_cons_succ, List.getElem?_cons_zero]; rfl) rfl (by simp only [Act.put, List.setIfInBounds_toArray, List.set_cons_succ, List.set_cons_zero]; rfl) (by kernel_rfl) (by kernel_rfl) (by kernel_rfl) (by exact fun _ _ _ h => h) (fun L w' h => ⟨fun hL => h.1 (by rw [getD_set_ne false (by decide)]; exact hL), fun hL => h.2 (by rw [getD_set_ne false (by decide)]; exact hL)⟩) (.inl ⟨rfl, fun _ _ _ _ _ => rfl⟩) (closedB (by kernel_rfl)) C0.out C0.out ?_
        refine wpAnyS_take' (i := 2) (v := .pointer (some ⟨b, o, none⟩)) (L' := #[true, true, true, false, false, false, false, false, false]) (by simp only [List.getElem?_toArray, List.getElem?_cons_succ, List.getElem?_cons_zero]; rfl) rfl (by simp only [Act.put, List.setIfInBounds_toArray, List.set_cons_succ, List.set_cons_zero]; rfl) (by kernel_rfl) (by kernel_rfl) (by kernel_rfl) (by exact fun _ _ _ h => h) (fun L w' h => ⟨fun hL => h.1 (by rw [getD_set_ne false (by decide)]; exact hL), fun hL => h.2 (by rw [getD_set_ne false (by decide)]; exact hL)⟩) (.inl ⟨rfl, fun _ _ _ _ _ => rfl⟩) (closedB (by kernel_rfl)) C0.out C0.out ?_
        refine wpAnyS_take' (i := 3) (v := v) (L' := #[true, true, true, true, false, false, false, false, false]) (by simp only [List.getElem?_toArray, List.getElem?_cons_succ, List.getElem?_cons_zero]; rfl) rfl (by simp only [Act.put, List.setIfInBounds_toArray, List.set_cons_succ, List.set_cons_zero]; rfl) (by kernel_rfl) (by kernel_rfl) (by kernel_rfl) (by exact fun _ _ _ h => h) (fun L w' h => ⟨fun hL => h.1 (by rw [getD_set_ne false (by decide)]; exact hL), fun hL => h.2 (by rw [getD_set_ne false (by decide)]; exact hL)⟩) (.inl ⟨rfl, fun L w' hC hL hS => exec_load_one rfl rfl Tryz.underlying31 rfl (hS.1 (hC.not (by kernel_rfl) hL))⟩) (closedB (by kernel_rfl)) C0.out C0.out ?_
        refine wpAnyS_take' (i := 4) (v := .int .i64 x) (L' := #[true, true, true, true, true, false, false, false, false]) (by simp only [List.getElem?_toArray, List.getElem?_cons_succ, List.getElem?_cons_zero]; rfl) rfl (by simp only [Act.put, List.setIfInBounds_toArray, List.set_cons_succ, List.set_cons_zero]; rfl) (by kernel_rfl) (by kernel_rfl) (by kernel_rfl) (by exact fun _ _ _ h => h) (fun L w' h => ⟨fun hL => h.1 (by rw [getD_set_ne false (by decide)]; exact hL), fun hL => h.2 (by rw [getD_set_ne false (by decide)]; exact hL)⟩) (.inl ⟨rfl, fun L w' hC hL hS => exec_load_one rfl rfl Tryz.underlying3 rfl (hxc _ (hS.2 (hC.not (by kernel_rfl) hL)))⟩) (closedB (by kernel_rfl)) C0.out C0.out ?_
        refine wpAnyS_one (i := 5) (L' := #[true, true, true, true, true, true, false, false, false]) (by kernel_rfl) rfl (by simp only [List.getElem?_toArray, List.getElem?_cons_succ, List.getElem?_cons_zero]; rfl) ?_
        refine wpList_build_cell rfl 31 3 (.tmp 54) rfl (v := .int .i64 x) rfl rfl Tryz.underlying31 (by rw [HI.out]; simp [hz0, hz1]) ?_
        rw [hvs]
        have hup : Upd (fun _ _ => False) w2 (w2.drew.alloc (.cells vs.toArray 3)) := ((Upd.refl _ w2).drew).alloc _
        refine ⟨⟨fun _ => (hup.cell b o (by omega) (fun h => h)).trans q0, fun _ => hup.at HA.out (fun _ _ h => h)⟩, ?_⟩
        refine wpAnyS_act (by simp only [Act.put, List.setIfInBounds_toArray, List.set_cons_succ, List.set_cons_zero]; rfl) ?_
        refine wpAnyS_one (i := 6) (L' := #[true, true, true, true, true, true, true, false, false]) (by kernel_rfl) rfl (by simp only [List.getElem?_toArray, List.getElem?_cons_succ, List.getElem?_cons_zero]; rfl) ?_
        have hown2 : (w2.drew.alloc (.cells vs.toArray 3)).ownsRow w.heap.size 3 1 v xs.length cs := World.ownsRow.alloc (w := w2.drew) hown _
        refine wpList_append_own_at _ rfl (.tmp 53) (.tmp 55) 31 rfl w.heap.size 3 i0 _ 1 8 Tryz.underlying31 HI.out hz0 hz1 hz2 rfl (by decide) v xs.length cs rfl hown2 ⟨w2.heap.size, 0, none⟩ 1 1 vs rfl (by rw [hlen]) ?_ hone.out ?_ ?_ ?_ ?_
        · intro i u hu
          rw [addr_add]
          exact At.new w2.drew vs.toArray 3 i u (by simpa using hu)
        · unfold maxLen; omega
        · omega
        · simp; omega
        · intro v' w3 hown' hgrow _hx hat
          obtain ⟨A', c', rfl⟩ := own_form hown'
          have HO := Lib.hid hown'
          have HG := Lib.hid hgrow
          have HT := Lib.hid hat
          have hst := append_other (w1 := w2.drew) hown hgrow hlt q0 q1
          refine ⟨⟨fun _ => hst.1, fun h => absurd h (by decide)⟩, ?_⟩
          refine wpAnyS_act (by simp only [Act.put, List.setIfInBounds_toArray, List.set_cons_succ, List.set_cons_zero]; rfl) ?_
          refine wpAnyS_take' (i := 7) (v := .pointer (some ⟨b, o, none⟩)) (L' := #[true, true, true, true, true, true, true, true, false]) (by simp only [List.getElem?_toArray, List.getElem?_cons_succ, List.getElem?_cons_zero]; rfl) rfl (by simp only [Act.put, List.setIfInBounds_toArray, List.set_cons_succ, List.set_cons_zero]; rfl) (by kernel_rfl) (by kernel_rfl) (by kernel_rfl) (by exact fun _ _ _ h => h) (fun L w' h => ⟨fun hL => h.1 (by rw [getD_set_ne false (by decide)]; exact hL), fun hL => h.2 (by rw [getD_set_ne false (by decide)]; exact hL)⟩) (.inl ⟨rfl, fun _ _ _ _ _ => rfl⟩) (closedB (by kernel_rfl)) ⟨fun _ => hst.1, fun h => absurd h (by decide)⟩ ⟨fun _ => hst.1, fun h => absurd h (by decide)⟩ ?_
          refine wpAnyS_one (i := 8) (L' := #[true, true, true, true, true, true, true, true, true]) (by kernel_rfl) rfl (by simp only [List.getElem?_toArray, List.getElem?_cons_succ, List.getElem?_cons_zero]; rfl) ?_
          obtain ⟨q4, q5⟩ := hst
          clear hown' hgrow hat
          go_wp2_with fail
          go_wp2_with fail
          refine ⟨by kernel_rfl, ?_⟩
          refine hK _ _ ?_
          clear hK
          go_wp2_with fail
          go_roundw
          case rel =>
            refine ⟨j + 1, B3, bad3, .slice A' (j + 1) c', cs ++ vs, xs ++ [x], by omega, by go_num, ?_⟩
            have hown4 : w3.ownsRow w.heap.size 3 1 (.slice A' (j + 1) c') (xs.length + 1) (cs ++ vs) := by rw [← hxl]; exact HO.out
            exact LsR.step HS2.out H.out hjn HK.out HL.out (HP.out trivial) hown4 (T' := 3) ⟨HG.out.os, HG.out.tape, HG.out.output, HG.out.size, HG.out.block⟩ (by have := HT.out; rw [hxl] at this; exact this)
          case measure => simp [intOf]; omega
    · go_wp2_with fail
      go_end0
      exact ⟨rfl, B2, bad2, HS2.out.done (.inl (by omega))⟩
end Go.Proofs

set_option linter.unusedSimpArgs false
namespace Go.Proofs
open Go Go.RowKit Cod

theorem RdP.asRead {F : Nat → Prop} {w w1 : World} {bf : Nat} {B B' : List UInt8} {bad bad' : Bool} {v : Int} {cs : Array Value} {T : TypeId}
    (k : RdP .num F (w.alloc (.cells cs T)) w1 bf w.heap.size 0 B bad B' bad') (hv : Reads1 B bad v B' bad') : RdN F w w1 bf B bad v B' bad' where
  upd := ((Upd.refl _ w).alloc (.cells cs T)).then k.upd (fun x i hx e => TR.mono (Nat.le_refl _) x i hx e)
  form := k.form
  stays := k.stays
  reads := hv

set_option maxRecDepth 100000 in
set_option maxHeartbeats 1000000 in
theorem code_rd : RdC Tryz.prog 105 .num := by
  intro F w bf b o B bad h
  have H := Lib.hid h
  have cb : w.cell? ⟨b, o, none⟩ = some (.int .i64 0) := h.at_ 0 _ rfl
  have hlt := h.lt
  clear h
  go_enter Tryz.func105, Tryz.ntmps105
  go_wp2_with fail
  refine (num_rd F _ bf w.heap.size 0 B bad (H.out.new _ _ rfl)).mono ?_
  rintro e w1 ⟨rfl, B', bad', hk⟩
  obtain ⟨v, cv, hv⟩ := hk.newCell
  have HN := Lib.hid (RdP.asRead hk hv)
  have hc := H.out.cell HN.out
  obtain ⟨d0, g0⟩ := hc
  clear hk hv
  go_wp2_with fail
  go_end0
  exact ⟨rfl, B', bad', .ofRead H.out HN.out⟩

theorem Tryz.in5 : (Tryz.prog.info? 5).map (fun i => (i.zero, i.size, i.bytes)) = some (some (.int .u8 0), 1, 1) := by kernel_rfl

set_option maxRecDepth 100000 in
set_option maxHeartbeats 1000000 in
theorem raw_rd : RdC Tryz.prog 70 .raw := by
  intro F w bf b o B bad h
  have H := Lib.hid h
  have cb : w.cell? ⟨b, o, none⟩ = some (.slice none 0 0) := h.at_ 0 _ rfl
  have fb : w.frozen? ⟨b, o, none⟩ = false := by simpa using h.free 0 (by simp [szc])
  have hlt := h.lt
  have hlf := h.lf
  have hne := h.ne
  clear h
  go_enter Tryz.func70, Tryz.ntmps70
  go_wp2_with fail
  refine (many_rd 65536 H.out (by omega)).mono ?_
  rintro e w1 ⟨n, B1, bad1, rfl, hm⟩
  have hn64 := hm.le
  obtain ⟨A1, n1, c1, d0, d1, d2, g0, g1, g2, hn, hbt⟩ := hm.form.cells
  have hl1 := hbt.1
  have hl2 := hbt.2.1
  have HB := Lib.hid hbt
  have HM := Lib.hid hm
  have cb1 : w1.cell? ⟨b, o, none⟩ = some (.slice none 0 0) := (hm.upd.cell b o hlt hne).trans cb
  have fb1 : w1.frozen? ⟨b, o, none⟩ = false := (hm.upd.frozen b o hlt).trans fb
  clear hm hbt
  by_cases hgt : n1 < n
  · go_wp2_with fail
    refine bodyPost_ret (results_none rfl _ _ _) rfl ?_
    exact ⟨rfl, B1, true, .badRaw H.out HM.out (by rw [hl1]; exact hgt)⟩
  · by_cases h0 : n = 0
    · subst h0
      go_wp2_with fail
      go_end0
      exact ⟨rfl, B1.drop 0, bad1, RdP.ofRaw0 H.out HM.out (by simpa using HB.out) hn⟩
    · obtain ⟨bd, od, rfl, hFd, hAd⟩ := HB.out.2.2 (by omega)
      have HAd := Lib.hid hAd
      obtain ⟨i0, hi, hz0, hz1, hz2⟩ := info_parts Tryz.in5
      have HI := Lib.hid hi
      clear hAd hi
      go_wp2_with (refine wpList_append_own_at _ rfl (.const (.slice none 0 0)) (.tmp 45) 22 rfl w.heap.size 5 i0 _ 1 1 Tryz.underlying22 HI.out hz0 hz1 hz2 rfl (by decide) (.slice none 0 0) 0 [] rfl (World.ownsRow_nil _ _ _ _) ⟨bd, od, none⟩ n c1 ((B1.take n).map u8) ?_ ?_ ?_ ?_ ?_ ?_ ?_ ?_)
      · rfl
      · rw [List.length_map, List.length_take]; omega
      · intro j u hu
        rw [addr_add]
        rw [List.map_take, List.getElem?_take] at hu
        split at hu
        · exact HAd.out j u hu
        · cases hu
      · intro u hu
        obtain ⟨c, _, rfl⟩ := List.mem_map.1 hu
        rfl
      · unfold maxLen; omega
      · omega
      · exact HM.out.upd.size
      · intro v' w2 hown hg _ _
        obtain ⟨A', c', rfl⟩ := own_form hown
        have hown' : w2.ownsRow w.heap.size 5 1 (.slice A' n c') n ((B1.take n).map u8) := by rw [List.map_take]; exact hown
        have HO := Lib.hid hown'
        have HG := Lib.hid hg
        have hup : Upd (fun _ _ => False) w1 w2 := (Upd.refl _ w1).grownNew hg (fun q hq => by cases hq)
        have hb1 : b < w1.heap.size := Nat.lt_of_lt_of_le hlt HM.out.upd.size
        have hf1 : bf < w1.heap.size := Nat.lt_of_lt_of_le hlf HM.out.upd.size
        have e0 : w2.cell? ⟨bf, 0, none⟩ = some (.slice (some ⟨bd, od, none⟩) n1 c1) := (hup.cell _ _ hf1 (fun h => h)).trans d0
        have e1 : w2.frozen? ⟨bf, 0, none⟩ = false := (hup.frozen _ _ hf1).trans g0
        have e2 : w2.cell? ⟨b, o, none⟩ = some (.slice none 0 0) := (hup.cell _ _ hb1 (fun h => h)).trans cb1
        have e3 : w2.frozen? ⟨b, o, none⟩ = false := (hup.frozen _ _ hb1).trans fb1
        clear hown hown' hg hup
        go_wp2_with fail
        all_goals
          go_end0
          exact ⟨rfl, B1.drop n, bad1, RdP.ofRaw H.out HM.out (by omega) HO.out HG.out (HB.out.cut (fun _ => rfl) n (by omega) hn (by intro h; first | rfl | omega)) (by omega)⟩
end Go.Proofs
