/- A part of the codec's writers. -/
import Derived.Test.YthclnpigplcckaaGreatProg
import Derived.Test.YthclnpigplcckaaGreatLibs
import Derived.Test.YthclnpigplcckaaGreatWa
import Derived.WalkSpells
import Derived.WalkLawsBesides
import Derived.Deep.LoopGhost
import Derived.Lib.Hide
import Derived.Deep.RegionWith
import Derived.Maps.AppendAt
import Derived.KernelRfl
set_option linter.unusedSimpArgs false
set_option linter.unusedVariables false

set_option linter.unusedSimpArgs false
namespace Go.Proofs
open Go Go.RowKit Cod

set_option maxRecDepth 100000 in
set_option maxHeartbeats 1000000 in
theorem many_wr {base : Nat} {w : World} {bf : Nat} {v : Value} {B : List UInt8} {n : Nat} (most : Int) (h : OutK 2 5 base w bf v B) (hn : (n : Int) ≤ most) (hm : most ≤ 1099511627776) (hl : B.length + 6 ≤ 70368744177664) :
    Calls Tryz.prog 94 #[.pointer (some ⟨bf, 0, none⟩), .int .i64 (n : Int), .int .i64 most] w (ManyW 2 5 base w bf v B n) := by
  have H := Lib.hid h
  have hlt := h.lt
  have hnv : v.ownBlock ≠ some w.heap.size := fun e' => by have := (h.row.lt _ e').2; omega
  have HNV := Lib.hid hnv
  clear h hnv
  go_enter Tryz.func94, Tryz.ntmps94
  go_wp2_with fail
  refine (num_wr base (fun _ => False) _ bf w.heap.size 0 v B n (WoH.new H.out _ _ (by simp only [Lay]) (fun _ h => h.elim) (inR_small (by omega)) hl)).mono ?_
  rintro e w1 ⟨rfl, v1, p⟩
  have P := Lib.hid p.alloc
  have cn := p.cellAt (u := .int .i64 (n : Int)) (At.new w _ _).head (by omega) HNV.out
  clear p
  go_wp2_with fail
  go_ret
  exact ⟨rfl, v1, P.out⟩

set_option maxRecDepth 100000 in
set_option maxHeartbeats 1000000 in
theorem flag_wr : WoC Tryz.prog 2 5 68 .flag := by
  intro base F w bf b o v B x h
  have H := Lib.hid h
  have hlf := h.form.lt
  have hlb := h.lt
  have hne := h.ne
  have cb := h.flag
  have fb := h.fr (by decide)
  have hlen := h.len
  simp only [bnd] at hlen
  have hnv : v.ownBlock ≠ some w.heap.size := fun e' => by have := (h.form.row.lt _ e').2; omega
  have HNV := Lib.hid hnv
  have HNB := Lib.hid h.nv
  clear h hnv
  go_enter Tryz.func68, Tryz.ntmps68
  cases x
  all_goals
    go_wp2_with fail
    refine (num_wr base (fun _ => False) _ bf w.heap.size 0 v B _ (WoH.new H.out.form _ _ (by simp only [Lay, List.cons.injEq, Value.int.injEq, and_true, true_and]; rfl) (fun _ h => h.elim) (by first | exact inR_small (n := 0) (by omega) | exact inR_small (n := 1) (by omega)) hlen)).mono ?_
    rintro e w1 ⟨rfl, v1, p⟩
    have P := Lib.hid p.alloc
    have cn := p.cellAt (At.new w _ _).head (by omega) HNV.out
    have c1 := p.form.flag 1 (by omega)
    have c2 := P.out.cellAt cb hne HNB.out
    have g1 := p.form.fr 2 (by omega)
    have g2 := P.out.frAt hlb fb hne HNB.out
    clear p
    go_wp2_with fail
    go_end0
    exact ⟨rfl, v1, (P.out.same c1).same (by rw [setCell_self c1]; exact c2)⟩

set_option maxRecDepth 100000 in
set_option maxHeartbeats 1000000 in
theorem code_wr : WoC Tryz.prog 2 5 105 .num := by
  intro base F w bf b o v B x h
  have H := Lib.hid h
  have hlf := h.form.lt
  have hlb := h.lt
  have hne := h.ne
  have cb := h.num
  have fb := h.fr (by decide)
  have hlen := h.len
  simp only [bnd] at hlen
  have hnv : v.ownBlock ≠ some w.heap.size := fun e' => by have := (h.form.row.lt _ e').2; omega
  have HNV := Lib.hid hnv
  have HNB := Lib.hid h.nv
  clear h hnv
  go_enter Tryz.func105, Tryz.ntmps105
  go_wp2_with fail
  refine (num_wr base (fun _ => False) _ bf w.heap.size 0 v B x (WoH.new H.out.form _ _ (by simp only [Lay]) (fun _ h => h.elim) H.out.okay hlen)).mono ?_
  rintro e w1 ⟨rfl, v1, p⟩
  have P := Lib.hid p.alloc
  have cn := p.cellAt (At.new w _ _).head (by omega) HNV.out
  have c2 := P.out.cellAt cb hne HNB.out
  have g2 := P.out.frAt hlb fb hne HNB.out
  clear p
  go_wp2_with fail
  go_end0
  exact ⟨rfl, v1, P.out.same c2⟩

set_option maxRecDepth 100000 in
set_option maxHeartbeats 1000000 in
theorem nums_wr {base : Nat} {F : Nat → Prop} {w : World} {bf b o : Nat} {v : Value} {B : List UInt8} {k bl c : Nat} {x : Ty (numsL k)} (h : WoH 2 5 base (numsL k) F w bf b o v B x) (hl : At w bl 0 (ptrs b o k)) (h1 : bl ≠ bf) (h2 : v.ownBlock ≠ some bl) (_hlt : bl < w.heap.size) (hk : k ≤ 1000) :
    Calls Tryz.prog 49 #[.pointer (some ⟨bf, 0, none⟩), .slice (some ⟨bl, 0, none⟩) k c] w (WoEnd 2 5 base w bf v B (enc (numsL k) x)) := by
  have H := Lib.hid h
  have HL := Lib.hid hl
  have H2 := Lib.hid h2
  clear h hl h2
  go_enter Tryz.func49, Tryz.ntmps49
  go_wp2_with fail
  go_loopw [8] (fun i wr => ∃ (j : Nat) (v' : Value), j ≤ k ∧ i = .int .i64 j ∧ Wr 2 5 base w wr bf v B (((toL k x).take j).map encN).flatten v') (fun i _ => k - (intOf i).toNat)
  case atStart => exact ⟨0, v, by omega, rfl, Wr.refl H.out.form⟩
  case round =>
    obtain ⟨j, v1, hj, rfl, hp⟩ := hrel
    have HP := Lib.hid hp
    clear hp
    by_cases hjk : j < k
    · have hc : wr.cell? ⟨bl, j, none⟩ = some (.pointer (some ⟨b, o + j, none⟩)) := by
        have := HL.out j _ (ptrs_at hjk)
        rw [Nat.zero_add] at this
        exact HP.out.cellAt this h1 H2.out
      go_wp2_with fail
      refine (num_wr base F wr bf b (o + j) v1 _ _ (H.out.numAt hjk HP.out)).mono ?_
      rintro e w1 ⟨rfl, v2, hq⟩
      have HQ := Lib.hid hq
      clear hq
      go_wp2_with fail
      go_roundw
      case rel => exact ⟨j + 1, v2, by omega, by go_num, Wr.numMore hjk HP.out HQ.out⟩
      case measure => simp [intOf]; omega
    · go_wp2_with fail
      go_end0
      obtain rfl : j = k := by omega
      exact ⟨rfl, v1, Wr.numAll HP.out⟩

theorem nums_wdr {base : Nat} {F : Nat → Prop} {w : World} {bf b o : Nat} {v : Value} {B : List UInt8} {k : Nat} {x : Ty (numsL k)} {cs : Array Value} {T : TypeId} (h : WoH 2 5 base (numsL k) F w bf b o v B x) (hc : cs.toList = ptrs b o k) (hk : k ≤ 1000) :
    Calls Tryz.prog 49 #[.pointer (some ⟨bf, 0, none⟩), .slice (some ⟨w.heap.size, 0, none⟩) k k] (w.alloc (.cells cs T)).drew (WoEnd 2 5 base w bf v B (enc (numsL k) x)) := by
  refine (nums_wr (c := k) (h.alloc _).drew (hc ▸ At.new w cs T) (by have := h.form.lt; omega) (fun e' => by have := (h.form.row.lt _ e').2; omega) (by simp) hk).mono ?_
  rintro e w' ⟨rfl, v', p⟩
  exact ⟨rfl, v', p.ofDrew.alloc⟩

set_option maxRecDepth 100000 in
set_option maxHeartbeats 1000000 in
theorem raw_wr : WoC Tryz.prog 2 5 70 .raw := by
  intro base F w bf b o v B x h
  have H := Lib.hid h
  have hlf := h.form.lt
  have hlb := h.lt
  have hne := h.ne
  obtain ⟨vs, hA, A, n, c, rfl, hb⟩ := h.lies
  have cb := hA.head
  have HB := Lib.hid hb
  have hbl := hb.1
  have hok := h.okay
  simp only [Cod.okay, decide_eq_true_eq] at hok
  have hlen := h.len
  simp only [bnd] at hlen
  have HNB := Lib.hid h.nv
  obtain ⟨i0, hi, hz0, hz1, hz2⟩ := info_parts Tryz.by5
  have HI := Lib.hid hi
  clear h hA hb hi
  go_enter Tryz.func70, Tryz.ntmps70
  go_wp2_with fail
  refine (many_wr (n := n) 65536 H.out.form (by omega) (by omega) (by omega)).mono ?_
  rintro e w1 ⟨rfl, v1, p⟩
  have P := Lib.hid p
  have c0 := p.form.cell
  have c1 := p.form.flag 0 (by omega)
  have f0 := p.form.fr 0 (by omega)
  have c2 := p.cellAt cb hne HNB.out
  have hbs : base ≤ w1.heap.size := p.form.2.2.2.2
  clear p
  have HB1 : Hid (Bts F w1 A n x) := Lib.hid (HB.out.keep (fun _ h => h) (fun q hq _ => (P.out.keeps (H.out.sep q hq)).1))
  have hB1 : (B ++ encN (n : Int)).length ≤ B.length + 6 := by
    have := encN_len (inR_small (n := n) (by omega))
    simp only [List.length_append]
    omega
  go_wp2_with fail
  rename_i hK
  refine wp_region_S (fun L w' => (L.getD 11 false = false → w'.cell? ⟨bf, 0, none⟩ = some v1) ∧ w'.cell? ⟨b, o, none⟩ = some (.slice A n c)) (n := 12) (L := #[false, false, false, false, false, false, false, false, false, false, false, false]) (by kernel_rfl) rfl rfl ?_
  have C0 : Hid ((false = false → w1.cell? ⟨bf, 0, none⟩ = some v1) ∧ w1.cell? ⟨b, o, none⟩ = some (.slice A n c)) := Lib.hid ⟨fun _ => c0, c2⟩
  refine wpAnyS_take' (i := 0) (v := .pointer (some ⟨bf, 0, none⟩)) (L' := #[true, false, false, false, false, false, false, false, false, false, false, false]) (by simp only [List.getElem?_toArray, List.getElem?_cons_succ, List.getElem?_cons_zero]; rfl) rfl (by simp only [Act.put, List.setIfInBounds_toArray, List.set_cons_succ, List.set_cons_zero]; rfl) (by kernel_rfl) (by kernel_rfl) (by kernel_rfl) (by exact fun _ _ _ h => h) (fun L w' h => ⟨fun hL => h.1 (by rw [getD_set_ne false (by decide)]; exact hL), h.2⟩) (.inl ⟨rfl, fun _ _ _ _ _ => rfl⟩) (closedB (by kernel_rfl)) C0.out C0.out ?_
  refine wpAnyS_take' (i := 1) (v := .pointer (some ⟨bf, 0, none⟩)) (L' := #[true, true, false, false, false, false, false, false, false, false, false, false]) (by simp only [List.getElem?_toArray, List.getElem?_cons_succ, List.getElem?_cons_zero]; rfl) rfl (by simp only [Act.put, List.setIfInBounds_toArray, List.set_cons_succ, List.set_cons_zero]; rfl) (by kernel_rfl) (by kernel_rfl) (by kernel_rfl) (by exact fun _ _ _ h => h) (fun L w' h => ⟨fun hL => h.1 (by rw [getD_set_ne false (by decide)]; exact hL), h.2⟩) (.inl ⟨rfl, fun _ _ _ _ _ => rfl⟩) (closedB (by kernel_rfl)) C0.out C0.out ?_
  refine wpAnyS_take' (i := 2) (v := .pointer (some ⟨bf, 0, none⟩)) (L' := #[true, true, true, false, false, false, false, false, false, false, false, false]) (by simp only [List.getElem?_toArray, List.getElem?_cons_succ, List.getElem?_cons_zero]; rfl) rfl (by simp only [Act.put, List.setIfInBounds_toArray, List.set_cons_succ, List.set_cons_zero]; rfl) (by kernel_rfl) (by kernel_rfl) (by kernel_rfl) (by exact fun _ _ _ h => h) (fun L w' h => ⟨fun hL => h.1 (by rw [getD_set_ne false (by decide)]; exact hL), h.2⟩) (.inl ⟨rfl, fun _ _ _ _ _ => rfl⟩) (closedB (by kernel_rfl)) C0.out C0.out ?_
  refine wpAnyS_take' (i := 3) (v := .pointer (some ⟨bf, 0, none⟩)) (L' := #[true, true, true, true, false, false, false, false, false, false, false, false]) (by simp only [List.getElem?_toArray, List.getElem?_cons_succ, List.getElem?_cons_zero]; rfl) rfl (by simp only [Act.put, List.setIfInBounds_toArray, List.set_cons_succ, List.set_cons_zero]; rfl) (by kernel_rfl) (by kernel_rfl) (by kernel_rfl) (by exact fun _ _ _ h => h) (fun L w' h => ⟨fun hL => h.1 (by rw [getD_set_ne false (by decide)]; exact hL), h.2⟩) (.inl ⟨rfl, fun _ _ _ _ _ => rfl⟩) (closedB (by kernel_rfl)) C0.out C0.out ?_
  refine wpAnyS_take' (i := 4) (v := v1) (L' := #[true, true, true, true, true, false, false, false, false, false, false, false]) (by simp only [List.getElem?_toArray, List.getElem?_cons_succ, List.getElem?_cons_zero]; rfl) rfl (by simp only [Act.put, List.setIfInBounds_toArray, List.set_cons_succ, List.set_cons_zero]; rfl) (by kernel_rfl) (by kernel_rfl) (by kernel_rfl) (by exact fun _ _ _ h => h) (fun L w' h => ⟨fun hL => h.1 (by rw [getD_set_ne false (by decide)]; exact hL), h.2⟩) (.inl ⟨rfl, fun L w' hC hL hS => exec_load_one rfl rfl Tryz.underlying22 rfl (hS.1 (hC.not (by kernel_rfl) hL))⟩) (closedB (by kernel_rfl)) C0.out C0.out ?_
  refine wpAnyS_take' (i := 5) (v := .pointer (some ⟨b, o, none⟩)) (L' := #[true, true, true, true, true, true, false, false, false, false, false, false]) (by simp only [List.getElem?_toArray, List.getElem?_cons_succ, List.getElem?_cons_zero]; rfl) rfl (by simp only [Act.put, List.setIfInBounds_toArray, List.set_cons_succ, List.set_cons_zero]; rfl) (by kernel_rfl) (by kernel_rfl) (by kernel_rfl) (by exact fun _ _ _ h => h) (fun L w' h => ⟨fun hL => h.1 (by rw [getD_set_ne false (by decide)]; exact hL), h.2⟩) (.inl ⟨rfl, fun _ _ _ _ _ => rfl⟩) (closedB (by kernel_rfl)) C0.out C0.out ?_
  refine wpAnyS_take' (i := 6) (v := .pointer (some ⟨b, o, none⟩)) (L' := #[true, true, true, true, true, true, true, false, false, false, false, false]) (by simp only [List.getElem?_toArray, List.getElem?_cons_succ, List.getElem?_cons_zero]; rfl) rfl (by simp only [Act.put, List.setIfInBounds_toArray, List.set_cons_succ, List.set_cons_zero]; rfl) (by kernel_rfl) (by kernel_rfl) (by kernel_rfl) (by exact fun _ _ _ h => h) (fun L w' h => ⟨fun hL => h.1 (by rw [getD_set_ne false (by decide)]; exact hL), h.2⟩) (.inl ⟨rfl, fun _ _ _ _ _ => rfl⟩) (closedB (by kernel_rfl)) C0.out C0.out ?_
  refine wpAnyS_take' (i := 7) (v := .slice A n c) (L' := #[true, true, true, true, true, true, true, true, false, false, false, false]) (by simp only [List.getElem?_toArray, List.getElem?_cons_succ, List.getElem?_cons_zero]; rfl) rfl (by simp only [Act.put, List.setIfInBounds_toArray, List.set_cons_succ, List.set_cons_zero]; rfl) (by kernel_rfl) (by kernel_rfl) (by kernel_rfl) (by exact fun _ _ _ h => h) (fun L w' h => ⟨fun hL => h.1 (by rw [getD_set_ne false (by decide)]; exact hL), h.2⟩) (.inl ⟨rfl, fun L w' hC hL hS => exec_load_one rfl rfl Tryz.underlying22 rfl hS.2⟩) (closedB (by kernel_rfl)) C0.out C0.out ?_
  refine wpAnyS_one (i := 8) (L' := #[true, true, true, true, true, true, true, true, true, false, false, false]) (by kernel_rfl) rfl (by simp only [List.getElem?_toArray, List.getElem?_cons_succ, List.getElem?_cons_zero]; rfl) ?_
  refine wpList_append_bts rfl (.tmp 20) (.tmp 23) 22 rfl base 5 i0 _ Tryz.underlying22 HI.out hz0 hz1 hz2 rfl v1 (B ++ encN (n : Int)) rfl P.out.form.row hbs rfl HB1.out (by omega) ?_
  intro v2 w2 hown hg hat
  obtain ⟨A2, c2', rfl⟩ := own_form hown
  obtain ⟨e0, e1⟩ := P.out.form.behind ((Upd.refl _ w1).drew) hg
  have HO := Lib.hid hown
  have HG := Lib.hid hg
  have HA := Lib.hid hat
  have e2 : w2.cell? ⟨b, o, none⟩ = some (.slice A n c) := by
    have hb : b < w1.heap.size := Nat.lt_of_lt_of_le hlb P.out.upd.size
    have := hg.block b hb (fun e' => (P.out.keeps ⟨hlb, hne, HNB.out⟩).2.2.2 e'.symm)
    exact (World.cell?_of_block (a := ⟨b, o, none⟩) this).trans c2
  clear hown hg hat
  have C1 : Hid ((false = false → w2.cell? ⟨bf, 0, none⟩ = some v1) ∧ w2.cell? ⟨b, o, none⟩ = some (.slice A n c)) := Lib.hid ⟨fun _ => e0, e2⟩
  refine ⟨C1.out, ?_⟩
  refine wpAnyS_act (by simp only [Act.put, List.setIfInBounds_toArray, List.set_cons_succ, List.set_cons_zero]; rfl) ?_
  refine wpAnyS_take' (i := 9) (v := .pointer (some ⟨bf, 0, none⟩)) (L' := #[true, true, true, true, true, true, true, true, true, true, false, false]) (by simp only [List.getElem?_toArray, List.getElem?_cons_succ, List.getElem?_cons_zero]; rfl) rfl (by simp only [Act.put, List.setIfInBounds_toArray, List.set_cons_succ, List.set_cons_zero]; rfl) (by kernel_rfl) (by kernel_rfl) (by kernel_rfl) (by exact fun _ _ _ h => h) (fun L w' h => ⟨fun hL => h.1 (by rw [getD_set_ne false (by decide)]; exact hL), h.2⟩) (.inl ⟨rfl, fun _ _ _ _ _ => rfl⟩) (closedB (by kernel_rfl)) C1.out C1.out ?_
  refine wpAnyS_take' (i := 10) (v := .pointer (some ⟨bf, 0, none⟩)) (L' := #[true, true, true, true, true, true, true, true, true, true, true, false]) (by simp only [List.getElem?_toArray, List.getElem?_cons_succ, List.getElem?_cons_zero]; rfl) rfl (by simp only [Act.put, List.setIfInBounds_toArray, List.set_cons_succ, List.set_cons_zero]; rfl) (by kernel_rfl) (by kernel_rfl) (by kernel_rfl) (by exact fun _ _ _ h => h) (fun L w' h => ⟨fun hL => h.1 (by rw [getD_set_ne false (by decide)]; exact hL), h.2⟩) (.inl ⟨rfl, fun _ _ _ _ _ => rfl⟩) (closedB (by kernel_rfl)) C1.out C1.out ?_
  refine wpAnyS_one (i := 11) (L' := #[true, true, true, true, true, true, true, true, true, true, true, true]) (by kernel_rfl) rfl (by simp only [List.getElem?_toArray, List.getElem?_cons_succ, List.getElem?_cons_zero]; rfl) ?_
  go_wp2_with fail
  refine wpAnyS_done (by kernel_rfl) ?_ _
  refine hK _ _ ?_
  clear hK
  go_wp2_with fail
  refine bodyPost_ret (results_none rfl _ _ _) rfl ?_
  have e4 : enc .raw x = encN (n : Int) ++ x := by rw [← hbl]; rfl
  have W := P.out.trans (P.out.form.append (l := x) ((Upd.refl _ w1).drew) rfl (by rw [hbl]) HO.out HG.out HA.out)
  rw [← e4, List.length_append] at W
  exact ⟨rfl, _, W⟩
end Go.Proofs
