/- A part of the document's writers. -/
import Derived.Test.YthclnpigplcckaaGreatProg
import Derived.Test.YthclnpigplcckaaGreatLibs
import Derived.Test.YthclnpigplcckaaGreatOc
import Derived.Test.YthclnpigplcckaaGreatZh
import Derived.Test.YthclnpigplcckaaGreatWh
import Derived.Test.YthclnpigplcckaaGreatWf
import Derived.Test.YthclnpigplcckaaGreatPa
import Derived.Test.YthclnpigplcckaaGreatVa
import Derived.WalkSpells
import Derived.WalkLawsBesides
import Derived.Deep.LoopGhost
import Derived.Lib.Hide
import Derived.Deep.RegionWith
import Derived.Maps.AppendAt
import Derived.KernelRfl
set_option linter.unusedSimpArgs false
set_option linter.unusedVariables false

set_option linter.unusedSimpArgs false
namespace Go.Proofs
open Go Go.RowKit Cod

set_option maxRecDepth 100000 in
set_option maxHeartbeats 8000000 in
theorem out_store : VaC Tryz.prog 89 schStore := by
  intro base F w bf v0 B VS x h hL
  have H := Lib.hid (h.alloc (.cells VS.toArray 70))
  have X0 := Lib.hid (Box.new h.form VS 70)
  obtain ⟨qa7, ua7, hqa7, ha7, ta7, sa7⟩ := Lay.split hL
  have Sa7 : Sub VS 8 ua7 := (Sub.self VS).trans sa7
  have Ta7 : Sub VS 0 qa7 := (Sub.self VS).trans ta7
  obtain ⟨qa6, ua6, hqa6, ha6, ta6, sa6⟩ := Lay.split hqa7
  have Sa6 : Sub VS 7 ua6 := Ta7.trans sa6
  have Ta6 : Sub VS 0 qa6 := Ta7.trans ta6
  obtain ⟨qa5, ua5, hqa5, ha5, ta5, sa5⟩ := Lay.split hqa6
  have Sa5 : Sub VS 6 ua5 := Ta6.trans sa5
  have Ta5 : Sub VS 0 qa5 := Ta6.trans ta5
  obtain ⟨qa4, ua4, hqa4, ha4, ta4, sa4⟩ := Lay.split hqa5
  have Sa4 : Sub VS 5 ua4 := Ta5.trans sa4
  have Ta4 : Sub VS 0 qa4 := Ta5.trans ta4
  obtain ⟨qa3, ua3, hqa3, ha3, ta3, sa3⟩ := Lay.split hqa4
  have Sa3 : Sub VS 4 ua3 := Ta4.trans sa3
  have Ta3 : Sub VS 0 qa3 := Ta4.trans ta3
  obtain ⟨qa2, ua2, hqa2, ha2, ta2, sa2⟩ := Lay.split hqa3
  have Sa2 : Sub VS 3 ua2 := Ta3.trans sa2
  have Ta2 : Sub VS 0 qa2 := Ta3.trans ta2
  obtain ⟨qa1, ua1, hqa1, ha1, ta1, sa1⟩ := Lay.split hqa2
  have Sa1 : Sub VS 2 ua1 := Ta2.trans sa1
  have Ta1 : Sub VS 0 qa1 := Ta2.trans ta1
  obtain ⟨qb0_1, ub0_1, hqb0_1, hb0_1, tb0_1, sb0_1⟩ := Lay.split hqa1
  have Sb0_1 : Sub VS 1 ub0_1 := Ta1.trans sb0_1
  have Tb0_1 : Sub VS 0 qb0_1 := Ta1.trans tb0_1
  obtain rfl := Lay.num hb0_1
  have HSb0_1 := Lib.hid Sb0_1
  clear Sb0_1 sb0_1 tb0_1
  obtain ⟨qb0_0, ub0_0, hqb0_0, hb0_0, tb0_0, sb0_0⟩ := Lay.split hqb0_1
  have Sb0_0 : Sub VS 0 ub0_0 := Tb0_1.trans sb0_0
  have Tb0_0 : Sub VS 0 qb0_0 := Tb0_1.trans tb0_0
  obtain rfl := Lay.num hb0_0
  have HSb0_0 := Lib.hid Sb0_0
  clear Sb0_0 sb0_0 tb0_0
  have L1 := Lib.hid (h.layAlloc (.cells VS.toArray 70) ha1)
  obtain ⟨Aa1, ca1, rfl, _⟩ := Lay.slice ha1
  have HSa1 := Lib.hid Sa1
  have L2 := Lib.hid (h.layAlloc (.cells VS.toArray 70) ha2)
  obtain ⟨Aa2, ca2, rfl, _⟩ := Lay.slice ha2
  have HSa2 := Lib.hid Sa2
  have L3 := Lib.hid (h.layAlloc (.cells VS.toArray 70) ha3)
  obtain ⟨Aa3, ca3, rfl, _⟩ := Lay.slice ha3
  have HSa3 := Lib.hid Sa3
  have L4 := Lib.hid (h.layAlloc (.cells VS.toArray 70) ha4)
  obtain ⟨Aa4, ca4, rfl, _⟩ := Lay.slice ha4
  have HSa4 := Lib.hid Sa4
  have L5 := Lib.hid (h.layAlloc (.cells VS.toArray 70) ha5)
  obtain ⟨Aa5, ca5, rfl, _⟩ := Lay.slice ha5
  have HSa5 := Lib.hid Sa5
  have L6 := Lib.hid (h.layAlloc (.cells VS.toArray 70) ha6)
  obtain ⟨Aa6, ca6, rfl, _⟩ := Lay.slice ha6
  have HSa6 := Lib.hid Sa6
  have L7 := Lib.hid (h.layAlloc (.cells VS.toArray 70) ha7)
  obtain ⟨Aa7, ca7, rfl, _⟩ := Lay.slice ha7
  have HSa7 := Lib.hid Sa7
  clear h
  go_enter Tryz.func89, Tryz.ntmps89
  have G1 := Lib.hid H.out.first.first.first.first.first.first.first
  have R1_0 := Lib.hid (G1.out.first.first).unit
  have cc := HSb0_0.out.cell X0.out.at_
  go_wp2_with fail
  refine (out_num (VaH.next G1.out.first R1_0.out)).mono ?_
  rintro e w1 ⟨rfl, v1, p⟩
  have R1_1 := Lib.hid (Wr.both R1_0.out p)
  have X1 := Lib.hid (X0.out.next R1_1.out)
  clear cc p R1_0
  have cc := HSb0_1.out.cell X1.out.at_
  go_wp2_with fail
  refine (out_num (VaH.next G1.out R1_1.out)).mono ?_
  rintro e w2 ⟨rfl, v2, p⟩
  have R1_2 := Lib.hid (Wr.both R1_1.out p)
  have X2 := Lib.hid (X0.out.next R1_2.out)
  clear cc p R1_1
  have P1 := R1_2
  have Y1 := Lib.hid (X0.out.next P1.out)
  have cc := HSa1.out.cell Y1.out.at_
  go_wp2_with fail
  refine (out_jobs base F _ bf _ _ _ _ (VaH.next H.out.first.first.first.first.first.first P1.out) (H.out.lay P1.out L1.out)).mono ?_
  rintro e w3 ⟨rfl, v3, p⟩
  have R2 := Lib.hid p
  clear cc p
  have P2 := Lib.hid (Wr.both P1.out R2.out)
  have Y2 := Lib.hid (X0.out.next P2.out)
  have cc := HSa2.out.cell Y2.out.at_
  go_wp2_with fail
  refine (out_jobs base F _ bf _ _ _ _ (VaH.next H.out.first.first.first.first.first P2.out) (H.out.lay P2.out L2.out)).mono ?_
  rintro e w4 ⟨rfl, v4, p⟩
  have R3 := Lib.hid p
  clear cc p
  have P3 := Lib.hid (Wr.both P2.out R3.out)
  have Y3 := Lib.hid (X0.out.next P3.out)
  have G4 := Lib.hid (VaH.next H.out.first.first.first.first P3.out)
  have LG4 := Lib.hid (H.out.lay P3.out L3.out)
  have cc := HSa3.out.cell Y3.out.at_
  have h64 := (okay_list G4.out.okay).1
  have hlen := G4.out.len
  simp only [bnd] at hlen
  go_wp2_with fail
  refine (out_count (n := (x.1.1.1.1.2).length) G4.out.form h64 (by omega)).mono ?_
  rintro e w5 ⟨rfl, v5, p⟩
  have R4 : Hid (Wr 1 5 base w4 w5 bf v4 _ (encJ schNode (x.1.1.1.1.2) 0) v5) := Lib.hid (by rw [encJ_zero]; exact p)
  have cc2 := HSa3.out.cell (Y3.out.next p).at_
  clear p cc hlen
  obtain ⟨y, hy⟩ : ∃ y : List (Ty schNode), Hid (y = x.1.1.1.1.2) := ⟨_, Lib.hid rfl⟩
  rw [← hy.out] at G4 LG4 R4 cc2 h64
  have HSy := Lib.hid (by have := HSa3.out; rw [← hy.out] at this; exact this)
  rw [← hy.out]
  go_wp2_with fail
  go_loopw [4] (fun i wr => ∃ (j : Nat) (v' : Value), j ≤ y.length ∧ i = .int .i64 j ∧ Wr 1 5 base w4 wr bf v4 _ (encJ schNode y j) v') (fun i _ => y.length - (intOf i).toNat)
  case atStart => exact ⟨0, v5, by omega, rfl, R4.out⟩
  case round =>
    obtain ⟨j, va, hj, rfl, hp⟩ := hrel
    have HP := Lib.hid hp
    have cd := HSy.out.cell (Y3.out.next hp).at_
    by_cases hjn : j < y.length
    · obtain ⟨b', o', ws, hA, hws, hat, hn1, hn2, hn3, hLw, hW⟩ := G4.out.itemAt LG4.out hjn hp
      subst hA
      obtain ⟨z, hz⟩ : ∃ z : Ty schNode, Hid (z = y[j]) := ⟨_, Lib.hid rfl⟩
      rw [← hz.out] at hLw hW
      have HW := Lib.hid hW
      have HAt := Lib.hid hat
      have HN2 := Lib.hid hn2
      have hwl : ws.length = 8 := hws
      have HLw := Lib.hid hLw
      have SW : Hid ((Tryz.prog.info? 29).map (·.size) = some ws.length) := Lib.hid (by rw [hwl]; exact Tryz.size29)
      clear hp hat hLw hW hn2
      go_wp2_with (refine wpList_load_mid rfl 29 _ rfl b' (o' + j * 8) rfl ws _ HAt.out Tryz.underlying29 rfl SW.out ?_)
      refine (out_node base F _ bf _ _ ws z HW.out HLw.out).mono ?_
      rintro e wz ⟨rfl, vz, p⟩
      have RZ := Lib.hid p
      clear p
      go_wp2_with fail
      go_roundw
      case rel => exact ⟨j + 1, _, by omega, by go_num, by rw [encJ_succ _ _ hjn, ← hz.out]; exact HP.out.trans RZ.out⟩
      case measure => simp [intOf]; omega
    · clear hp
      have hjy : j = y.length := by omega
      subst hjy
      obtain ⟨w6, hwr⟩ : ∃ w', w' = wr := ⟨_, rfl⟩
      obtain ⟨v6, hvr⟩ : ∃ v', v' = va := ⟨_, rfl⟩
      have RL4 : Hid (Wr 1 5 base w4 w6 bf v4 _ (enc (.list schNode) (x.1.1.1.1.2)) v6) := Lib.hid (by rw [hwr, hvr, ← hy.out, ← encJ_all]; exact HP.out)
      clear cd HP
      rw [← hwr]
      clear hwr hvr
      have P4 := Lib.hid (Wr.both P3.out RL4.out)
      have Y4 := Lib.hid (X0.out.next P4.out)
      have cc3_4 := HSy.out.cell Y4.out.at_
      have cc := HSa4.out.cell Y4.out.at_
      go_wp2_with fail
      refine (out_allocs base F _ bf _ _ _ _ (VaH.next H.out.first.first.first P4.out) (H.out.lay P4.out L4.out)).mono ?_
      rintro e w7 ⟨rfl, v7, p⟩
      have R5 := Lib.hid p
      clear cc p
      have P5 := Lib.hid (Wr.both P4.out R5.out)
      have Y5 := Lib.hid (X0.out.next P5.out)
      have G6 := Lib.hid (VaH.next H.out.first.first P5.out)
      have LG6 := Lib.hid (H.out.lay P5.out L5.out)
      have cc := HSa5.out.cell Y5.out.at_
      have h64 := (okay_list G6.out.okay).1
      have hlen := G6.out.len
      simp only [bnd] at hlen
      go_wp2_with fail
      refine (out_count (n := (x.1.1.2).length) G6.out.form h64 (by omega)).mono ?_
      rintro e w8 ⟨rfl, v8, p⟩
      have R6 : Hid (Wr 1 5 base w7 w8 bf v7 _ (encJ schEval (x.1.1.2) 0) v8) := Lib.hid (by rw [encJ_zero]; exact p)
      have cc2 := HSa5.out.cell (Y5.out.next p).at_
      clear p cc hlen
      obtain ⟨y, hy⟩ : ∃ y : List (Ty schEval), Hid (y = x.1.1.2) := ⟨_, Lib.hid rfl⟩
      rw [← hy.out] at G6 LG6 R6 cc2 h64
      have HSy := Lib.hid (by have := HSa5.out; rw [← hy.out] at this; exact this)
      rw [← hy.out]
      go_wp2_with fail
      go_loopw [5] (fun i wr => ∃ (j : Nat) (v' : Value), j ≤ y.length ∧ i = .int .i64 j ∧ Wr 1 5 base w7 wr bf v7 _ (encJ schEval y j) v') (fun i _ => y.length - (intOf i).toNat)
      case atStart => exact ⟨0, v8, by omega, rfl, R6.out⟩
      case round =>
        obtain ⟨j, va, hj, rfl, hp⟩ := hrel
        have HP := Lib.hid hp
        have cd := HSy.out.cell (Y5.out.next hp).at_
        by_cases hjn : j < y.length
        · obtain ⟨b', o', ws, hA, hws, hat, hn1, hn2, hn3, hLw, hW⟩ := G6.out.itemAt LG6.out hjn hp
          subst hA
          obtain ⟨z, hz⟩ : ∃ z : Ty schEval, Hid (z = y[j]) := ⟨_, Lib.hid rfl⟩
          rw [← hz.out] at hLw hW
          have HW := Lib.hid hW
          have HAt := Lib.hid hat
          have HN2 := Lib.hid hn2
          have hwl : ws.length = 4 := hws
          obtain ⟨qf3, uf3, hqf3, hf3, tf3, sf3⟩ := Lay.split hLw
          have Sf3 : Sub ws 3 uf3 := Sub.trans (o := 0) (Sub.self ws) sf3
          have Tf3 : Sub ws 0 qf3 := Sub.trans (o := 0) (Sub.self ws) tf3
          obtain rfl := Lay.num hf3
          obtain ⟨qf2, uf2, hqf2, hf2, tf2, sf2⟩ := Lay.split hqf3
          have Sf2 : Sub ws 2 uf2 := Sub.trans (o := 0) Tf3 sf2
          have Tf2 : Sub ws 0 qf2 := Sub.trans (o := 0) Tf3 tf2
          obtain rfl := Lay.num hf2
          obtain ⟨qf1, uf1, hqf1, hf1, tf1, sf1⟩ := Lay.split hqf2
          have Sf1 : Sub ws 1 uf1 := Sub.trans (o := 0) Tf2 sf1
          have Tf1 : Sub ws 0 qf1 := Sub.trans (o := 0) Tf2 tf1
          obtain rfl := Lay.num hf1
          obtain ⟨qf0, uf0, hqf0, hf0, tf0, sf0⟩ := Lay.split hqf1
          have Sf0 : Sub ws 0 uf0 := Sub.trans (o := 0) Tf1 sf0
          have Tf0 : Sub ws 0 qf0 := Sub.trans (o := 0) Tf1 tf0
          obtain rfl := Lay.num hf0
          have ce0 : wr.cell? ⟨b', o' + j * 4, none⟩ = some (.int .i64 z.1.1.1.2) := (Sf0.at hat).head
          have ce1 : wr.cell? ⟨b', o' + j * 4 + 1, none⟩ = some (.int .i64 z.1.1.2) := (Sf1.at hat).head
          have ce2 : wr.cell? ⟨b', o' + j * 4 + 2, none⟩ = some (.int .i64 z.1.2) := (Sf2.at hat).head
          have ce3 : wr.cell? ⟨b', o' + j * 4 + 3, none⟩ = some (.int .i64 z.2) := (Sf3.at hat).head
          clear hp hat hLw hW hn2
          go_wp2_with fail
          rename_i hK
          refine wp_region_S (fun _ w' => w'.cell? ⟨w.heap.size, 6, none⟩ = some (.slice (some ⟨b', o', none⟩) y.length ca5) ∧ w'.cell? ⟨b', o' + j * 4, none⟩ = some (.int .i64 (z.1.1.1.2)) ∧ w'.cell? ⟨b', o' + j * 4 + 1, none⟩ = some (.int .i64 (z.1.1.2)) ∧ w'.cell? ⟨b', o' + j * 4 + 2, none⟩ = some (.int .i64 (z.1.2)) ∧ w'.cell? ⟨b', o' + j * 4 + 3, none⟩ = some (.int .i64 (z.2))) (n := 27) (L := #[false, false, false, false, false, false, false, false, false, false, false, false, false, false, false, false, false, false, false, false, false, false, false, false, false, false, false]) (by kernel_rfl) rfl rfl ?_
          have C0 : Hid (wr.drew.cell? ⟨w.heap.size, 6, none⟩ = some (.slice (some ⟨b', o', none⟩) y.length ca5) ∧ wr.drew.cell? ⟨b', o' + j * 4, none⟩ = some (.int .i64 (z.1.1.1.2)) ∧ wr.drew.cell? ⟨b', o' + j * 4 + 1, none⟩ = some (.int .i64 (z.1.1.2)) ∧ wr.drew.cell? ⟨b', o' + j * 4 + 2, none⟩ = some (.int .i64 (z.1.2)) ∧ wr.drew.cell? ⟨b', o' + j * 4 + 3, none⟩ = some (.int .i64 (z.2))) := Lib.hid ⟨cd, ce0, ce1, ce2, ce3⟩
          refine wpAnyS_take' (i := 0) (v := .pointer (some ⟨bf, 0, none⟩)) (L' := #[true, false, false, false, false, false, false, false, false, false, false, false, false, false, false, false, false, false, false, false, false, false, false, false, false, false, false]) (by simp only [List.getElem?_toArray, List.getElem?_cons_succ, List.getElem?_cons_zero]; rfl) rfl (by simp only [Act.put, List.setIfInBounds_toArray, List.set_cons_succ, List.set_cons_zero]; rfl) (by kernel_rfl) (by kernel_rfl) (by kernel_rfl) (by exact fun _ _ _ h => h) (fun _ _ h => h) (.inl ⟨rfl, fun _ _ _ _ _ => rfl⟩) (closedB (by kernel_rfl)) C0.out C0.out ?_
          refine wpAnyS_take' (i := 1) (v := .pointer (some ⟨w.heap.size, 6, none⟩)) (L' := #[true, true, false, false, false, false, false, false, false, false, false, false, false, false, false, false, false, false, false, false, false, false, false, false, false, false, false]) (by simp only [List.getElem?_toArray, List.getElem?_cons_succ, List.getElem?_cons_zero]; rfl) rfl (by simp only [Act.put, List.setIfInBounds_toArray, List.set_cons_succ, List.set_cons_zero]; rfl) (by kernel_rfl) (by kernel_rfl) (by kernel_rfl) (by exact fun _ _ _ h => h) (fun _ _ h => h) (.inl ⟨rfl, fun _ _ _ _ _ => rfl⟩) (closedB (by kernel_rfl)) C0.out C0.out ?_
          refine wpAnyS_take' (i := 2) (v := .slice (some ⟨b', o', none⟩) y.length ca5) (L' := #[true, true, true, false, false, false, false, false, false, false, false, false, false, false, false, false, false, false, false, false, false, false, false, false, false, false, false]) (by simp only [List.getElem?_toArray, List.getElem?_cons_succ, List.getElem?_cons_zero]; rfl) rfl (by simp only [Act.put, List.setIfInBounds_toArray, List.set_cons_succ, List.set_cons_zero]; rfl) (by kernel_rfl) (by kernel_rfl) (by kernel_rfl) (by exact fun _ _ _ h => h) (fun _ _ h => h) (.inl ⟨rfl, fun L w' hC hL hS => exec_load_one rfl rfl Tryz.underlying66 rfl hS.1⟩) (closedB (by kernel_rfl)) C0.out C0.out ?_
          refine wpAnyS_take' (i := 3) (v := .int .i64 (j : Int)) (L' := #[true, true, true, true, false, false, false, false, false, false, false, false, false, false, false, false, false, false, false, false, false, false, false, false, false, false, false]) (by simp only [List.getElem?_toArray, List.getElem?_cons_succ, List.getElem?_cons_zero]; rfl) rfl (by simp only [Act.put, List.setIfInBounds_toArray, List.set_cons_succ, List.set_cons_zero]; rfl) (by kernel_rfl) (by kernel_rfl) (by kernel_rfl) (by exact fun _ _ _ h => h) (fun _ _ h => h) (.inl ⟨rfl, fun _ _ _ _ _ => rfl⟩) (closedB (by kernel_rfl)) C0.out C0.out ?_
          refine wpAnyS_take' (i := 4) (v := .pointer (some ⟨b', o' + j * 4, none⟩)) (L' := #[true, true, true, true, true, false, false, false, false, false, false, false, false, false, false, false, false, false, false, false, false, false, false, false, false, false, false]) (by simp only [List.getElem?_toArray, List.getElem?_cons_succ, List.getElem?_cons_zero]; rfl) rfl (by simp only [Act.put, List.setIfInBounds_toArray, List.set_cons_succ, List.set_cons_zero]; rfl) (by kernel_rfl) (by kernel_rfl) (by kernel_rfl) (by exact fun _ _ _ h => h) (fun _ _ h => h) (.inl ⟨rfl, fun L w' hC hL hS => exec_index rfl rfl rfl hjn Tryz.underlying66 Tryz.size167⟩) (closedB (by kernel_rfl)) C0.out C0.out ?_
          refine wpAnyS_take' (i := 5) (v := .pointer (some ⟨b', o' + j * 4, none⟩)) (L' := #[true, true, true, true, true, true, false, false, false, false, false, false, false, false, false, false, false, false, false, false, false, false, false, false, false, false, false]) (by simp only [List.getElem?_toArray, List.getElem?_cons_succ, List.getElem?_cons_zero]; rfl) rfl (by simp only [Act.put, List.setIfInBounds_toArray, List.set_cons_succ, List.set_cons_zero]; rfl) (by kernel_rfl) (by kernel_rfl) (by kernel_rfl) (by exact fun _ _ _ h => h) (fun _ _ h => h) (.inl ⟨rfl, fun _ _ _ _ _ => rfl⟩) (closedB (by kernel_rfl)) C0.out C0.out ?_
          refine wpAnyS_take' (i := 6) (v := .int .i64 (z.1.1.1.2)) (L' := #[true, true, true, true, true, true, true, false, false, false, false, false, false, false, false, false, false, false, false, false, false, false, false, false, false, false, false]) (by simp only [List.getElem?_toArray, List.getElem?_cons_succ, List.getElem?_cons_zero]; rfl) rfl (by simp only [Act.put, List.setIfInBounds_toArray, List.set_cons_succ, List.set_cons_zero]; rfl) (by kernel_rfl) (by kernel_rfl) (by kernel_rfl) (by exact fun _ _ _ h => h) (fun _ _ h => h) (.inl ⟨rfl, fun L w' hC hL hS => exec_load_one rfl rfl Tryz.underlying3 rfl hS.2.1⟩) (closedB (by kernel_rfl)) C0.out C0.out ?_
          refine wpAnyS_take' (i := 7) (v := .pointer (some ⟨w.heap.size, 6, none⟩)) (L' := #[true, true, true, true, true, true, true, true, false, false, false, false, false, false, false, false, false, false, false, false, false, false, false, false, false, false, false]) (by simp only [List.getElem?_toArray, List.getElem?_cons_succ, List.getElem?_cons_zero]; rfl) rfl (by simp only [Act.put, List.setIfInBounds_toArray, List.set_cons_succ, List.set_cons_zero]; rfl) (by kernel_rfl) (by kernel_rfl) (by kernel_rfl) (by exact fun _ _ _ h => h) (fun _ _ h => h) (.inl ⟨rfl, fun _ _ _ _ _ => rfl⟩) (closedB (by kernel_rfl)) C0.out C0.out ?_
          refine wpAnyS_take' (i := 8) (v := .slice (some ⟨b', o', none⟩) y.length ca5) (L' := #[true, true, true, true, true, true, true, true, true, false, false, false, false, false, false, false, false, false, false, false, false, false, false, false, false, false, false]) (by simp only [List.getElem?_toArray, List.getElem?_cons_succ, List.getElem?_cons_zero]; rfl) rfl (by simp only [Act.put, List.setIfInBounds_toArray, List.set_cons_succ, List.set_cons_zero]; rfl) (by kernel_rfl) (by kernel_rfl) (by kernel_rfl) (by exact fun _ _ _ h => h) (fun _ _ h => h) (.inl ⟨rfl, fun L w' hC hL hS => exec_load_one rfl rfl Tryz.underlying66 rfl hS.1⟩) (closedB (by kernel_rfl)) C0.out C0.out ?_
          refine wpAnyS_take' (i := 9) (v := .int .i64 (j : Int)) (L' := #[true, true, true, true, true, true, true, true, true, true, false, false, false, false, false, false, false, false, false, false, false, false, false, false, false, false, false]) (by simp only [List.getElem?_toArray, List.getElem?_cons_succ, List.getElem?_cons_zero]; rfl) rfl (by simp only [Act.put, List.setIfInBounds_toArray, List.set_cons_succ, List.set_cons_zero]; rfl) (by kernel_rfl) (by kernel_rfl) (by kernel_rfl) (by exact fun _ _ _ h => h) (fun _ _ h => h) (.inl ⟨rfl, fun _ _ _ _ _ => rfl⟩) (closedB (by kernel_rfl)) C0.out C0.out ?_
          refine wpAnyS_take' (i := 10) (v := .pointer (some ⟨b', o' + j * 4, none⟩)) (L' := #[true, true, true, true, true, true, true, true, true, true, true, false, false, false, false, false, false, false, false, false, false, false, false, false, false, false, false]) (by simp only [List.getElem?_toArray, List.getElem?_cons_succ, List.getElem?_cons_zero]; rfl) rfl (by simp only [Act.put, List.setIfInBounds_toArray, List.set_cons_succ, List.set_cons_zero]; rfl) (by kernel_rfl) (by kernel_rfl) (by kernel_rfl) (by exact fun _ _ _ h => h) (fun _ _ h => h) (.inl ⟨rfl, fun L w' hC hL hS => exec_index rfl rfl rfl hjn Tryz.underlying66 Tryz.size167⟩) (closedB (by kernel_rfl)) C0.out C0.out ?_
          refine wpAnyS_take' (i := 11) (v := .pointer (some ⟨b', o' + j * 4 + 1, none⟩)) (L' := #[true, true, true, true, true, true, true, true, true, true, true, true, false, false, false, false, false, false, false, false, false, false, false, false, false, false, false]) (by simp only [List.getElem?_toArray, List.getElem?_cons_succ, List.getElem?_cons_zero]; rfl) rfl (by simp only [Act.put, List.setIfInBounds_toArray, List.set_cons_succ, List.set_cons_zero]; rfl) (by kernel_rfl) (by kernel_rfl) (by kernel_rfl) (by exact fun _ _ _ h => h) (fun _ _ h => h) (.inl ⟨rfl, fun _ _ _ _ _ => rfl⟩) (closedB (by kernel_rfl)) C0.out C0.out ?_
          refine wpAnyS_take' (i := 12) (v := .int .i64 (z.1.1.2)) (L' := #[true, true, true, true, true, true, true, true, true, true, true, true, true, false, false, false, false, false, false, false, false, false, false, false, false, false, false]) (by simp only [List.getElem?_toArray, List.getElem?_cons_succ, List.getElem?_cons_zero]; rfl) rfl (by simp only [Act.put, List.setIfInBounds_toArray, List.set_cons_succ, List.set_cons_zero]; rfl) (by kernel_rfl) (by kernel_rfl) (by kernel_rfl) (by exact fun _ _ _ h => h) (fun _ _ h => h) (.inl ⟨rfl, fun L w' hC hL hS => exec_load_one rfl rfl Tryz.underlying3 rfl hS.2.2.1⟩) (closedB (by kernel_rfl)) C0.out C0.out ?_
          refine wpAnyS_take' (i := 13) (v := .pointer (some ⟨w.heap.size, 6, none⟩)) (L' := #[true, true, true, true, true, true, true, true, true, true, true, true, true, true, false, false, false, false, false, false, false, false, false, false, false, false, false]) (by simp only [List.getElem?_toArray, List.getElem?_cons_succ, List.getElem?_cons_zero]; rfl) rfl (by simp only [Act.put, List.setIfInBounds_toArray, List.set_cons_succ, List.set_cons_zero]; rfl) (by kernel_rfl) (by kernel_rfl) (by kernel_rfl) (by exact fun _ _ _ h => h) (fun _ _ h => h) (.inl ⟨rfl, fun _ _ _ _ _ => rfl⟩) (closedB (by kernel_rfl)) C0.out C0.out ?_
          refine wpAnyS_take' (i := 14) (v := .slice (some ⟨b', o', none⟩) y.length ca5) (L' := #[true, true, true, true, true, true, true, true, true, true, true, true, true, true, true, false, false, false, false, false, false, false, false, false, false, false, false]) (by simp only [List.getElem?_toArray, List.getElem?_cons_succ, List.getElem?_cons_zero]; rfl) rfl (by simp only [Act.put, List.setIfInBounds_toArray, List.set_cons_succ, List.set_cons_zero]; rfl) (by kernel_rfl) (by kernel_rfl) (by kernel_rfl) (by exact fun _ _ _ h => h) (fun _ _ h => h) (.inl ⟨rfl, fun L w' hC hL hS => exec_load_one rfl rfl Tryz.underlying66 rfl hS.1⟩) (closedB (by kernel_rfl)) C0.out C0.out ?_
          refine wpAnyS_take' (i := 15) (v := .int .i64 (j : Int)) (L' := #[true, true, true, true, true, true, true, true, true, true, true, true, true, true, true, true, false, false, false, false, false, false, false, false, false, false, false]) (by simp only [List.getElem?_toArray, List.getElem?_cons_succ, List.getElem?_cons_zero]; rfl) rfl (by simp only [Act.put, List.setIfInBounds_toArray, List.set_cons_succ, List.set_cons_zero]; rfl) (by kernel_rfl) (by kernel_rfl) (by kernel_rfl) (by exact fun _ _ _ h => h) (fun _ _ h => h) (.inl ⟨rfl, fun _ _ _ _ _ => rfl⟩) (closedB (by kernel_rfl)) C0.out C0.out ?_
          refine wpAnyS_take' (i := 16) (v := .pointer (some ⟨b', o' + j * 4, none⟩)) (L' := #[true, true, true, true, true, true, true, true, true, true, true, true, true, true, true, true, true, false, false, false, false, false, false, false, false, false, false]) (by simp only [List.getElem?_toArray, List.getElem?_cons_succ, List.getElem?_cons_zero]; rfl) rfl (by simp only [Act.put, List.setIfInBounds_toArray, List.set_cons_succ, List.set_cons_zero]; rfl) (by kernel_rfl) (by kernel_rfl) (by kernel_rfl) (by exact fun _ _ _ h => h) (fun _ _ h => h) (.inl ⟨rfl, fun L w' hC hL hS => exec_index rfl rfl rfl hjn Tryz.underlying66 Tryz.size167⟩) (closedB (by kernel_rfl)) C0.out C0.out ?_
          refine wpAnyS_take' (i := 17) (v := .pointer (some ⟨b', o' + j * 4 + 2, none⟩)) (L' := #[true, true, true, true, true, true, true, true, true, true, true, true, true, true, true, true, true, true, false, false, false, false, false, false, false, false, false]) (by simp only [List.getElem?_toArray, List.getElem?_cons_succ, List.getElem?_cons_zero]; rfl) rfl (by simp only [Act.put, List.setIfInBounds_toArray, List.set_cons_succ, List.set_cons_zero]; rfl) (by kernel_rfl) (by kernel_rfl) (by kernel_rfl) (by exact fun _ _ _ h => h) (fun _ _ h => h) (.inl ⟨rfl, fun _ _ _ _ _ => rfl⟩) (closedB (by kernel_rfl)) C0.out C0.out ?_
          refine wpAnyS_take' (i := 18) (v := .int .i64 (z.1.2)) (L' := #[true, true, true, true, true, true, true, true, true, true, true, true, true, true, true, true, true, true, true, false, false, false, false, false, false, false, false]) (by simp only [List.getElem?_toArray, List.getElem?_cons_succ, List.getElem?_cons_zero]; rfl) rfl (by simp only [Act.put, List.setIfInBounds_toArray, List.set_cons_succ, List.set_cons_zero]; rfl) (by kernel_rfl) (by kernel_rfl) (by kernel_rfl) (by exact fun _ _ _ h => h) (fun _ _ h => h) (.inl ⟨rfl, fun L w' hC hL hS => exec_load_one rfl rfl Tryz.underlying3 rfl hS.2.2.2.1⟩) (closedB (by kernel_rfl)) C0.out C0.out ?_
          refine wpAnyS_take' (i := 19) (v := .pointer (some ⟨w.heap.size, 6, none⟩)) (L' := #[true, true, true, true, true, true, true, true, true, true, true, true, true, true, true, true, true, true, true, true, false, false, false, false, false, false, false]) (by simp only [List.getElem?_toArray, List.getElem?_cons_succ, List.getElem?_cons_zero]; rfl) rfl (by simp only [Act.put, List.setIfInBounds_toArray, List.set_cons_succ, List.set_cons_zero]; rfl) (by kernel_rfl) (by kernel_rfl) (by kernel_rfl) (by exact fun _ _ _ h => h) (fun _ _ h => h) (.inl ⟨rfl, fun _ _ _ _ _ => rfl⟩) (closedB (by kernel_rfl)) C0.out C0.out ?_
          refine wpAnyS_take' (i := 20) (v := .slice (some ⟨b', o', none⟩) y.length ca5) (L' := #[true, true, true, true, true, true, true, true, true, true, true, true, true, true, true, true, true, true, true, true, true, false, false, false, false, false, false]) (by simp only [List.getElem?_toArray, List.getElem?_cons_succ, List.getElem?_cons_zero]; rfl) rfl (by simp only [Act.put, List.setIfInBounds_toArray, List.set_cons_succ, List.set_cons_zero]; rfl) (by kernel_rfl) (by kernel_rfl) (by kernel_rfl) (by exact fun _ _ _ h => h) (fun _ _ h => h) (.inl ⟨rfl, fun L w' hC hL hS => exec_load_one rfl rfl Tryz.underlying66 rfl hS.1⟩) (closedB (by kernel_rfl)) C0.out C0.out ?_
          refine wpAnyS_take' (i := 21) (v := .int .i64 (j : Int)) (L' := #[true, true, true, true, true, true, true, true, true, true, true, true, true, true, true, true, true, true, true, true, true, true, false, false, false, false, false]) (by simp only [List.getElem?_toArray, List.getElem?_cons_succ, List.getElem?_cons_zero]; rfl) rfl (by simp only [Act.put, List.setIfInBounds_toArray, List.set_cons_succ, List.set_cons_zero]; rfl) (by kernel_rfl) (by kernel_rfl) (by kernel_rfl) (by exact fun _ _ _ h => h) (fun _ _ h => h) (.inl ⟨rfl, fun _ _ _ _ _ => rfl⟩) (closedB (by kernel_rfl)) C0.out C0.out ?_
          refine wpAnyS_take' (i := 22) (v := .pointer (some ⟨b', o' + j * 4, none⟩)) (L' := #[true, true, true, true, true, true, true, true, true, true, true, true, true, true, true, true, true, true, true, true, true, true, true, false, false, false, false]) (by simp only [List.getElem?_toArray, List.getElem?_cons_succ, List.getElem?_cons_zero]; rfl) rfl (by simp only [Act.put, List.setIfInBounds_toArray, List.set_cons_succ, List.set_cons_zero]; rfl) (by kernel_rfl) (by kernel_rfl) (by kernel_rfl) (by exact fun _ _ _ h => h) (fun _ _ h => h) (.inl ⟨rfl, fun L w' hC hL hS => exec_index rfl rfl rfl hjn Tryz.underlying66 Tryz.size167⟩) (closedB (by kernel_rfl)) C0.out C0.out ?_
          refine wpAnyS_take' (i := 23) (v := .pointer (some ⟨b', o' + j * 4 + 3, none⟩)) (L' := #[true, true, true, true, true, true, true, true, true, true, true, true, true, true, true, true, true, true, true, true, true, true, true, true, false, false, false]) (by simp only [List.getElem?_toArray, List.getElem?_cons_succ, List.getElem?_cons_zero]; rfl) rfl (by simp only [Act.put, List.setIfInBounds_toArray, List.set_cons_succ, List.set_cons_zero]; rfl) (by kernel_rfl) (by kernel_rfl) (by kernel_rfl) (by exact fun _ _ _ h => h) (fun _ _ h => h) (.inl ⟨rfl, fun _ _ _ _ _ => rfl⟩) (closedB (by kernel_rfl)) C0.out C0.out ?_
          refine wpAnyS_take' (i := 24) (v := .int .i64 (z.2)) (L' := #[true, true, true, true, true, true, true, true, true, true, true, true, true, true, true, true, true, true, true, true, true, true, true, true, true, false, false]) (by simp only [List.getElem?_toArray, List.getElem?_cons_succ, List.getElem?_cons_zero]; rfl) rfl (by simp only [Act.put, List.setIfInBounds_toArray, List.set_cons_succ, List.set_cons_zero]; rfl) (by kernel_rfl) (by kernel_rfl) (by kernel_rfl) (by exact fun _ _ _ h => h) (fun _ _ h => h) (.inl ⟨rfl, fun L w' hC hL hS => exec_load_one rfl rfl Tryz.underlying3 rfl hS.2.2.2.2⟩) (closedB (by kernel_rfl)) C0.out C0.out ?_
          refine wpAnyS_one (i := 25) (L' := #[true, true, true, true, true, true, true, true, true, true, true, true, true, true, true, true, true, true, true, true, true, true, true, true, true, true, false]) (by kernel_rfl) rfl (by simp only [List.getElem?_toArray, List.getElem?_cons_succ, List.getElem?_cons_zero]; rfl) ?_
          go_wp2_with fail
          have hup : Upd (fun _ _ => False) wr (wr.alloc (.cells #[.int .i64 (z.1.1.1.2), .int .i64 (z.1.1.2), .int .i64 (z.1.2), .int .i64 (z.2)] 3)) := (Upd.refl _ wr).alloc _
          refine ⟨(hup.cell _ _ (World.block_lt_of_cell? wr _ cd) (fun h => h)).trans cd, ?_⟩
          refine wpAnyS_one (i := 26) (L' := #[true, true, true, true, true, true, true, true, true, true, true, true, true, true, true, true, true, true, true, true, true, true, true, true, true, true, true]) (by kernel_rfl) rfl (by simp only [List.getElem?_toArray, List.getElem?_cons_succ, List.getElem?_cons_zero]; rfl) ?_
          go_wp2_with fail
          refine (out_nums16d (n := 4) (F := F) (x := z) HW.out (by first | rfl | simp) rfl (by omega)).mono ?_
          rintro e wz ⟨rfl, vz, p⟩
          have RZ := Lib.hid p
          have cd2 := HSy.out.cell (Y5.out.next (HP.out.trans p)).at_
          have AZ := atRow p HAt.out hn1 HN2.out
          have ck0 : wz.cell? ⟨b', o' + j * 4, none⟩ = some (.int .i64 (z.1.1.1.2)) := (Sf0.at AZ).head
          have ck1 : wz.cell? ⟨b', o' + j * 4 + 1, none⟩ = some (.int .i64 (z.1.1.2)) := (Sf1.at AZ).head
          have ck2 : wz.cell? ⟨b', o' + j * 4 + 2, none⟩ = some (.int .i64 (z.1.2)) := (Sf2.at AZ).head
          have ck3 : wz.cell? ⟨b', o' + j * 4 + 3, none⟩ = some (.int .i64 (z.2)) := (Sf3.at AZ).head
          clear p AZ
          go_wp2_with fail
          refine ⟨⟨cd2, ck0, ck1, ck2, ck3⟩, wpAnyS_done (by kernel_rfl) ?_ _⟩
          refine hK _ _ ?_
          clear hK
          go_wp2_with fail
          go_roundw
          case rel => exact ⟨j + 1, _, by omega, by go_num, by rw [encJ_succ _ _ hjn, ← hz.out]; exact HP.out.trans RZ.out⟩
          case measure => simp [intOf]; omega
        · clear hp
          have hjy : j = y.length := by omega
          subst hjy
          obtain ⟨w9, hwr⟩ : ∃ w', w' = wr := ⟨_, rfl⟩
          obtain ⟨v9, hvr⟩ : ∃ v', v' = va := ⟨_, rfl⟩
          have RL6 : Hid (Wr 1 5 base w7 w9 bf v7 _ (enc (.list schEval) (x.1.1.2)) v9) := Lib.hid (by rw [hwr, hvr, ← hy.out, ← encJ_all]; exact HP.out)
          clear cd HP
          rw [← hwr]
          clear hwr hvr
          have P6 := Lib.hid (Wr.both P5.out RL6.out)
          have Y6 := Lib.hid (X0.out.next P6.out)
          have cc3_6 := HSy.out.cell Y6.out.at_
          have G7 := Lib.hid (VaH.next H.out.first P6.out)
          have LG7 := Lib.hid (H.out.lay P6.out L6.out)
          have cc := HSa6.out.cell Y6.out.at_
          have h64 := (okay_list G7.out.okay).1
          have hlen := G7.out.len
          simp only [bnd] at hlen
          go_wp2_with fail
          refine (out_count (n := (x.1.2).length) G7.out.form h64 (by omega)).mono ?_
          rintro e w10 ⟨rfl, v10, p⟩
          have R7 : Hid (Wr 1 5 base w9 w10 bf v9 _ (encJ schDeploy (x.1.2) 0) v10) := Lib.hid (by rw [encJ_zero]; exact p)
          have cc2 := HSa6.out.cell (Y6.out.next p).at_
          clear p cc hlen
          obtain ⟨y, hy⟩ : ∃ y : List (Ty schDeploy), Hid (y = x.1.2) := ⟨_, Lib.hid rfl⟩
          rw [← hy.out] at G7 LG7 R7 cc2 h64
          have HSy := Lib.hid (by have := HSa6.out; rw [← hy.out] at this; exact this)
          rw [← hy.out]
          go_wp2_with fail
          go_loopw [6] (fun i wr => ∃ (j : Nat) (v' : Value), j ≤ y.length ∧ i = .int .i64 j ∧ Wr 1 5 base w9 wr bf v9 _ (encJ schDeploy y j) v') (fun i _ => y.length - (intOf i).toNat)
          case atStart => exact ⟨0, v10, by omega, rfl, R7.out⟩
          case round =>
            obtain ⟨j, va, hj, rfl, hp⟩ := hrel
            have HP := Lib.hid hp
            have cd := HSy.out.cell (Y6.out.next hp).at_
            by_cases hjn : j < y.length
            · obtain ⟨b', o', ws, hA, hws, hat, hn1, hn2, hn3, hLw, hW⟩ := G7.out.itemAt LG7.out hjn hp
              subst hA
              obtain ⟨z, hz⟩ : ∃ z : Ty schDeploy, Hid (z = y[j]) := ⟨_, Lib.hid rfl⟩
              rw [← hz.out] at hLw hW
              have HW := Lib.hid hW
              have HAt := Lib.hid hat
              have HN2 := Lib.hid hn2
              have hwl : ws.length = 4 := hws
              obtain ⟨qf3, uf3, hqf3, hf3, tf3, sf3⟩ := Lay.split hLw
              have Sf3 : Sub ws 3 uf3 := Sub.trans (o := 0) (Sub.self ws) sf3
              have Tf3 : Sub ws 0 qf3 := Sub.trans (o := 0) (Sub.self ws) tf3
              obtain rfl := Lay.num hf3
              obtain ⟨qf2, uf2, hqf2, hf2, tf2, sf2⟩ := Lay.split hqf3
              have Sf2 : Sub ws 2 uf2 := Sub.trans (o := 0) Tf3 sf2
              have Tf2 : Sub ws 0 qf2 := Sub.trans (o := 0) Tf3 tf2
              obtain rfl := Lay.num hf2
              obtain ⟨qf1, uf1, hqf1, hf1, tf1, sf1⟩ := Lay.split hqf2
              have Sf1 : Sub ws 1 uf1 := Sub.trans (o := 0) Tf2 sf1
              have Tf1 : Sub ws 0 qf1 := Sub.trans (o := 0) Tf2 tf1
              obtain rfl := Lay.num hf1
              obtain ⟨qf0, uf0, hqf0, hf0, tf0, sf0⟩ := Lay.split hqf1
              have Sf0 : Sub ws 0 uf0 := Sub.trans (o := 0) Tf1 sf0
              have Tf0 : Sub ws 0 qf0 := Sub.trans (o := 0) Tf1 tf0
              obtain rfl := Lay.num hf0
              have ce0 : wr.cell? ⟨b', o' + j * 4, none⟩ = some (.int .i64 z.1.1.1.2) := (Sf0.at hat).head
              have ce1 : wr.cell? ⟨b', o' + j * 4 + 1, none⟩ = some (.int .i64 z.1.1.2) := (Sf1.at hat).head
              have ce2 : wr.cell? ⟨b', o' + j * 4 + 2, none⟩ = some (.int .i64 z.1.2) := (Sf2.at hat).head
              have ce3 : wr.cell? ⟨b', o' + j * 4 + 3, none⟩ = some (.int .i64 z.2) := (Sf3.at hat).head
              clear hp hat hLw hW hn2
              go_wp2_with fail
              rename_i hK
              refine wp_region_S (fun _ w' => w'.cell? ⟨w.heap.size, 7, none⟩ = some (.slice (some ⟨b', o', none⟩) y.length ca6) ∧ w'.cell? ⟨b', o' + j * 4, none⟩ = some (.int .i64 (z.1.1.1.2)) ∧ w'.cell? ⟨b', o' + j * 4 + 1, none⟩ = some (.int .i64 (z.1.1.2)) ∧ w'.cell? ⟨b', o' + j * 4 + 2, none⟩ = some (.int .i64 (z.1.2)) ∧ w'.cell? ⟨b', o' + j * 4 + 3, none⟩ = some (.int .i64 (z.2))) (n := 27) (L := #[false, false, false, false, false, false, false, false, false, false, false, false, false, false, false, false, false, false, false, false, false, false, false, false, false, false, false]) (by kernel_rfl) rfl rfl ?_
              have C0 : Hid (wr.drew.cell? ⟨w.heap.size, 7, none⟩ = some (.slice (some ⟨b', o', none⟩) y.length ca6) ∧ wr.drew.cell? ⟨b', o' + j * 4, none⟩ = some (.int .i64 (z.1.1.1.2)) ∧ wr.drew.cell? ⟨b', o' + j * 4 + 1, none⟩ = some (.int .i64 (z.1.1.2)) ∧ wr.drew.cell? ⟨b', o' + j * 4 + 2, none⟩ = some (.int .i64 (z.1.2)) ∧ wr.drew.cell? ⟨b', o' + j * 4 + 3, none⟩ = some (.int .i64 (z.2))) := Lib.hid ⟨cd, ce0, ce1, ce2, ce3⟩
              refine wpAnyS_take' (i := 0) (v := .pointer (some ⟨bf, 0, none⟩)) (L' := #[true, false, false, false, false, false, false, false, false, false, false, false, false, false, false, false, false, false, false, false, false, false, false, false, false, false, false]) (by simp only [List.getElem?_toArray, List.getElem?_cons_succ, List.getElem?_cons_zero]; rfl) rfl (by simp only [Act.put, List.setIfInBounds_toArray, List.set_cons_succ, List.set_cons_zero]; rfl) (by kernel_rfl) (by kernel_rfl) (by kernel_rfl) (by exact fun _ _ _ h => h) (fun _ _ h => h) (.inl ⟨rfl, fun _ _ _ _ _ => rfl⟩) (closedB (by kernel_rfl)) C0.out C0.out ?_
              refine wpAnyS_take' (i := 1) (v := .pointer (some ⟨w.heap.size, 7, none⟩)) (L' := #[true, true, false, false, false, false, false, false, false, false, false, false, false, false, false, false, false, false, false, false, false, false, false, false, false, false, false]) (by simp only [List.getElem?_toArray, List.getElem?_cons_succ, List.getElem?_cons_zero]; rfl) rfl (by simp only [Act.put, List.setIfInBounds_toArray, List.set_cons_succ, List.set_cons_zero]; rfl) (by kernel_rfl) (by kernel_rfl) (by kernel_rfl) (by exact fun _ _ _ h => h) (fun _ _ h => h) (.inl ⟨rfl, fun _ _ _ _ _ => rfl⟩) (closedB (by kernel_rfl)) C0.out C0.out ?_
              refine wpAnyS_take' (i := 2) (v := .slice (some ⟨b', o', none⟩) y.length ca6) (L' := #[true, true, true, false, false, false, false, false, false, false, false, false, false, false, false, false, false, false, false, false, false, false, false, false, false, false, false]) (by simp only [List.getElem?_toArray, List.getElem?_cons_succ, List.getElem?_cons_zero]; rfl) rfl (by simp only [Act.put, List.setIfInBounds_toArray, List.set_cons_succ, List.set_cons_zero]; rfl) (by kernel_rfl) (by kernel_rfl) (by kernel_rfl) (by exact fun _ _ _ h => h) (fun _ _ h => h) (.inl ⟨rfl, fun L w' hC hL hS => exec_load_one rfl rfl Tryz.underlying67 rfl hS.1⟩) (closedB (by kernel_rfl)) C0.out C0.out ?_
              refine wpAnyS_take' (i := 3) (v := .int .i64 (j : Int)) (L' := #[true, true, true, true, false, false, false, false, false, false, false, false, false, false, false, false, false, false, false, false, false, false, false, false, false, false, false]) (by simp only [List.getElem?_toArray, List.getElem?_cons_succ, List.getElem?_cons_zero]; rfl) rfl (by simp only [Act.put, List.setIfInBounds_toArray, List.set_cons_succ, List.set_cons_zero]; rfl) (by kernel_rfl) (by kernel_rfl) (by kernel_rfl) (by exact fun _ _ _ h => h) (fun _ _ h => h) (.inl ⟨rfl, fun _ _ _ _ _ => rfl⟩) (closedB (by kernel_rfl)) C0.out C0.out ?_
              refine wpAnyS_take' (i := 4) (v := .pointer (some ⟨b', o' + j * 4, none⟩)) (L' := #[true, true, true, true, true, false, false, false, false, false, false, false, false, false, false, false, false, false, false, false, false, false, false, false, false, false, false]) (by simp only [List.getElem?_toArray, List.getElem?_cons_succ, List.getElem?_cons_zero]; rfl) rfl (by simp only [Act.put, List.setIfInBounds_toArray, List.set_cons_succ, List.set_cons_zero]; rfl) (by kernel_rfl) (by kernel_rfl) (by kernel_rfl) (by exact fun _ _ _ h => h) (fun _ _ h => h) (.inl ⟨rfl, fun L w' hC hL hS => exec_index rfl rfl rfl hjn Tryz.underlying67 Tryz.size172⟩) (closedB (by kernel_rfl)) C0.out C0.out ?_
              refine wpAnyS_take' (i := 5) (v := .pointer (some ⟨b', o' + j * 4, none⟩)) (L' := #[true, true, true, true, true, true, false, false, false, false, false, false, false, false, false, false, false, false, false, false, false, false, false, false, false, false, false]) (by simp only [List.getElem?_toArray, List.getElem?_cons_succ, List.getElem?_cons_zero]; rfl) rfl (by simp only [Act.put, List.setIfInBounds_toArray, List.set_cons_succ, List.set_cons_zero]; rfl) (by kernel_rfl) (by kernel_rfl) (by kernel_rfl) (by exact fun _ _ _ h => h) (fun _ _ h => h) (.inl ⟨rfl, fun _ _ _ _ _ => rfl⟩) (closedB (by kernel_rfl)) C0.out C0.out ?_
              refine wpAnyS_take' (i := 6) (v := .int .i64 (z.1.1.1.2)) (L' := #[true, true, true, true, true, true, true, false, false, false, false, false, false, false, false, false, false, false, false, false, false, false, false, false, false, false, false]) (by simp only [List.getElem?_toArray, List.getElem?_cons_succ, List.getElem?_cons_zero]; rfl) rfl (by simp only [Act.put, List.setIfInBounds_toArray, List.set_cons_succ, List.set_cons_zero]; rfl) (by kernel_rfl) (by kernel_rfl) (by kernel_rfl) (by exact fun _ _ _ h => h) (fun _ _ h => h) (.inl ⟨rfl, fun L w' hC hL hS => exec_load_one rfl rfl Tryz.underlying3 rfl hS.2.1⟩) (closedB (by kernel_rfl)) C0.out C0.out ?_
              refine wpAnyS_take' (i := 7) (v := .pointer (some ⟨w.heap.size, 7, none⟩)) (L' := #[true, true, true, true, true, true, true, true, false, false, false, false, false, false, false, false, false, false, false, false, false, false, false, false, false, false, false]) (by simp only [List.getElem?_toArray, List.getElem?_cons_succ, List.getElem?_cons_zero]; rfl) rfl (by simp only [Act.put, List.setIfInBounds_toArray, List.set_cons_succ, List.set_cons_zero]; rfl) (by kernel_rfl) (by kernel_rfl) (by kernel_rfl) (by exact fun _ _ _ h => h) (fun _ _ h => h) (.inl ⟨rfl, fun _ _ _ _ _ => rfl⟩) (closedB (by kernel_rfl)) C0.out C0.out ?_
              refine wpAnyS_take' (i := 8) (v := .slice (some ⟨b', o', none⟩) y.length ca6) (L' := #[true, true, true, true, true, true, true, true, true, false, false, false, false, false, false, false, false, false, false, false, false, false, false, false, false, false, false]) (by simp only [List.getElem?_toArray, List.getElem?_cons_succ, List.getElem?_cons_zero]; rfl) rfl (by simp only [Act.put, List.setIfInBounds_toArray, List.set_cons_succ, List.set_cons_zero]; rfl) (by kernel_rfl) (by kernel_rfl) (by kernel_rfl) (by exact fun _ _ _ h => h) (fun _ _ h => h) (.inl ⟨rfl, fun L w' hC hL hS => exec_load_one rfl rfl Tryz.underlying67 rfl hS.1⟩) (closedB (by kernel_rfl)) C0.out C0.out ?_
              refine wpAnyS_take' (i := 9) (v := .int .i64 (j : Int)) (L' := #[true, true, true, true, true, true, true, true, true, true, false, false, false, false, false, false, false, false, false, false, false, false, false, false, false, false, false]) (by simp only [List.getElem?_toArray, List.getElem?_cons_succ, List.getElem?_cons_zero]; rfl) rfl (by simp only [Act.put, List.setIfInBounds_toArray, List.set_cons_succ, List.set_cons_zero]; rfl) (by kernel_rfl) (by kernel_rfl) (by kernel_rfl) (by exact fun _ _ _ h => h) (fun _ _ h => h) (.inl ⟨rfl, fun _ _ _ _ _ => rfl⟩) (closedB (by kernel_rfl)) C0.out C0.out ?_
              refine wpAnyS_take' (i := 10) (v := .pointer (some ⟨b', o' + j * 4, none⟩)) (L' := #[true, true, true, true, true, true, true, true, true, true, true, false, false, false, false, false, false, false, false, false, false, false, false, false, false, false, false]) (by simp only [List.getElem?_toArray, List.getElem?_cons_succ, List.getElem?_cons_zero]; rfl) rfl (by simp only [Act.put, List.setIfInBounds_toArray, List.set_cons_succ, List.set_cons_zero]; rfl) (by kernel_rfl) (by kernel_rfl) (by kernel_rfl) (by exact fun _ _ _ h => h) (fun _ _ h => h) (.inl ⟨rfl, fun L w' hC hL hS => exec_index rfl rfl rfl hjn Tryz.underlying67 Tryz.size172⟩) (closedB (by kernel_rfl)) C0.out C0.out ?_
              refine wpAnyS_take' (i := 11) (v := .pointer (some ⟨b', o' + j * 4 + 1, none⟩)) (L' := #[true, true, true, true, true, true, true, true, true, true, true, true, false, false, false, false, false, false, false, false, false, false, false, false, false, false, false]) (by simp only [List.getElem?_toArray, List.getElem?_cons_succ, List.getElem?_cons_zero]; rfl) rfl (by simp only [Act.put, List.setIfInBounds_toArray, List.set_cons_succ, List.set_cons_zero]; rfl) (by kernel_rfl) (by kernel_rfl) (by kernel_rfl) (by exact fun _ _ _ h => h) (fun _ _ h => h) (.inl ⟨rfl, fun _ _ _ _ _ => rfl⟩) (closedB (by kernel_rfl)) C0.out C0.out ?_
              refine wpAnyS_take' (i := 12) (v := .int .i64 (z.1.1.2)) (L' := #[true, true, true, true, true, true, true, true, true, true, true, true, true, false, false, false, false, false, false, false, false, false, false, false, false, false, false]) (by simp only [List.getElem?_toArray, List.getElem?_cons_succ, List.getElem?_cons_zero]; rfl) rfl (by simp only [Act.put, List.setIfInBounds_toArray, List.set_cons_succ, List.set_cons_zero]; rfl) (by kernel_rfl) (by kernel_rfl) (by kernel_rfl) (by exact fun _ _ _ h => h) (fun _ _ h => h) (.inl ⟨rfl, fun L w' hC hL hS => exec_load_one rfl rfl Tryz.underlying3 rfl hS.2.2.1⟩) (closedB (by kernel_rfl)) C0.out C0.out ?_
              refine wpAnyS_take' (i := 13) (v := .pointer (some ⟨w.heap.size, 7, none⟩)) (L' := #[true, true, true, true, true, true, true, true, true, true, true, true, true, true, false, false, false, false, false, false, false, false, false, false, false, false, false]) (by simp only [List.getElem?_toArray, List.getElem?_cons_succ, List.getElem?_cons_zero]; rfl) rfl (by simp only [Act.put, List.setIfInBounds_toArray, List.set_cons_succ, List.set_cons_zero]; rfl) (by kernel_rfl) (by kernel_rfl) (by kernel_rfl) (by exact fun _ _ _ h => h) (fun _ _ h => h) (.inl ⟨rfl, fun _ _ _ _ _ => rfl⟩) (closedB (by kernel_rfl)) C0.out C0.out ?_
              refine wpAnyS_take' (i := 14) (v := .slice (some ⟨b', o', none⟩) y.length ca6) (L' := #[true, true, true, true, true, true, true, true, true, true, true, true, true, true, true, false, false, false, false, false, false, false, false, false, false, false, false]) (by simp only [List.getElem?_toArray, List.getElem?_cons_succ, List.getElem?_cons_zero]; rfl) rfl (by simp only [Act.put, List.setIfInBounds_toArray, List.set_cons_succ, List.set_cons_zero]; rfl) (by kernel_rfl) (by kernel_rfl) (by kernel_rfl) (by exact fun _ _ _ h => h) (fun _ _ h => h) (.inl ⟨rfl, fun L w' hC hL hS => exec_load_one rfl rfl Tryz.underlying67 rfl hS.1⟩) (closedB (by kernel_rfl)) C0.out C0.out ?_
              refine wpAnyS_take' (i := 15) (v := .int .i64 (j : Int)) (L' := #[true, true, true, true, true, true, true, true, true, true, true, true, true, true, true, true, false, false, false, false, false, false, false, false, false, false, false]) (by simp only [List.getElem?_toArray, List.getElem?_cons_succ, List.getElem?_cons_zero]; rfl) rfl (by simp only [Act.put, List.setIfInBounds_toArray, List.set_cons_succ, List.set_cons_zero]; rfl) (by kernel_rfl) (by kernel_rfl) (by kernel_rfl) (by exact fun _ _ _ h => h) (fun _ _ h => h) (.inl ⟨rfl, fun _ _ _ _ _ => rfl⟩) (closedB (by kernel_rfl)) C0.out C0.out ?_
              refine wpAnyS_take' (i := 16) (v := .pointer (some ⟨b', o' + j * 4, none⟩)) (L' := #[true, true, true, true, true, true, true, true, true, true, true, true, true, true, true, true, true, false, false, false, false, false, false, false, false, false, false]) (by simp only [List.getElem?_toArray, List.getElem?_cons_succ, List.getElem?_cons_zero]; rfl) rfl (by simp only [Act.put, List.setIfInBounds_toArray, List.set_cons_succ, List.set_cons_zero]; rfl) (by kernel_rfl) (by kernel_rfl) (by kernel_rfl) (by exact fun _ _ _ h => h) (fun _ _ h => h) (.inl ⟨rfl, fun L w' hC hL hS => exec_index rfl rfl rfl hjn Tryz.underlying67 Tryz.size172⟩) (closedB (by kernel_rfl)) C0.out C0.out ?_
              refine wpAnyS_take' (i := 17) (v := .pointer (some ⟨b', o' + j * 4 + 2, none⟩)) (L' := #[true, true, true, true, true, true, true, true, true, true, true, true, true, true, true, true, true, true, false, false, false, false, false, false, false, false, false]) (by simp only [List.getElem?_toArray, List.getElem?_cons_succ, List.getElem?_cons_zero]; rfl) rfl (by simp only [Act.put, List.setIfInBounds_toArray, List.set_cons_succ, List.set_cons_zero]; rfl) (by kernel_rfl) (by kernel_rfl) (by kernel_rfl) (by exact fun _ _ _ h => h) (fun _ _ h => h) (.inl ⟨rfl, fun _ _ _ _ _ => rfl⟩) (closedB (by kernel_rfl)) C0.out C0.out ?_
              refine wpAnyS_take' (i := 18) (v := .int .i64 (z.1.2)) (L' := #[true, true, true, true, true, true, true, true, true, true, true, true, true, true, true, true, true, true, true, false, false, false, false, false, false, false, false]) (by simp only [List.getElem?_toArray, List.getElem?_cons_succ, List.getElem?_cons_zero]; rfl) rfl (by simp only [Act.put, List.setIfInBounds_toArray, List.set_cons_succ, List.set_cons_zero]; rfl) (by kernel_rfl) (by kernel_rfl) (by kernel_rfl) (by exact fun _ _ _ h => h) (fun _ _ h => h) (.inl ⟨rfl, fun L w' hC hL hS => exec_load_one rfl rfl Tryz.underlying3 rfl hS.2.2.2.1⟩) (closedB (by kernel_rfl)) C0.out C0.out ?_
              refine wpAnyS_take' (i := 19) (v := .pointer (some ⟨w.heap.size, 7, none⟩)) (L' := #[true, true, true, true, true, true, true, true, true, true, true, true, true, true, true, true, true, true, true, true, false, false, false, false, false, false, false]) (by simp only [List.getElem?_toArray, List.getElem?_cons_succ, List.getElem?_cons_zero]; rfl) rfl (by simp only [Act.put, List.setIfInBounds_toArray, List.set_cons_succ, List.set_cons_zero]; rfl) (by kernel_rfl) (by kernel_rfl) (by kernel_rfl) (by exact fun _ _ _ h => h) (fun _ _ h => h) (.inl ⟨rfl, fun _ _ _ _ _ => rfl⟩) (closedB (by kernel_rfl)) C0.out C0.out ?_
              refine wpAnyS_take' (i := 20) (v := .slice (some ⟨b', o', none⟩) y.length ca6) (L' := #[true, true, true, true, true, true, true, true, true, true, true, true, true, true, true, true, true, true, true, true, true, false, false, false, false, false, false]) (by simp only [List.getElem?_toArray, List.getElem?_cons_succ, List.getElem?_cons_zero]; rfl) rfl (by simp only [Act.put, List.setIfInBounds_toArray, List.set_cons_succ, List.set_cons_zero]; rfl) (by kernel_rfl) (by kernel_rfl) (by kernel_rfl) (by exact fun _ _ _ h => h) (fun _ _ h => h) (.inl ⟨rfl, fun L w' hC hL hS => exec_load_one rfl rfl Tryz.underlying67 rfl hS.1⟩) (closedB (by kernel_rfl)) C0.out C0.out ?_
              refine wpAnyS_take' (i := 21) (v := .int .i64 (j : Int)) (L' := #[true, true, true, true, true, true, true, true, true, true, true, true, true, true, true, true, true, true, true, true, true, true, false, false, false, false, false]) (by simp only [List.getElem?_toArray, List.getElem?_cons_succ, List.getElem?_cons_zero]; rfl) rfl (by simp only [Act.put, List.setIfInBounds_toArray, List.set_cons_succ, List.set_cons_zero]; rfl) (by kernel_rfl) (by kernel_rfl) (by kernel_rfl) (by exact fun _ _ _ h => h) (fun _ _ h => h) (.inl ⟨rfl, fun _ _ _ _ _ => rfl⟩) (closedB (by kernel_rfl)) C0.out C0.out ?_
              refine wpAnyS_take' (i := 22) (v := .pointer (some ⟨b', o' + j * 4, none⟩)) (L' := #[true, true, true, true, true, true, true, true, true, true, true, true, true, true, true, true, true, true, true, true, true, true, true, false, false, false, false]) (by simp only [List.getElem?_toArray, List.getElem?_cons_succ, List.getElem?_cons_zero]; rfl) rfl (by simp only [Act.put, List.setIfInBounds_toArray, List.set_cons_succ, List.set_cons_zero]; rfl) (by kernel_rfl) (by kernel_rfl) (by kernel_rfl) (by exact fun _ _ _ h => h) (fun _ _ h => h) (.inl ⟨rfl, fun L w' hC hL hS => exec_index rfl rfl rfl hjn Tryz.underlying67 Tryz.size172⟩) (closedB (by kernel_rfl)) C0.out C0.out ?_
              refine wpAnyS_take' (i := 23) (v := .pointer (some ⟨b', o' + j * 4 + 3, none⟩)) (L' := #[true, true, true, true, true, true, true, true, true, true, true, true, true, true, true, true, true, true, true, true, true, true, true, true, false, false, false]) (by simp only [List.getElem?_toArray, List.getElem?_cons_succ, List.getElem?_cons_zero]; rfl) rfl (by simp only [Act.put, List.setIfInBounds_toArray, List.set_cons_succ, List.set_cons_zero]; rfl) (by kernel_rfl) (by kernel_rfl) (by kernel_rfl) (by exact fun _ _ _ h => h) (fun _ _ h => h) (.inl ⟨rfl, fun _ _ _ _ _ => rfl⟩) (closedB (by kernel_rfl)) C0.out C0.out ?_
              refine wpAnyS_take' (i := 24) (v := .int .i64 (z.2)) (L' := #[true, true, true, true, true, true, true, true, true, true, true, true, true, true, true, true, true, true, true, true, true, true, true, true, true, false, false]) (by simp only [List.getElem?_toArray, List.getElem?_cons_succ, List.getElem?_cons_zero]; rfl) rfl (by simp only [Act.put, List.setIfInBounds_toArray, List.set_cons_succ, List.set_cons_zero]; rfl) (by kernel_rfl) (by kernel_rfl) (by kernel_rfl) (by exact fun _ _ _ h => h) (fun _ _ h => h) (.inl ⟨rfl, fun L w' hC hL hS => exec_load_one rfl rfl Tryz.underlying3 rfl hS.2.2.2.2⟩) (closedB (by kernel_rfl)) C0.out C0.out ?_
              refine wpAnyS_one (i := 25) (L' := #[true, true, true, true, true, true, true, true, true, true, true, true, true, true, true, true, true, true, true, true, true, true, true, true, true, true, false]) (by kernel_rfl) rfl (by simp only [List.getElem?_toArray, List.getElem?_cons_succ, List.getElem?_cons_zero]; rfl) ?_
              go_wp2_with fail
              have hup : Upd (fun _ _ => False) wr (wr.alloc (.cells #[.int .i64 (z.1.1.1.2), .int .i64 (z.1.1.2), .int .i64 (z.1.2), .int .i64 (z.2)] 3)) := (Upd.refl _ wr).alloc _
              refine ⟨(hup.cell _ _ (World.block_lt_of_cell? wr _ cd) (fun h => h)).trans cd, ?_⟩
              refine wpAnyS_one (i := 26) (L' := #[true, true, true, true, true, true, true, true, true, true, true, true, true, true, true, true, true, true, true, true, true, true, true, true, true, true, true]) (by kernel_rfl) rfl (by simp only [List.getElem?_toArray, List.getElem?_cons_succ, List.getElem?_cons_zero]; rfl) ?_
              go_wp2_with fail
              refine (out_nums16d (n := 4) (F := F) (x := z) HW.out (by first | rfl | simp) rfl (by omega)).mono ?_
              rintro e wz ⟨rfl, vz, p⟩
              have RZ := Lib.hid p
              have cd2 := HSy.out.cell (Y6.out.next (HP.out.trans p)).at_
              have AZ := atRow p HAt.out hn1 HN2.out
              have ck0 : wz.cell? ⟨b', o' + j * 4, none⟩ = some (.int .i64 (z.1.1.1.2)) := (Sf0.at AZ).head
              have ck1 : wz.cell? ⟨b', o' + j * 4 + 1, none⟩ = some (.int .i64 (z.1.1.2)) := (Sf1.at AZ).head
              have ck2 : wz.cell? ⟨b', o' + j * 4 + 2, none⟩ = some (.int .i64 (z.1.2)) := (Sf2.at AZ).head
              have ck3 : wz.cell? ⟨b', o' + j * 4 + 3, none⟩ = some (.int .i64 (z.2)) := (Sf3.at AZ).head
              clear p AZ
              go_wp2_with fail
              refine ⟨⟨cd2, ck0, ck1, ck2, ck3⟩, wpAnyS_done (by kernel_rfl) ?_ _⟩
              refine hK _ _ ?_
              clear hK
              go_wp2_with fail
              go_roundw
              case rel => exact ⟨j + 1, _, by omega, by go_num, by rw [encJ_succ _ _ hjn, ← hz.out]; exact HP.out.trans RZ.out⟩
              case measure => simp [intOf]; omega
            · clear hp
              have hjy : j = y.length := by omega
              subst hjy
              obtain ⟨w11, hwr⟩ : ∃ w', w' = wr := ⟨_, rfl⟩
              obtain ⟨v11, hvr⟩ : ∃ v', v' = va := ⟨_, rfl⟩
              have RL7 : Hid (Wr 1 5 base w9 w11 bf v9 _ (enc (.list schDeploy) (x.1.2)) v11) := Lib.hid (by rw [hwr, hvr, ← hy.out, ← encJ_all]; exact HP.out)
              clear cd HP
              rw [← hwr]
              clear hwr hvr
              have P7 := Lib.hid (Wr.both P6.out RL7.out)
              have Y7 := Lib.hid (X0.out.next P7.out)
              have cc3_7 := HSy.out.cell Y7.out.at_
              have G8 := Lib.hid (VaH.next H.out P7.out)
              have LG8 := Lib.hid (H.out.lay P7.out L7.out)
              have cc := HSa7.out.cell Y7.out.at_
              have h64 := (okay_list G8.out.okay).1
              have hlen := G8.out.len
              simp only [bnd] at hlen
              go_wp2_with fail
              refine (out_count (n := (x.2).length) G8.out.form h64 (by omega)).mono ?_
              rintro e w12 ⟨rfl, v12, p⟩
              have R8 : Hid (Wr 1 5 base w11 w12 bf v11 _ (encJ schSeen (x.2) 0) v12) := Lib.hid (by rw [encJ_zero]; exact p)
              have cc2 := HSa7.out.cell (Y7.out.next p).at_
              clear p cc hlen
              obtain ⟨y, hy⟩ : ∃ y : List (Ty schSeen), Hid (y = x.2) := ⟨_, Lib.hid rfl⟩
              rw [← hy.out] at G8 LG8 R8 cc2 h64
              have HSy := Lib.hid (by have := HSa7.out; rw [← hy.out] at this; exact this)
              rw [← hy.out]
              go_wp2_with fail
              go_loopw [7] (fun i wr => ∃ (j : Nat) (v' : Value), j ≤ y.length ∧ i = .int .i64 j ∧ Wr 1 5 base w11 wr bf v11 _ (encJ schSeen y j) v') (fun i _ => y.length - (intOf i).toNat)
              case atStart => exact ⟨0, v12, by omega, rfl, R8.out⟩
              case round =>
                obtain ⟨j, va, hj, rfl, hp⟩ := hrel
                have HP := Lib.hid hp
                have cd := HSy.out.cell (Y7.out.next hp).at_
                by_cases hjn : j < y.length
                · obtain ⟨b', o', ws, hA, hws, hat, hn1, hn2, hn3, hLw, hW⟩ := G8.out.itemAt LG8.out hjn hp
                  subst hA
                  obtain ⟨z, hz⟩ : ∃ z : Ty schSeen, Hid (z = y[j]) := ⟨_, Lib.hid rfl⟩
                  rw [← hz.out] at hLw hW
                  have HW := Lib.hid hW
                  have HAt := Lib.hid hat
                  have HN2 := Lib.hid hn2
                  have hwl : ws.length = 5 := hws
                  obtain ⟨qe1, ue1, hqe1, he1, te1, se1⟩ := Lay.split hLw
                  have Se1 : Sub ws 2 ue1 := (Sub.self ws).trans se1
                  have Te1 : Sub ws 0 qe1 := (Sub.self ws).trans te1
                  obtain ⟨qf0_1, uf0_1, hqf0_1, hf0_1, tf0_1, sf0_1⟩ := Lay.split hqe1
                  have Sf0_1 : Sub ws 1 uf0_1 := Sub.trans (o := 0) Te1 sf0_1
                  have Tf0_1 : Sub ws 0 qf0_1 := Sub.trans (o := 0) Te1 tf0_1
                  obtain rfl := Lay.num hf0_1
                  obtain ⟨qf0_0, uf0_0, hqf0_0, hf0_0, tf0_0, sf0_0⟩ := Lay.split hqf0_1
                  have Sf0_0 : Sub ws 0 uf0_0 := Sub.trans (o := 0) Tf0_1 sf0_0
                  have Tf0_0 : Sub ws 0 qf0_0 := Sub.trans (o := 0) Tf0_1 tf0_0
                  obtain rfl := Lay.num hf0_0
                  have hle1 : ue1.length = 3 := Lay.len _ he1
                  have LE1 := Lib.hid he1
                  have GZ1 := Lib.hid HW.out.first
                  have RZ1_0 := Lib.hid (GZ1.out.first.first).unit
                  have ce : World.cell? _ ⟨b', o' + j * 5, none⟩ = _ := (Sf0_0.at HAt.out).head
                  go_wp2_with fail
                  refine (out_num (VaH.next GZ1.out.first RZ1_0.out)).mono ?_
                  rintro e wz1 ⟨rfl, vz1, p⟩
                  have RZ1_1 := Lib.hid (Wr.both RZ1_0.out p)
                  have AT1 := Lib.hid (atRow RZ1_1.out HAt.out hn1 HN2.out)
                  have CD1 := Lib.hid (HSy.out.cell (Y7.out.next (HP.out.trans RZ1_1.out)).at_)
                  have cd1 := CD1.out
                  clear ce p
                  have ce : World.cell? _ ⟨b', o' + j * 5 + 1, none⟩ = _ := (Sf0_1.at AT1.out).head
                  go_wp2_with fail
                  refine (out_num (VaH.next GZ1.out RZ1_1.out)).mono ?_
                  rintro e wz2 ⟨rfl, vz2, p⟩
                  have RZ1_2 := Lib.hid (Wr.both RZ1_1.out p)
                  have AT2 := Lib.hid (atRow RZ1_2.out HAt.out hn1 HN2.out)
                  have CD2 := Lib.hid (HSy.out.cell (Y7.out.next (HP.out.trans RZ1_2.out)).at_)
                  have cd2 := CD2.out
                  clear ce p
                  have PZ1 := RZ1_2
                  have HE2 : Hid (At _ b' (o' + j * 5 + 2) ue1) := Lib.hid (Se1.at AT2.out)
                  have SE2 : Hid ((Tryz.prog.info? 53).map (·.size) = some ue1.length) := Lib.hid (by rw [hle1]; exact Tryz.sz53)
                  go_wp2_with (refine wpList_load_mid rfl 53 _ rfl b' (o' + j * 5 + 2) rfl ue1 _ HE2.out Tryz.underlying53 rfl SE2.out ?_)
                  refine (out_result base F _ bf _ _ ue1 _ (VaH.next HW.out PZ1.out) (HW.out.lay PZ1.out LE1.out)).mono ?_
                  rintro e wz3 ⟨rfl, vz3, p⟩
                  have RZ2 := Lib.hid p
                  clear p
                  have PZ2 := Lib.hid (Wr.both PZ1.out RZ2.out)
                  have RZ := PZ2
                  go_wp2_with fail
                  go_roundw
                  case rel => exact ⟨j + 1, _, by omega, by go_num, by rw [encJ_succ _ _ hjn, ← hz.out]; exact HP.out.trans RZ.out⟩
                  case measure => simp [intOf]; omega
                · clear hp
                  have hjy : j = y.length := by omega
                  subst hjy
                  obtain ⟨w13, hwr⟩ : ∃ w', w' = wr := ⟨_, rfl⟩
                  obtain ⟨v13, hvr⟩ : ∃ v', v' = va := ⟨_, rfl⟩
                  have RL8 : Hid (Wr 1 5 base w11 w13 bf v11 _ (enc (.list schSeen) (x.2)) v13) := Lib.hid (by rw [hwr, hvr, ← hy.out, ← encJ_all]; exact HP.out)
                  clear cd HP
                  rw [← hwr]
                  clear hwr hvr
                  have P8 := Lib.hid (Wr.both P7.out RL8.out)
                  have Y8 := Lib.hid (X0.out.next P8.out)
                  have cc3_8 := HSy.out.cell Y8.out.at_
                  go_wp2_with fail
                  go_end0
                  exact ⟨rfl, v13, P8.out.alloc⟩

end Go.Proofs
