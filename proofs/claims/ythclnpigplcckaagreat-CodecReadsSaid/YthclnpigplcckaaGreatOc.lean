/- A part of the document's writers. -/
import Derived.Test.YthclnpigplcckaaGreatProg
import Derived.Test.YthclnpigplcckaaGreatLibs
import Derived.Test.YthclnpigplcckaaGreatOb
import Derived.Test.YthclnpigplcckaaGreatZd
import Derived.Test.YthclnpigplcckaaGreatZe
import Derived.WalkSpells
import Derived.WalkLawsBesides
import Derived.Deep.LoopGhost
import Derived.Lib.Hide
import Derived.Deep.RegionWith
import Derived.Maps.AppendAt
import Derived.KernelRfl
set_option linter.unusedSimpArgs false
set_option linter.unusedVariables false

set_option linter.unusedSimpArgs false
namespace Go.Proofs
open Go Go.RowKit Cod

set_option maxRecDepth 100000 in
set_option maxHeartbeats 1000000 in
theorem out_cmd : VaC Tryz.prog 62 schCmd := by
  intro base F w bf v0 B VS x h hL
  have H := Lib.hid (h.alloc (.cells VS.toArray 38))
  have X0 := Lib.hid (Box.new h.form VS 38)
  obtain ⟨qa5, ua5, hqa5, ha5, ta5, sa5⟩ := Lay.split hL
  have Sa5 : Sub VS 25 ua5 := (Sub.self VS).trans sa5
  have Ta5 : Sub VS 0 qa5 := (Sub.self VS).trans ta5
  obtain ⟨qa4, ua4, hqa4, ha4, ta4, sa4⟩ := Lay.split hqa5
  have Sa4 : Sub VS 19 ua4 := Ta5.trans sa4
  have Ta4 : Sub VS 0 qa4 := Ta5.trans ta4
  obtain ⟨qa3, ua3, hqa3, ha3, ta3, sa3⟩ := Lay.split hqa4
  have Sa3 : Sub VS 18 ua3 := Ta4.trans sa3
  have Ta3 : Sub VS 0 qa3 := Ta4.trans ta3
  obtain ⟨qa2, ua2, hqa2, ha2, ta2, sa2⟩ := Lay.split hqa3
  have Sa2 : Sub VS 10 ua2 := Ta3.trans sa2
  have Ta2 : Sub VS 0 qa2 := Ta3.trans ta2
  obtain ⟨qa1, ua1, hqa1, ha1, ta1, sa1⟩ := Lay.split hqa2
  have Sa1 : Sub VS 3 ua1 := Ta2.trans sa1
  have Ta1 : Sub VS 0 qa1 := Ta2.trans ta1
  obtain ⟨qb0_2, ub0_2, hqb0_2, hb0_2, tb0_2, sb0_2⟩ := Lay.split hqa1
  have Sb0_2 : Sub VS 2 ub0_2 := Ta1.trans sb0_2
  have Tb0_2 : Sub VS 0 qb0_2 := Ta1.trans tb0_2
  obtain rfl := Lay.num hb0_2
  have HSb0_2 := Lib.hid Sb0_2
  clear Sb0_2 sb0_2 tb0_2
  obtain ⟨qb0_1, ub0_1, hqb0_1, hb0_1, tb0_1, sb0_1⟩ := Lay.split hqb0_2
  have Sb0_1 : Sub VS 1 ub0_1 := Tb0_2.trans sb0_1
  have Tb0_1 : Sub VS 0 qb0_1 := Tb0_2.trans tb0_1
  obtain rfl := Lay.num hb0_1
  have HSb0_1 := Lib.hid Sb0_1
  clear Sb0_1 sb0_1 tb0_1
  obtain ⟨qb0_0, ub0_0, hqb0_0, hb0_0, tb0_0, sb0_0⟩ := Lay.split hqb0_1
  have Sb0_0 : Sub VS 0 ub0_0 := Tb0_1.trans sb0_0
  have Tb0_0 : Sub VS 0 qb0_0 := Tb0_1.trans tb0_0
  obtain rfl := Lay.num hb0_0
  have HSb0_0 := Lib.hid Sb0_0
  clear Sb0_0 sb0_0 tb0_0
  have L1 := Lib.hid (h.layAlloc (.cells VS.toArray 38) ha1)
  have hl1 : ua1.length = 7 := Lay.len _ ha1
  have HSa1 := Lib.hid Sa1
  have L2 := Lib.hid (h.layAlloc (.cells VS.toArray 38) ha2)
  have hl2 : ua2.length = 8 := Lay.len _ ha2
  have HSa2 := Lib.hid Sa2
  have L3 := Lib.hid (h.layAlloc (.cells VS.toArray 38) ha3)
  obtain ⟨Aa3, ca3, rfl, _⟩ := Lay.slice ha3
  have HSa3 := Lib.hid Sa3
  have L4 := Lib.hid (h.layAlloc (.cells VS.toArray 38) ha4)
  have hl4 : ua4.length = 6 := Lay.len _ ha4
  have HSa4 := Lib.hid Sa4
  have L5 := Lib.hid (h.layAlloc (.cells VS.toArray 38) ha5)
  have hl5 : ua5.length = 2 := Lay.len _ ha5
  have HSa5 := Lib.hid Sa5
  clear h
  go_enter Tryz.func62, Tryz.ntmps62
  have G1 := Lib.hid H.out.first.first.first.first.first
  have R1_0 := Lib.hid (G1.out.first.first.first).unit
  have cc := HSb0_0.out.cell X0.out.at_
  go_wp2_with fail
  refine (out_num (VaH.next G1.out.first.first R1_0.out)).mono ?_
  rintro e w1 ⟨rfl, v1, p⟩
  have R1_1 := Lib.hid (Wr.both R1_0.out p)
  have X1 := Lib.hid (X0.out.next R1_1.out)
  clear cc p R1_0
  have cc := HSb0_1.out.cell X1.out.at_
  go_wp2_with fail
  refine (out_num (VaH.next G1.out.first R1_1.out)).mono ?_
  rintro e w2 ⟨rfl, v2, p⟩
  have R1_2 := Lib.hid (Wr.both R1_1.out p)
  have X2 := Lib.hid (X0.out.next R1_2.out)
  clear cc p R1_1
  have cc := HSb0_2.out.cell X2.out.at_
  go_wp2_with fail
  refine (out_num (VaH.next G1.out R1_2.out)).mono ?_
  rintro e w3 ⟨rfl, v3, p⟩
  have R1_3 := Lib.hid (Wr.both R1_2.out p)
  have X3 := Lib.hid (X0.out.next R1_3.out)
  clear cc p R1_2
  have P1 := R1_3
  have Y1 := Lib.hid (X0.out.next P1.out)
  have HE2 : Hid (At _ w.heap.size 3 ua1) := Lib.hid (by have := HSa1.out.at Y1.out.at_; rwa [Nat.zero_add] at this)
  have SE2 : Hid ((Tryz.prog.info? 25).map (·.size) = some ua1.length) := Lib.hid (by rw [hl1]; exact Tryz.sz25)
  go_wp2_with (refine wpList_load_mid rfl 25 _ rfl w.heap.size 3 rfl ua1 _ HE2.out Tryz.underlying25 rfl SE2.out ?_)
  refine (out_job base F _ bf _ _ ua1 _ (VaH.next H.out.first.first.first.first P1.out) (H.out.lay P1.out L1.out)).mono ?_
  rintro e w4 ⟨rfl, v4, p⟩
  have R2 := Lib.hid p
  clear p
  have P2 := Lib.hid (Wr.both P1.out R2.out)
  have Y2 := Lib.hid (X0.out.next P2.out)
  have HE3 : Hid (At _ w.heap.size 10 ua2) := Lib.hid (by have := HSa2.out.at Y2.out.at_; rwa [Nat.zero_add] at this)
  have SE3 : Hid ((Tryz.prog.info? 29).map (·.size) = some ua2.length) := Lib.hid (by rw [hl2]; exact Tryz.sz29)
  go_wp2_with (refine wpList_load_mid rfl 29 _ rfl w.heap.size 10 rfl ua2 _ HE3.out Tryz.underlying29 rfl SE3.out ?_)
  refine (out_node base F _ bf _ _ ua2 _ (VaH.next H.out.first.first.first P2.out) (H.out.lay P2.out L2.out)).mono ?_
  rintro e w5 ⟨rfl, v5, p⟩
  have R3 := Lib.hid p
  clear p
  have P3 := Lib.hid (Wr.both P2.out R3.out)
  have Y3 := Lib.hid (X0.out.next P3.out)
  have G4 := Lib.hid (VaH.next H.out.first.first P3.out)
  have LG4 := Lib.hid (H.out.lay P3.out L3.out)
  have cc := HSa3.out.cell Y3.out.at_
  have h64 := (okay_list G4.out.okay).1
  have hlen := G4.out.len
  simp only [bnd] at hlen
  go_wp2_with fail
  refine (out_count (n := (x.1.1.2).length) G4.out.form h64 (by omega)).mono ?_
  rintro e w6 ⟨rfl, v6, p⟩
  have R4 : Hid (Wr 1 5 base w5 w6 bf v5 _ (encJ schReport (x.1.1.2) 0) v6) := Lib.hid (by rw [encJ_zero]; exact p)
  have cc2 := HSa3.out.cell (Y3.out.next p).at_
  clear p cc hlen
  obtain ⟨y, hy⟩ : ∃ y : List (Ty schReport), Hid (y = x.1.1.2) := ⟨_, Lib.hid rfl⟩
  rw [← hy.out] at G4 LG4 R4 cc2 h64
  have HSy := Lib.hid (by have := HSa3.out; rw [← hy.out] at this; exact this)
  rw [← hy.out]
  go_wp2_with fail
  go_loopw [4] (fun i wr => ∃ (j : Nat) (v' : Value), j ≤ y.length ∧ i = .int .i64 j ∧ Wr 1 5 base w5 wr bf v5 _ (encJ schReport y j) v') (fun i _ => y.length - (intOf i).toNat)
  case atStart => exact ⟨0, v6, by omega, rfl, R4.out⟩
  case round =>
    obtain ⟨j, va, hj, rfl, hp⟩ := hrel
    have HP := Lib.hid hp
    have cd := HSy.out.cell (Y3.out.next hp).at_
    by_cases hjn : j < y.length
    · obtain ⟨b', o', ws, hA, hws, hat, hn1, hn2, hn3, hLw, hW⟩ := G4.out.itemAt LG4.out hjn hp
      subst hA
      obtain ⟨z, hz⟩ : ∃ z : Ty schReport, Hid (z = y[j]) := ⟨_, Lib.hid rfl⟩
      rw [← hz.out] at hLw hW
      have HW := Lib.hid hW
      have HAt := Lib.hid hat
      have HN2 := Lib.hid hn2
      have hwl : ws.length = 2 := hws
      obtain ⟨qf0_1, uf0_1, hqf0_1, hf0_1, tf0_1, sf0_1⟩ := Lay.split hLw
      have Sf0_1 : Sub ws 1 uf0_1 := Sub.trans (o := 0) (Sub.self ws) sf0_1
      have Tf0_1 : Sub ws 0 qf0_1 := Sub.trans (o := 0) (Sub.self ws) tf0_1
      obtain rfl := Lay.num hf0_1
      obtain ⟨qf0_0, uf0_0, hqf0_0, hf0_0, tf0_0, sf0_0⟩ := Lay.split hqf0_1
      have Sf0_0 : Sub ws 0 uf0_0 := Sub.trans (o := 0) Tf0_1 sf0_0
      have Tf0_0 : Sub ws 0 qf0_0 := Sub.trans (o := 0) Tf0_1 tf0_0
      obtain rfl := Lay.num hf0_0
      have GZ1 := Lib.hid HW.out
      have RZ1_0 := Lib.hid (GZ1.out.first.first).unit
      have ce : World.cell? _ ⟨b', o' + j * 2, none⟩ = _ := (Sf0_0.at HAt.out).head
      go_wp2_with fail
      refine (out_num (VaH.next GZ1.out.first RZ1_0.out)).mono ?_
      rintro e wz1 ⟨rfl, vz1, p⟩
      have RZ1_1 := Lib.hid (Wr.both RZ1_0.out p)
      have AT1 := Lib.hid (atRow RZ1_1.out HAt.out hn1 HN2.out)
      have CD1 := Lib.hid (HSy.out.cell (Y3.out.next (HP.out.trans RZ1_1.out)).at_)
      have cd1 := CD1.out
      clear ce p
      have ce : World.cell? _ ⟨b', o' + j * 2 + 1, none⟩ = _ := (Sf0_1.at AT1.out).head
      go_wp2_with fail
      refine (out_num (VaH.next GZ1.out RZ1_1.out)).mono ?_
      rintro e wz2 ⟨rfl, vz2, p⟩
      have RZ1_2 := Lib.hid (Wr.both RZ1_1.out p)
      have AT2 := Lib.hid (atRow RZ1_2.out HAt.out hn1 HN2.out)
      have CD2 := Lib.hid (HSy.out.cell (Y3.out.next (HP.out.trans RZ1_2.out)).at_)
      have cd2 := CD2.out
      clear ce p
      have PZ1 := RZ1_2
      have RZ := PZ1
      go_wp2_with fail
      go_roundw
      case rel => exact ⟨j + 1, _, by omega, by go_num, by rw [encJ_succ _ _ hjn, ← hz.out]; exact HP.out.trans RZ.out⟩
      case measure => simp [intOf]; omega
    · clear hp
      have hjy : j = y.length := by omega
      subst hjy
      obtain ⟨w7, hwr⟩ : ∃ w', w' = wr := ⟨_, rfl⟩
      obtain ⟨v7, hvr⟩ : ∃ v', v' = va := ⟨_, rfl⟩
      have RL4 : Hid (Wr 1 5 base w5 w7 bf v5 _ (enc (.list schReport) (x.1.1.2)) v7) := Lib.hid (by rw [hwr, hvr, ← hy.out, ← encJ_all]; exact HP.out)
      clear cd HP
      rw [← hwr]
      clear hwr hvr
      have P4 := Lib.hid (Wr.both P3.out RL4.out)
      have Y4 := Lib.hid (X0.out.next P4.out)
      have cc3_4 := HSy.out.cell Y4.out.at_
      have HE5 : Hid (At _ w.heap.size 19 ua4) := Lib.hid (by have := HSa4.out.at Y4.out.at_; rwa [Nat.zero_add] at this)
      have SE5 : Hid ((Tryz.prog.info? 34).map (·.size) = some ua4.length) := Lib.hid (by rw [hl4]; exact Tryz.sz34)
      go_wp2_with (refine wpList_load_mid rfl 34 _ rfl w.heap.size 19 rfl ua4 _ HE5.out Tryz.underlying34 rfl SE5.out ?_)
      refine (out_plan base F _ bf _ _ ua4 _ (VaH.next H.out.first P4.out) (H.out.lay P4.out L4.out)).mono ?_
      rintro e w8 ⟨rfl, v8, p⟩
      have R5 := Lib.hid p
      clear p
      have P5 := Lib.hid (Wr.both P4.out R5.out)
      have Y5 := Lib.hid (X0.out.next P5.out)
      have HE6 : Hid (At _ w.heap.size 25 ua5) := Lib.hid (by have := HSa5.out.at Y5.out.at_; rwa [Nat.zero_add] at this)
      have SE6 : Hid ((Tryz.prog.info? 36).map (·.size) = some ua5.length) := Lib.hid (by rw [hl5]; exact Tryz.sz36)
      go_wp2_with (refine wpList_load_mid rfl 36 _ rfl w.heap.size 25 rfl ua5 _ HE6.out Tryz.underlying36 rfl SE6.out ?_)
      refine (out_conf base F _ bf _ _ ua5 _ (VaH.next H.out P5.out) (H.out.lay P5.out L5.out)).mono ?_
      rintro e w9 ⟨rfl, v9, p⟩
      have R6 := Lib.hid p
      clear p
      have P6 := Lib.hid (Wr.both P5.out R6.out)
      have Y6 := Lib.hid (X0.out.next P6.out)
      go_wp2_with fail
      go_end0
      exact ⟨rfl, v9, P6.out.alloc⟩


set_option maxRecDepth 100000 in
set_option maxHeartbeats 1000000 in
theorem out_entry : VaC Tryz.prog 67 schEntry := by
  intro base F w bf v0 B VS x h hL
  have H := Lib.hid (h.alloc (.cells VS.toArray 47))
  have X0 := Lib.hid (Box.new h.form VS 47)
  obtain ⟨qa1, ua1, hqa1, ha1, ta1, sa1⟩ := Lay.split hL
  have Sa1 : Sub VS 2 ua1 := (Sub.self VS).trans sa1
  have Ta1 : Sub VS 0 qa1 := (Sub.self VS).trans ta1
  obtain ⟨qb0_1, ub0_1, hqb0_1, hb0_1, tb0_1, sb0_1⟩ := Lay.split hqa1
  have Sb0_1 : Sub VS 1 ub0_1 := Ta1.trans sb0_1
  have Tb0_1 : Sub VS 0 qb0_1 := Ta1.trans tb0_1
  obtain rfl := Lay.num hb0_1
  have HSb0_1 := Lib.hid Sb0_1
  clear Sb0_1 sb0_1 tb0_1
  obtain ⟨qb0_0, ub0_0, hqb0_0, hb0_0, tb0_0, sb0_0⟩ := Lay.split hqb0_1
  have Sb0_0 : Sub VS 0 ub0_0 := Tb0_1.trans sb0_0
  have Tb0_0 : Sub VS 0 qb0_0 := Tb0_1.trans tb0_0
  obtain rfl := Lay.num hb0_0
  have HSb0_0 := Lib.hid Sb0_0
  clear Sb0_0 sb0_0 tb0_0
  have L1 := Lib.hid (h.layAlloc (.cells VS.toArray 47) ha1)
  have hl1 : ua1.length = 27 := Lay.len _ ha1
  have HSa1 := Lib.hid Sa1
  clear h
  go_enter Tryz.func67, Tryz.ntmps67
  have G1 := Lib.hid H.out.first
  have R1_0 := Lib.hid (G1.out.first.first).unit
  have cc := HSb0_0.out.cell X0.out.at_
  go_wp2_with fail
  refine (out_num (VaH.next G1.out.first R1_0.out)).mono ?_
  rintro e w1 ⟨rfl, v1, p⟩
  have R1_1 := Lib.hid (Wr.both R1_0.out p)
  have X1 := Lib.hid (X0.out.next R1_1.out)
  clear cc p R1_0
  have cc := HSb0_1.out.cell X1.out.at_
  go_wp2_with fail
  refine (out_num (VaH.next G1.out R1_1.out)).mono ?_
  rintro e w2 ⟨rfl, v2, p⟩
  have R1_2 := Lib.hid (Wr.both R1_1.out p)
  have X2 := Lib.hid (X0.out.next R1_2.out)
  clear cc p R1_1
  have P1 := R1_2
  have Y1 := Lib.hid (X0.out.next P1.out)
  have HE2 : Hid (At _ w.heap.size 2 ua1) := Lib.hid (by have := HSa1.out.at Y1.out.at_; rwa [Nat.zero_add] at this)
  have SE2 : Hid ((Tryz.prog.info? 38).map (·.size) = some ua1.length) := Lib.hid (by rw [hl1]; exact Tryz.sz38)
  go_wp2_with (refine wpList_load_mid rfl 38 _ rfl w.heap.size 2 rfl ua1 _ HE2.out Tryz.underlying38 rfl SE2.out ?_)
  refine (out_cmd base F _ bf _ _ ua1 _ (VaH.next H.out P1.out) (H.out.lay P1.out L1.out)).mono ?_
  rintro e w3 ⟨rfl, v3, p⟩
  have R2 := Lib.hid p
  clear p
  have P2 := Lib.hid (Wr.both P1.out R2.out)
  have Y2 := Lib.hid (X0.out.next P2.out)
  go_wp2_with fail
  go_end0
  exact ⟨rfl, v3, P2.out.alloc⟩

end Go.Proofs
