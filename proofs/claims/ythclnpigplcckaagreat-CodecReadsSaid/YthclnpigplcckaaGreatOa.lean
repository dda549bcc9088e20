/- A part of the document's writers. -/
import Derived.Test.YthclnpigplcckaaGreatProg
import Derived.Test.YthclnpigplcckaaGreatLibs
import Derived.Test.YthclnpigplcckaaGreatVa
import Derived.Test.YthclnpigplcckaaGreatZa
import Derived.Test.YthclnpigplcckaaGreatWd
import Derived.Test.YthclnpigplcckaaGreatWc
import Derived.WalkSpells
import Derived.WalkLawsBesides
import Derived.Deep.LoopGhost
import Derived.Lib.Hide
import Derived.Deep.RegionWith
import Derived.Maps.AppendAt
import Derived.KernelRfl
import Derived.Test.YthclnpigplcckaaGreatWf
import Derived.Test.YthclnpigplcckaaGreatZb
import Derived.Test.YthclnpigplcckaaGreatZe
import Derived.Test.YthclnpigplcckaaGreatZc
set_option linter.unusedSimpArgs false
set_option linter.unusedVariables false

set_option linter.unusedSimpArgs false
namespace Go.Proofs
open Go Go.RowKit Cod

set_option maxRecDepth 100000 in
set_option maxHeartbeats 1000000 in
theorem out_res : VaC Tryz.prog 114 schRes := by
  intro base F w bf v0 B VS x h hL
  have H := Lib.hid (h.alloc (.cells VS.toArray 27))
  have X0 := Lib.hid (Box.new h.form VS 27)
  obtain ⟨qb0_1, ub0_1, hqb0_1, hb0_1, tb0_1, sb0_1⟩ := Lay.split hL
  have Sb0_1 : Sub VS 1 ub0_1 := (Sub.self VS).trans sb0_1
  have Tb0_1 : Sub VS 0 qb0_1 := (Sub.self VS).trans tb0_1
  obtain rfl := Lay.num hb0_1
  have HSb0_1 := Lib.hid Sb0_1
  clear Sb0_1 sb0_1 tb0_1
  obtain ⟨qb0_0, ub0_0, hqb0_0, hb0_0, tb0_0, sb0_0⟩ := Lay.split hqb0_1
  have Sb0_0 : Sub VS 0 ub0_0 := Tb0_1.trans sb0_0
  have Tb0_0 : Sub VS 0 qb0_0 := Tb0_1.trans tb0_0
  obtain rfl := Lay.num hb0_0
  have HSb0_0 := Lib.hid Sb0_0
  clear Sb0_0 sb0_0 tb0_0
  clear h
  go_enter Tryz.func114, Tryz.ntmps114
  have G1 := Lib.hid H.out
  have R1_0 := Lib.hid (G1.out.first.first).unit
  have cc := HSb0_0.out.cell X0.out.at_
  go_wp2_with fail
  refine (out_num (VaH.next G1.out.first R1_0.out)).mono ?_
  rintro e w1 ⟨rfl, v1, p⟩
  have R1_1 := Lib.hid (Wr.both R1_0.out p)
  have X1 := Lib.hid (X0.out.next R1_1.out)
  clear cc p R1_0
  have cc := HSb0_1.out.cell X1.out.at_
  go_wp2_with fail
  refine (out_num (VaH.next G1.out R1_1.out)).mono ?_
  rintro e w2 ⟨rfl, v2, p⟩
  have R1_2 := Lib.hid (Wr.both R1_1.out p)
  have X2 := Lib.hid (X0.out.next R1_2.out)
  clear cc p R1_1
  have P1 := R1_2
  have Y1 := Lib.hid (X0.out.next P1.out)
  go_wp2_with fail
  go_end0
  exact ⟨rfl, v2, P1.out.alloc⟩


set_option maxRecDepth 100000 in
set_option maxHeartbeats 1000000 in
theorem out_node : VaC Tryz.prog 101 schNode := by
  intro base F w bf v0 B VS x h hL
  have H := Lib.hid (h.alloc (.cells VS.toArray 29))
  have X0 := Lib.hid (Box.new h.form VS 29)
  obtain ⟨qa4, ua4, hqa4, ha4, ta4, sa4⟩ := Lay.split hL
  have Sa4 : Sub VS 5 ua4 := (Sub.self VS).trans sa4
  have Ta4 : Sub VS 0 qa4 := (Sub.self VS).trans ta4
  obtain ⟨qa3, ua3, hqa3, ha3, ta3, sa3⟩ := Lay.split hqa4
  have Sa3 : Sub VS 4 ua3 := Ta4.trans sa3
  have Ta3 : Sub VS 0 qa3 := Ta4.trans ta3
  obtain ⟨qa2, ua2, hqa2, ha2, ta2, sa2⟩ := Lay.split hqa3
  have Sa2 : Sub VS 3 ua2 := Ta3.trans sa2
  have Ta2 : Sub VS 0 qa2 := Ta3.trans ta2
  obtain ⟨qa1, ua1, hqa1, ha1, ta1, sa1⟩ := Lay.split hqa2
  have Sa1 : Sub VS 1 ua1 := Ta2.trans sa1
  have Ta1 : Sub VS 0 qa1 := Ta2.trans ta1
  obtain rfl := Lay.num hqa1
  have HSa0 := Lib.hid Ta1
  have L1 := Lib.hid (h.layAlloc (.cells VS.toArray 29) ha1)
  have hl1 : ua1.length = 2 := Lay.len _ ha1
  have HSa1 := Lib.hid Sa1
  obtain rfl := Lay.flag ha2
  have HSa2 := Lib.hid Sa2
  obtain rfl := Lay.flag ha3
  have HSa3 := Lib.hid Sa3
  obtain ⟨qb4_2, ub4_2, hqb4_2, hb4_2, tb4_2, sb4_2⟩ := Lay.split ha4
  have Sb4_2 : Sub VS 7 ub4_2 := Sa4.trans sb4_2
  have Tb4_2 : Sub VS 5 qb4_2 := Sa4.trans tb4_2
  obtain rfl := Lay.num hb4_2
  have HSb4_2 := Lib.hid Sb4_2
  clear Sb4_2 sb4_2 tb4_2
  obtain ⟨qb4_1, ub4_1, hqb4_1, hb4_1, tb4_1, sb4_1⟩ := Lay.split hqb4_2
  have Sb4_1 : Sub VS 6 ub4_1 := Tb4_2.trans sb4_1
  have Tb4_1 : Sub VS 5 qb4_1 := Tb4_2.trans tb4_1
  obtain rfl := Lay.num hb4_1
  have HSb4_1 := Lib.hid Sb4_1
  clear Sb4_1 sb4_1 tb4_1
  obtain ⟨qb4_0, ub4_0, hqb4_0, hb4_0, tb4_0, sb4_0⟩ := Lay.split hqb4_1
  have Sb4_0 : Sub VS 5 ub4_0 := Tb4_1.trans sb4_0
  have Tb4_0 : Sub VS 5 qb4_0 := Tb4_1.trans tb4_0
  obtain rfl := Lay.num hb4_0
  have HSb4_0 := Lib.hid Sb4_0
  clear Sb4_0 sb4_0 tb4_0
  clear h
  go_enter Tryz.func101, Tryz.ntmps101
  have cc := HSa0.out.cell X0.out.at_
  go_wp2_with fail
  refine (out_num H.out.first.first.first.first).mono ?_
  rintro e w1 ⟨rfl, v1, p⟩
  have R1 := Lib.hid p
  clear cc p
  have P1 := R1
  have Y1 := Lib.hid (X0.out.next P1.out)
  have HE2 : Hid (At _ w.heap.size 1 ua1) := Lib.hid (by have := HSa1.out.at Y1.out.at_; rwa [Nat.zero_add] at this)
  have SE2 : Hid ((Tryz.prog.info? 27).map (·.size) = some ua1.length) := Lib.hid (by rw [hl1]; exact Tryz.sz27)
  go_wp2_with (refine wpList_load_mid rfl 27 _ rfl w.heap.size 1 rfl ua1 _ HE2.out Tryz.underlying27 rfl SE2.out ?_)
  refine (out_res base F _ bf _ _ ua1 _ (VaH.next H.out.first.first.first P1.out) (H.out.lay P1.out L1.out)).mono ?_
  rintro e w2 ⟨rfl, v2, p⟩
  have R2 := Lib.hid p
  clear p
  have P2 := Lib.hid (Wr.both P1.out R2.out)
  have Y2 := Lib.hid (X0.out.next P2.out)
  have cc := HSa2.out.cell Y2.out.at_
  go_wp2_with fail
  refine (out_flag (VaH.next H.out.first.first P2.out)).mono ?_
  rintro e w3 ⟨rfl, v3, p⟩
  have R3 := Lib.hid p
  clear cc p
  have P3 := Lib.hid (Wr.both P2.out R3.out)
  have Y3 := Lib.hid (X0.out.next P3.out)
  have cc := HSa3.out.cell Y3.out.at_
  go_wp2_with fail
  refine (out_flag (VaH.next H.out.first P3.out)).mono ?_
  rintro e w4 ⟨rfl, v4, p⟩
  have R4 := Lib.hid p
  clear cc p
  have P4 := Lib.hid (Wr.both P3.out R4.out)
  have Y4 := Lib.hid (X0.out.next P4.out)
  have G5 := Lib.hid (VaH.next H.out P4.out)
  have R5_0 := Lib.hid (G5.out.first.first.first).unit
  have cc := HSb4_0.out.cell Y4.out.at_
  go_wp2_with fail
  refine (out_num (VaH.next G5.out.first.first R5_0.out)).mono ?_
  rintro e w5 ⟨rfl, v5, p⟩
  have R5_1 := Lib.hid (Wr.both R5_0.out p)
  have X5 := Lib.hid (Y4.out.next R5_1.out)
  clear cc p R5_0
  have cc := HSb4_1.out.cell X5.out.at_
  go_wp2_with fail
  refine (out_num (VaH.next G5.out.first R5_1.out)).mono ?_
  rintro e w6 ⟨rfl, v6, p⟩
  have R5_2 := Lib.hid (Wr.both R5_1.out p)
  have X6 := Lib.hid (Y4.out.next R5_2.out)
  clear cc p R5_1
  have cc := HSb4_2.out.cell X6.out.at_
  go_wp2_with fail
  refine (out_num (VaH.next G5.out R5_2.out)).mono ?_
  rintro e w7 ⟨rfl, v7, p⟩
  have R5_3 := Lib.hid (Wr.both R5_2.out p)
  have X7 := Lib.hid (Y4.out.next R5_3.out)
  clear cc p R5_2
  have P5 := Lib.hid (Wr.both P4.out R5_3.out)
  have Y5 := Lib.hid (X0.out.next P5.out)
  go_wp2_with fail
  go_end0
  exact ⟨rfl, v7, P5.out.alloc⟩

end Go.Proofs

set_option linter.unusedSimpArgs false
namespace Go.Proofs
open Go Go.RowKit Cod

set_option maxRecDepth 100000 in
set_option maxHeartbeats 1000000 in
theorem out_alloc : VaC Tryz.prog 116 schAlloc := by
  intro base F w bf v0 B VS x h hL
  have H := Lib.hid (h.alloc (.cells VS.toArray 162))
  have X0 := Lib.hid (Box.new h.form VS 162)
  obtain ⟨qa3, ua3, hqa3, ha3, ta3, sa3⟩ := Lay.split hL
  have Sa3 : Sub VS 10 ua3 := (Sub.self VS).trans sa3
  have Ta3 : Sub VS 0 qa3 := (Sub.self VS).trans ta3
  obtain ⟨qa2, ua2, hqa2, ha2, ta2, sa2⟩ := Lay.split hqa3
  have Sa2 : Sub VS 9 ua2 := Ta3.trans sa2
  have Ta2 : Sub VS 0 qa2 := Ta3.trans ta2
  obtain ⟨qa1, ua1, hqa1, ha1, ta1, sa1⟩ := Lay.split hqa2
  have Sa1 : Sub VS 7 ua1 := Ta2.trans sa1
  have Ta1 : Sub VS 0 qa1 := Ta2.trans ta1
  obtain ⟨qb0_6, ub0_6, hqb0_6, hb0_6, tb0_6, sb0_6⟩ := Lay.split hqa1
  have Sb0_6 : Sub VS 6 ub0_6 := Ta1.trans sb0_6
  have Tb0_6 : Sub VS 0 qb0_6 := Ta1.trans tb0_6
  obtain rfl := Lay.num hb0_6
  have HSb0_6 := Lib.hid Sb0_6
  clear Sb0_6 sb0_6 tb0_6
  obtain ⟨qb0_5, ub0_5, hqb0_5, hb0_5, tb0_5, sb0_5⟩ := Lay.split hqb0_6
  have Sb0_5 : Sub VS 5 ub0_5 := Tb0_6.trans sb0_5
  have Tb0_5 : Sub VS 0 qb0_5 := Tb0_6.trans tb0_5
  obtain rfl := Lay.num hb0_5
  have HSb0_5 := Lib.hid Sb0_5
  clear Sb0_5 sb0_5 tb0_5
  obtain ⟨qb0_4, ub0_4, hqb0_4, hb0_4, tb0_4, sb0_4⟩ := Lay.split hqb0_5
  have Sb0_4 : Sub VS 4 ub0_4 := Tb0_5.trans sb0_4
  have Tb0_4 : Sub VS 0 qb0_4 := Tb0_5.trans tb0_4
  obtain rfl := Lay.num hb0_4
  have HSb0_4 := Lib.hid Sb0_4
  clear Sb0_4 sb0_4 tb0_4
  obtain ⟨qb0_3, ub0_3, hqb0_3, hb0_3, tb0_3, sb0_3⟩ := Lay.split hqb0_4
  have Sb0_3 : Sub VS 3 ub0_3 := Tb0_4.trans sb0_3
  have Tb0_3 : Sub VS 0 qb0_3 := Tb0_4.trans tb0_3
  obtain rfl := Lay.num hb0_3
  have HSb0_3 := Lib.hid Sb0_3
  clear Sb0_3 sb0_3 tb0_3
  obtain ⟨qb0_2, ub0_2, hqb0_2, hb0_2, tb0_2, sb0_2⟩ := Lay.split hqb0_3
  have Sb0_2 : Sub VS 2 ub0_2 := Tb0_3.trans sb0_2
  have Tb0_2 : Sub VS 0 qb0_2 := Tb0_3.trans tb0_2
  obtain rfl := Lay.num hb0_2
  have HSb0_2 := Lib.hid Sb0_2
  clear Sb0_2 sb0_2 tb0_2
  obtain ⟨qb0_1, ub0_1, hqb0_1, hb0_1, tb0_1, sb0_1⟩ := Lay.split hqb0_2
  have Sb0_1 : Sub VS 1 ub0_1 := Tb0_2.trans sb0_1
  have Tb0_1 : Sub VS 0 qb0_1 := Tb0_2.trans tb0_1
  obtain rfl := Lay.num hb0_1
  have HSb0_1 := Lib.hid Sb0_1
  clear Sb0_1 sb0_1 tb0_1
  obtain ⟨qb0_0, ub0_0, hqb0_0, hb0_0, tb0_0, sb0_0⟩ := Lay.split hqb0_1
  have Sb0_0 : Sub VS 0 ub0_0 := Tb0_1.trans sb0_0
  have Tb0_0 : Sub VS 0 qb0_0 := Tb0_1.trans tb0_0
  obtain rfl := Lay.num hb0_0
  have HSb0_0 := Lib.hid Sb0_0
  clear Sb0_0 sb0_0 tb0_0
  have L1 := Lib.hid (h.layAlloc (.cells VS.toArray 162) ha1)
  have hl1 : ua1.length = 2 := Lay.len _ ha1
  have HSa1 := Lib.hid Sa1
  obtain rfl := Lay.flag ha2
  have HSa2 := Lib.hid Sa2
  obtain rfl := Lay.num ha3
  have HSa3 := Lib.hid Sa3
  clear h
  go_enter Tryz.func116, Tryz.ntmps116
  have G1 := Lib.hid H.out.first.first.first
  have R1_0 := Lib.hid (G1.out.first.first.first.first.first.first.first).unit
  have cc := HSb0_0.out.cell X0.out.at_
  go_wp2_with fail
  refine (out_num (VaH.next G1.out.first.first.first.first.first.first R1_0.out)).mono ?_
  rintro e w1 ⟨rfl, v1, p⟩
  have R1_1 := Lib.hid (Wr.both R1_0.out p)
  have X1 := Lib.hid (X0.out.next R1_1.out)
  clear cc p R1_0
  have cc := HSb0_1.out.cell X1.out.at_
  go_wp2_with fail
  refine (out_num (VaH.next G1.out.first.first.first.first.first R1_1.out)).mono ?_
  rintro e w2 ⟨rfl, v2, p⟩
  have R1_2 := Lib.hid (Wr.both R1_1.out p)
  have X2 := Lib.hid (X0.out.next R1_2.out)
  clear cc p R1_1
  have cc := HSb0_2.out.cell X2.out.at_
  go_wp2_with fail
  refine (out_num (VaH.next G1.out.first.first.first.first R1_2.out)).mono ?_
  rintro e w3 ⟨rfl, v3, p⟩
  have R1_3 := Lib.hid (Wr.both R1_2.out p)
  have X3 := Lib.hid (X0.out.next R1_3.out)
  clear cc p R1_2
  have cc := HSb0_3.out.cell X3.out.at_
  go_wp2_with fail
  refine (out_num (VaH.next G1.out.first.first.first R1_3.out)).mono ?_
  rintro e w4 ⟨rfl, v4, p⟩
  have R1_4 := Lib.hid (Wr.both R1_3.out p)
  have X4 := Lib.hid (X0.out.next R1_4.out)
  clear cc p R1_3
  have cc := HSb0_4.out.cell X4.out.at_
  go_wp2_with fail
  refine (out_num (VaH.next G1.out.first.first R1_4.out)).mono ?_
  rintro e w5 ⟨rfl, v5, p⟩
  have R1_5 := Lib.hid (Wr.both R1_4.out p)
  have X5 := Lib.hid (X0.out.next R1_5.out)
  clear cc p R1_4
  have cc := HSb0_5.out.cell X5.out.at_
  go_wp2_with fail
  refine (out_num (VaH.next G1.out.first R1_5.out)).mono ?_
  rintro e w6 ⟨rfl, v6, p⟩
  have R1_6 := Lib.hid (Wr.both R1_5.out p)
  have X6 := Lib.hid (X0.out.next R1_6.out)
  clear cc p R1_5
  have cc := HSb0_6.out.cell X6.out.at_
  go_wp2_with fail
  refine (out_num (VaH.next G1.out R1_6.out)).mono ?_
  rintro e w7 ⟨rfl, v7, p⟩
  have R1_7 := Lib.hid (Wr.both R1_6.out p)
  have X7 := Lib.hid (X0.out.next R1_7.out)
  clear cc p R1_6
  have P1 := R1_7
  have Y1 := Lib.hid (X0.out.next P1.out)
  have HE2 : Hid (At _ w.heap.size 7 ua1) := Lib.hid (by have := HSa1.out.at Y1.out.at_; rwa [Nat.zero_add] at this)
  have SE2 : Hid ((Tryz.prog.info? 27).map (·.size) = some ua1.length) := Lib.hid (by rw [hl1]; exact Tryz.sz27)
  go_wp2_with (refine wpList_load_mid rfl 27 _ rfl w.heap.size 7 rfl ua1 _ HE2.out Tryz.underlying27 rfl SE2.out ?_)
  refine (out_res base F _ bf _ _ ua1 _ (VaH.next H.out.first.first P1.out) (H.out.lay P1.out L1.out)).mono ?_
  rintro e w8 ⟨rfl, v8, p⟩
  have R2 := Lib.hid p
  clear p
  have P2 := Lib.hid (Wr.both P1.out R2.out)
  have Y2 := Lib.hid (X0.out.next P2.out)
  have cc := HSa2.out.cell Y2.out.at_
  go_wp2_with fail
  refine (out_flag (VaH.next H.out.first P2.out)).mono ?_
  rintro e w9 ⟨rfl, v9, p⟩
  have R3 := Lib.hid p
  clear cc p
  have P3 := Lib.hid (Wr.both P2.out R3.out)
  have Y3 := Lib.hid (X0.out.next P3.out)
  have cc := HSa3.out.cell Y3.out.at_
  go_wp2_with fail
  refine (out_num (VaH.next H.out P3.out)).mono ?_
  rintro e w10 ⟨rfl, v10, p⟩
  have R4 := Lib.hid p
  clear cc p
  have P4 := Lib.hid (Wr.both P3.out R4.out)
  have Y4 := Lib.hid (X0.out.next P4.out)
  go_wp2_with fail
  go_end0
  exact ⟨rfl, v10, P4.out.alloc⟩


set_option maxRecDepth 100000 in
set_option maxHeartbeats 1000000 in
theorem out_allocs : VaC1 Tryz.prog 112 (.list schAlloc) := by
  intro base F w bf v B u x h hL
  obtain ⟨A, c, e, _⟩ := Lay.slice hL
  injection e with e
  subst e
  have H := Lib.hid h
  have HL := Lib.hid hL
  have h64 := (okay_list h.okay).1
  have hlen := h.len
  simp only [bnd] at hlen
  clear h hL
  go_enter Tryz.func112, Tryz.ntmps112
  go_wp2_with fail
  refine (out_count (n := x.length) H.out.form h64 (by omega)).mono ?_
  rintro e w1 ⟨rfl, v1, p⟩
  have P : Hid (Wr 1 5 base w w1 bf v B (encJ schAlloc x 0) v1) := Lib.hid (by rw [encJ_zero]; exact p)
  clear p
  go_wp2_with fail
  go_loopw [4] (fun i wr => ∃ (j : Nat) (v' : Value), j ≤ x.length ∧ i = .int .i64 j ∧ Wr 1 5 base w wr bf v B (encJ schAlloc x j) v') (fun i _ => x.length - (intOf i).toNat)
  case atStart => exact ⟨0, v1, by omega, rfl, P.out⟩
  case round =>
    obtain ⟨j, v2, hj, rfl, hp⟩ := hrel
    have HP := Lib.hid hp
    by_cases hjn : j < x.length
    · obtain ⟨b', o', ws, rfl, hws, hat, hn1, hn2, hn3, hL, hW⟩ := H.out.itemAt HL.out hjn hp
      have HW := Lib.hid hW
      have HAt := Lib.hid hat
      have HLw := Lib.hid hL
      have hwl : ws.length = 11 := hws
      have SW : Hid ((Tryz.prog.info? 162).map (·.size) = some ws.length) := Lib.hid (by rw [hwl]; exact Tryz.size162)
      clear hp hat hL hW hws hn1 hn2 hn3
      go_wp2_with (refine wpList_load_mid rfl 162 _ rfl b' (o' + j * 11) rfl ws _ HAt.out Tryz.underlying162 rfl SW.out ?_)
      refine (out_alloc base F _ bf _ _ ws _ HW.out HLw.out).mono ?_
      rintro e w2 ⟨rfl, v3, q⟩
      have HQ := Lib.hid q
      clear q
      go_wp2_with fail
      go_roundw
      case rel => exact ⟨j + 1, v3, by omega, by go_num, by rw [encJ_succ _ _ hjn]; exact HP.out.trans HQ.out⟩
      case measure => simp [intOf]; omega
    · clear hp
      go_wp2_with fail
      go_end0
      obtain rfl : j = x.length := by omega
      exact ⟨rfl, v2, by rw [← encJ_all]; exact HP.out⟩


set_option maxRecDepth 100000 in
set_option maxHeartbeats 1000000 in
theorem out_result : VaC Tryz.prog 109 schResult := by
  intro base F w bf v0 B VS x h hL
  have H := Lib.hid (h.alloc (.cells VS.toArray 53))
  have X0 := Lib.hid (Box.new h.form VS 53)
  obtain ⟨qa2, ua2, hqa2, ha2, ta2, sa2⟩ := Lay.split hL
  have Sa2 : Sub VS 2 ua2 := (Sub.self VS).trans sa2
  have Ta2 : Sub VS 0 qa2 := (Sub.self VS).trans ta2
  obtain ⟨qa1, ua1, hqa1, ha1, ta1, sa1⟩ := Lay.split hqa2
  have Sa1 : Sub VS 1 ua1 := Ta2.trans sa1
  have Ta1 : Sub VS 0 qa1 := Ta2.trans ta1
  obtain rfl := Lay.num hqa1
  have HSa0 := Lib.hid Ta1
  obtain rfl := Lay.num ha1
  have HSa1 := Lib.hid Sa1
  have L2 := Lib.hid (h.layAlloc (.cells VS.toArray 53) ha2)
  obtain ⟨Aa2, ca2, rfl, _⟩ := Lay.slice ha2
  have HSa2 := Lib.hid Sa2
  clear h
  go_enter Tryz.func109, Tryz.ntmps109
  have cc := HSa0.out.cell X0.out.at_
  go_wp2_with fail
  refine (out_num H.out.first.first).mono ?_
  rintro e w1 ⟨rfl, v1, p⟩
  have R1 := Lib.hid p
  clear cc p
  have P1 := R1
  have Y1 := Lib.hid (X0.out.next P1.out)
  have cc := HSa1.out.cell Y1.out.at_
  go_wp2_with fail
  refine (out_num (VaH.next H.out.first P1.out)).mono ?_
  rintro e w2 ⟨rfl, v2, p⟩
  have R2 := Lib.hid p
  clear cc p
  have P2 := Lib.hid (Wr.both P1.out R2.out)
  have Y2 := Lib.hid (X0.out.next P2.out)
  have cc := HSa2.out.cell Y2.out.at_
  go_wp2_with fail
  refine (out_allocs base F _ bf _ _ _ _ (VaH.next H.out P2.out) (H.out.lay P2.out L2.out)).mono ?_
  rintro e w3 ⟨rfl, v3, p⟩
  have R3 := Lib.hid p
  clear cc p
  have P3 := Lib.hid (Wr.both P2.out R3.out)
  have Y3 := Lib.hid (X0.out.next P3.out)
  go_wp2_with fail
  go_end0
  exact ⟨rfl, v3, P3.out.alloc⟩


set_option maxRecDepth 100000 in
set_option maxHeartbeats 1000000 in
theorem out_conf : VaC Tryz.prog 104 schConf := by
  intro base F w bf v0 B VS x h hL
  have H := Lib.hid (h.alloc (.cells VS.toArray 36))
  have X0 := Lib.hid (Box.new h.form VS 36)
  obtain ⟨qa1, ua1, hqa1, ha1, ta1, sa1⟩ := Lay.split hL
  have Sa1 : Sub VS 1 ua1 := (Sub.self VS).trans sa1
  have Ta1 : Sub VS 0 qa1 := (Sub.self VS).trans ta1
  have L0 := Lib.hid (h.layAlloc (.cells VS.toArray 36) hqa1)
  obtain ⟨Aa0, ca0, rfl, _⟩ := Lay.slice hqa1
  have HSa0 := Lib.hid Ta1
  have L1 := Lib.hid (h.layAlloc (.cells VS.toArray 36) ha1)
  obtain ⟨Aa1, ca1, rfl, _⟩ := Lay.slice ha1
  have HSa1 := Lib.hid Sa1
  clear h
  go_enter Tryz.func104, Tryz.ntmps104
  have cc := HSa0.out.cell X0.out.at_
  go_wp2_with fail
  refine (out_nums base F _ bf _ _ _ _ H.out.first L0.out).mono ?_
  rintro e w1 ⟨rfl, v1, p⟩
  have R1 := Lib.hid p
  clear cc p
  have P1 := R1
  have Y1 := Lib.hid (X0.out.next P1.out)
  have cc := HSa1.out.cell Y1.out.at_
  go_wp2_with fail
  refine (out_nums base F _ bf _ _ _ _ (VaH.next H.out P1.out) (H.out.lay P1.out L1.out)).mono ?_
  rintro e w2 ⟨rfl, v2, p⟩
  have R2 := Lib.hid p
  clear cc p
  have P2 := Lib.hid (Wr.both P1.out R2.out)
  have Y2 := Lib.hid (X0.out.next P2.out)
  go_wp2_with fail
  go_end0
  exact ⟨rfl, v2, P2.out.alloc⟩

end Go.Proofs
