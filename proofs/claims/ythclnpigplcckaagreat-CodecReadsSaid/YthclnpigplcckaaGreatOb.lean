/- A part of the document's writers. -/
import Derived.Test.YthclnpigplcckaaGreatProg
import Derived.Test.YthclnpigplcckaaGreatLibs
import Derived.Test.YthclnpigplcckaaGreatOa
import Derived.Test.YthclnpigplcckaaGreatWd
import Derived.Test.YthclnpigplcckaaGreatZc
import Derived.WalkSpells
import Derived.WalkLawsBesides
import Derived.Deep.LoopGhost
import Derived.Lib.Hide
import Derived.Deep.RegionWith
import Derived.Maps.AppendAt
import Derived.KernelRfl
import Derived.Test.YthclnpigplcckaaGreatWf
import Derived.Test.YthclnpigplcckaaGreatZd
import Derived.Test.YthclnpigplcckaaGreatZe
import Derived.Test.YthclnpigplcckaaGreatZg
import Derived.Test.YthclnpigplcckaaGreatWg
set_option linter.unusedSimpArgs false
set_option linter.unusedVariables false

set_option linter.unusedSimpArgs false
namespace Go.Proofs
open Go Go.RowKit Cod

set_option maxRecDepth 100000 in
set_option maxHeartbeats 1000000 in
theorem out_job : VaC Tryz.prog 100 schJob := by
  intro base F w bf v0 B VS x h hL
  have H := Lib.hid (h.alloc (.cells VS.toArray 25))
  have X0 := Lib.hid (Box.new h.form VS 25)
  obtain ⟨qa3, ua3, hqa3, ha3, ta3, sa3⟩ := Lay.split hL
  have Sa3 : Sub VS 6 ua3 := (Sub.self VS).trans sa3
  have Ta3 : Sub VS 0 qa3 := (Sub.self VS).trans ta3
  obtain ⟨qa2, ua2, hqa2, ha2, ta2, sa2⟩ := Lay.split hqa3
  have Sa2 : Sub VS 5 ua2 := Ta3.trans sa2
  have Ta2 : Sub VS 0 qa2 := Ta3.trans ta2
  obtain ⟨qa1, ua1, hqa1, ha1, ta1, sa1⟩ := Lay.split hqa2
  have Sa1 : Sub VS 4 ua1 := Ta2.trans sa1
  have Ta1 : Sub VS 0 qa1 := Ta2.trans ta1
  obtain ⟨qb0_3, ub0_3, hqb0_3, hb0_3, tb0_3, sb0_3⟩ := Lay.split hqa1
  have Sb0_3 : Sub VS 3 ub0_3 := Ta1.trans sb0_3
  have Tb0_3 : Sub VS 0 qb0_3 := Ta1.trans tb0_3
  obtain rfl := Lay.num hb0_3
  have HSb0_3 := Lib.hid Sb0_3
  clear Sb0_3 sb0_3 tb0_3
  obtain ⟨qb0_2, ub0_2, hqb0_2, hb0_2, tb0_2, sb0_2⟩ := Lay.split hqb0_3
  have Sb0_2 : Sub VS 2 ub0_2 := Tb0_3.trans sb0_2
  have Tb0_2 : Sub VS 0 qb0_2 := Tb0_3.trans tb0_2
  obtain rfl := Lay.num hb0_2
  have HSb0_2 := Lib.hid Sb0_2
  clear Sb0_2 sb0_2 tb0_2
  obtain ⟨qb0_1, ub0_1, hqb0_1, hb0_1, tb0_1, sb0_1⟩ := Lay.split hqb0_2
  have Sb0_1 : Sub VS 1 ub0_1 := Tb0_2.trans sb0_1
  have Tb0_1 : Sub VS 0 qb0_1 := Tb0_2.trans tb0_1
  obtain rfl := Lay.num hb0_1
  have HSb0_1 := Lib.hid Sb0_1
  clear Sb0_1 sb0_1 tb0_1
  obtain ⟨qb0_0, ub0_0, hqb0_0, hb0_0, tb0_0, sb0_0⟩ := Lay.split hqb0_1
  have Sb0_0 : Sub VS 0 ub0_0 := Tb0_1.trans sb0_0
  have Tb0_0 : Sub VS 0 qb0_0 := Tb0_1.trans tb0_0
  obtain rfl := Lay.num hb0_0
  have HSb0_0 := Lib.hid Sb0_0
  clear Sb0_0 sb0_0 tb0_0
  have L1 := Lib.hid (h.layAlloc (.cells VS.toArray 25) ha1)
  obtain ⟨Aa1, ca1, rfl, _⟩ := Lay.slice ha1
  have HSa1 := Lib.hid Sa1
  obtain rfl := Lay.num ha2
  have HSa2 := Lib.hid Sa2
  obtain rfl := Lay.flag ha3
  have HSa3 := Lib.hid Sa3
  clear h
  go_enter Tryz.func100, Tryz.ntmps100
  have G1 := Lib.hid H.out.first.first.first
  have R1_0 := Lib.hid (G1.out.first.first.first.first).unit
  have cc := HSb0_0.out.cell X0.out.at_
  go_wp2_with fail
  refine (out_num (VaH.next G1.out.first.first.first R1_0.out)).mono ?_
  rintro e w1 ⟨rfl, v1, p⟩
  have R1_1 := Lib.hid (Wr.both R1_0.out p)
  have X1 := Lib.hid (X0.out.next R1_1.out)
  clear cc p R1_0
  have cc := HSb0_1.out.cell X1.out.at_
  go_wp2_with fail
  refine (out_num (VaH.next G1.out.first.first R1_1.out)).mono ?_
  rintro e w2 ⟨rfl, v2, p⟩
  have R1_2 := Lib.hid (Wr.both R1_1.out p)
  have X2 := Lib.hid (X0.out.next R1_2.out)
  clear cc p R1_1
  have cc := HSb0_2.out.cell X2.out.at_
  go_wp2_with fail
  refine (out_num (VaH.next G1.out.first R1_2.out)).mono ?_
  rintro e w3 ⟨rfl, v3, p⟩
  have R1_3 := Lib.hid (Wr.both R1_2.out p)
  have X3 := Lib.hid (X0.out.next R1_3.out)
  clear cc p R1_2
  have cc := HSb0_3.out.cell X3.out.at_
  go_wp2_with fail
  refine (out_num (VaH.next G1.out R1_3.out)).mono ?_
  rintro e w4 ⟨rfl, v4, p⟩
  have R1_4 := Lib.hid (Wr.both R1_3.out p)
  have X4 := Lib.hid (X0.out.next R1_4.out)
  clear cc p R1_3
  have P1 := R1_4
  have Y1 := Lib.hid (X0.out.next P1.out)
  have G2 := Lib.hid (VaH.next H.out.first.first P1.out)
  have LG2 := Lib.hid (H.out.lay P1.out L1.out)
  have cc := HSa1.out.cell Y1.out.at_
  have h64 := (okay_list G2.out.okay).1
  have hlen := G2.out.len
  simp only [bnd] at hlen
  go_wp2_with fail
  refine (out_count (n := (x.1.1.2).length) G2.out.form h64 (by omega)).mono ?_
  rintro e w5 ⟨rfl, v5, p⟩
  have R2 : Hid (Wr 1 5 base w4 w5 bf v4 _ (encJ schGroup (x.1.1.2) 0) v5) := Lib.hid (by rw [encJ_zero]; exact p)
  have cc2 := HSa1.out.cell (Y1.out.next p).at_
  clear p cc hlen
  obtain ⟨y, hy⟩ : ∃ y : List (Ty schGroup), Hid (y = x.1.1.2) := ⟨_, Lib.hid rfl⟩
  rw [← hy.out] at G2 LG2 R2 cc2 h64
  have HSy := Lib.hid (by have := HSa1.out; rw [← hy.out] at this; exact this)
  rw [← hy.out]
  go_wp2_with fail
  go_loopw [4] (fun i wr => ∃ (j : Nat) (v' : Value), j ≤ y.length ∧ i = .int .i64 j ∧ Wr 1 5 base w4 wr bf v4 _ (encJ schGroup y j) v') (fun i _ => y.length - (intOf i).toNat)
  case atStart => exact ⟨0, v5, by omega, rfl, R2.out⟩
  case round =>
    obtain ⟨j, va, hj, rfl, hp⟩ := hrel
    have HP := Lib.hid hp
    have cd := HSy.out.cell (Y1.out.next hp).at_
    by_cases hjn : j < y.length
    · obtain ⟨b', o', ws, hA, hws, hat, hn1, hn2, hn3, hLw, hW⟩ := G2.out.itemAt LG2.out hjn hp
      subst hA
      obtain ⟨z, hz⟩ : ∃ z : Ty schGroup, Hid (z = y[j]) := ⟨_, Lib.hid rfl⟩
      rw [← hz.out] at hLw hW
      have HW := Lib.hid hW
      have HAt := Lib.hid hat
      have HN2 := Lib.hid hn2
      have hwl : ws.length = 3 := hws
      obtain ⟨qe1, ue1, hqe1, he1, te1, se1⟩ := Lay.split hLw
      have Se1 : Sub ws 1 ue1 := (Sub.self ws).trans se1
      have Te1 : Sub ws 0 qe1 := (Sub.self ws).trans te1
      obtain rfl := Lay.num hqe1
      have hle1 : ue1.length = 2 := Lay.len _ he1
      have LE1 := Lib.hid he1
      have ce : World.cell? _ ⟨b', o' + j * 3, none⟩ = _ := (Te1.at HAt.out).head
      go_wp2_with fail
      refine (out_num HW.out.first).mono ?_
      rintro e wz1 ⟨rfl, vz1, p⟩
      have RZ1 := Lib.hid p
      clear ce p
      have AT1 := Lib.hid (atRow RZ1.out HAt.out hn1 HN2.out)
      have CD1 := Lib.hid (HSy.out.cell (Y1.out.next (HP.out.trans RZ1.out)).at_)
      have cd1 := CD1.out
      have PZ1 := RZ1
      have HE2 : Hid (At _ b' (o' + j * 3 + 1) ue1) := Lib.hid (Se1.at AT1.out)
      have SE2 : Hid ((Tryz.prog.info? 27).map (·.size) = some ue1.length) := Lib.hid (by rw [hle1]; exact Tryz.sz27)
      go_wp2_with (refine wpList_load_mid rfl 27 _ rfl b' (o' + j * 3 + 1) rfl ue1 _ HE2.out Tryz.underlying27 rfl SE2.out ?_)
      refine (out_res base F _ bf _ _ ue1 _ (VaH.next HW.out PZ1.out) (HW.out.lay PZ1.out LE1.out)).mono ?_
      rintro e wz2 ⟨rfl, vz2, p⟩
      have RZ2 := Lib.hid p
      clear p
      have PZ2 := Lib.hid (Wr.both PZ1.out RZ2.out)
      have RZ := PZ2
      go_wp2_with fail
      go_roundw
      case rel => exact ⟨j + 1, _, by omega, by go_num, by rw [encJ_succ _ _ hjn, ← hz.out]; exact HP.out.trans RZ.out⟩
      case measure => simp [intOf]; omega
    · clear hp
      have hjy : j = y.length := by omega
      subst hjy
      obtain ⟨w6, hwr⟩ : ∃ w', w' = wr := ⟨_, rfl⟩
      obtain ⟨v6, hvr⟩ : ∃ v', v' = va := ⟨_, rfl⟩
      have RL2 : Hid (Wr 1 5 base w4 w6 bf v4 _ (enc (.list schGroup) (x.1.1.2)) v6) := Lib.hid (by rw [hwr, hvr, ← hy.out, ← encJ_all]; exact HP.out)
      clear cd HP
      rw [← hwr]
      clear hwr hvr
      have P2 := Lib.hid (Wr.both P1.out RL2.out)
      have Y2 := Lib.hid (X0.out.next P2.out)
      have cc3_2 := HSy.out.cell Y2.out.at_
      have cc := HSa2.out.cell Y2.out.at_
      go_wp2_with fail
      refine (out_num (VaH.next H.out.first P2.out)).mono ?_
      rintro e w7 ⟨rfl, v7, p⟩
      have R3 := Lib.hid p
      clear cc p
      have P3 := Lib.hid (Wr.both P2.out R3.out)
      have Y3 := Lib.hid (X0.out.next P3.out)
      have cc := HSa3.out.cell Y3.out.at_
      go_wp2_with fail
      refine (out_flag (VaH.next H.out P3.out)).mono ?_
      rintro e w8 ⟨rfl, v8, p⟩
      have R4 := Lib.hid p
      clear cc p
      have P4 := Lib.hid (Wr.both P3.out R4.out)
      have Y4 := Lib.hid (X0.out.next P4.out)
      go_wp2_with fail
      go_end0
      exact ⟨rfl, v8, P4.out.alloc⟩


set_option maxRecDepth 100000 in
set_option maxHeartbeats 1000000 in
theorem out_jobs : VaC1 Tryz.prog 111 (.list schJob) := by
  intro base F w bf v B u x h hL
  obtain ⟨A, c, e, _⟩ := Lay.slice hL
  injection e with e
  subst e
  have H := Lib.hid h
  have HL := Lib.hid hL
  have h64 := (okay_list h.okay).1
  have hlen := h.len
  simp only [bnd] at hlen
  clear h hL
  go_enter Tryz.func111, Tryz.ntmps111
  go_wp2_with fail
  refine (out_count (n := x.length) H.out.form h64 (by omega)).mono ?_
  rintro e w1 ⟨rfl, v1, p⟩
  have P : Hid (Wr 1 5 base w w1 bf v B (encJ schJob x 0) v1) := Lib.hid (by rw [encJ_zero]; exact p)
  clear p
  go_wp2_with fail
  go_loopw [4] (fun i wr => ∃ (j : Nat) (v' : Value), j ≤ x.length ∧ i = .int .i64 j ∧ Wr 1 5 base w wr bf v B (encJ schJob x j) v') (fun i _ => x.length - (intOf i).toNat)
  case atStart => exact ⟨0, v1, by omega, rfl, P.out⟩
  case round =>
    obtain ⟨j, v2, hj, rfl, hp⟩ := hrel
    have HP := Lib.hid hp
    by_cases hjn : j < x.length
    · obtain ⟨b', o', ws, rfl, hws, hat, hn1, hn2, hn3, hL, hW⟩ := H.out.itemAt HL.out hjn hp
      have HW := Lib.hid hW
      have HAt := Lib.hid hat
      have HLw := Lib.hid hL
      have hwl : ws.length = 7 := hws
      have SW : Hid ((Tryz.prog.info? 25).map (·.size) = some ws.length) := Lib.hid (by rw [hwl]; exact Tryz.size25)
      clear hp hat hL hW hws hn1 hn2 hn3
      go_wp2_with (refine wpList_load_mid rfl 25 _ rfl b' (o' + j * 7) rfl ws _ HAt.out Tryz.underlying25 rfl SW.out ?_)
      refine (out_job base F _ bf _ _ ws _ HW.out HLw.out).mono ?_
      rintro e w2 ⟨rfl, v3, q⟩
      have HQ := Lib.hid q
      clear q
      go_wp2_with fail
      go_roundw
      case rel => exact ⟨j + 1, v3, by omega, by go_num, by rw [encJ_succ _ _ hjn]; exact HP.out.trans HQ.out⟩
      case measure => simp [intOf]; omega
    · clear hp
      go_wp2_with fail
      go_end0
      obtain rfl : j = x.length := by omega
      exact ⟨rfl, v2, by rw [← encJ_all]; exact HP.out⟩

end Go.Proofs

set_option linter.unusedSimpArgs false
namespace Go.Proofs
open Go Go.RowKit Cod

set_option maxRecDepth 100000 in
set_option maxHeartbeats 1000000 in
theorem out_plan : VaC Tryz.prog 103 schPlan := by
  intro base F w bf v0 B VS x h hL
  have H := Lib.hid (h.alloc (.cells VS.toArray 34))
  have X0 := Lib.hid (Box.new h.form VS 34)
  obtain ⟨qa3, ua3, hqa3, ha3, ta3, sa3⟩ := Lay.split hL
  have Sa3 : Sub VS 5 ua3 := (Sub.self VS).trans sa3
  have Ta3 : Sub VS 0 qa3 := (Sub.self VS).trans ta3
  obtain ⟨qa2, ua2, hqa2, ha2, ta2, sa2⟩ := Lay.split hqa3
  have Sa2 : Sub VS 4 ua2 := Ta3.trans sa2
  have Ta2 : Sub VS 0 qa2 := Ta3.trans ta2
  obtain ⟨qa1, ua1, hqa1, ha1, ta1, sa1⟩ := Lay.split hqa2
  have Sa1 : Sub VS 3 ua1 := Ta2.trans sa1
  have Ta1 : Sub VS 0 qa1 := Ta2.trans ta1
  obtain ⟨qb0_2, ub0_2, hqb0_2, hb0_2, tb0_2, sb0_2⟩ := Lay.split hqa1
  have Sb0_2 : Sub VS 2 ub0_2 := Ta1.trans sb0_2
  have Tb0_2 : Sub VS 0 qb0_2 := Ta1.trans tb0_2
  obtain rfl := Lay.num hb0_2
  have HSb0_2 := Lib.hid Sb0_2
  clear Sb0_2 sb0_2 tb0_2
  obtain ⟨qb0_1, ub0_1, hqb0_1, hb0_1, tb0_1, sb0_1⟩ := Lay.split hqb0_2
  have Sb0_1 : Sub VS 1 ub0_1 := Tb0_2.trans sb0_1
  have Tb0_1 : Sub VS 0 qb0_1 := Tb0_2.trans tb0_1
  obtain rfl := Lay.num hb0_1
  have HSb0_1 := Lib.hid Sb0_1
  clear Sb0_1 sb0_1 tb0_1
  obtain ⟨qb0_0, ub0_0, hqb0_0, hb0_0, tb0_0, sb0_0⟩ := Lay.split hqb0_1
  have Sb0_0 : Sub VS 0 ub0_0 := Tb0_1.trans sb0_0
  have Tb0_0 : Sub VS 0 qb0_0 := Tb0_1.trans tb0_0
  obtain rfl := Lay.num hb0_0
  have HSb0_0 := Lib.hid Sb0_0
  clear Sb0_0 sb0_0 tb0_0
  have L1 := Lib.hid (h.layAlloc (.cells VS.toArray 34) ha1)
  obtain ⟨Aa1, ca1, rfl, _⟩ := Lay.slice ha1
  have HSa1 := Lib.hid Sa1
  have L2 := Lib.hid (h.layAlloc (.cells VS.toArray 34) ha2)
  obtain ⟨Aa2, ca2, rfl, _⟩ := Lay.slice ha2
  have HSa2 := Lib.hid Sa2
  obtain rfl := Lay.flag ha3
  have HSa3 := Lib.hid Sa3
  clear h
  go_enter Tryz.func103, Tryz.ntmps103
  have G1 := Lib.hid H.out.first.first.first
  have R1_0 := Lib.hid (G1.out.first.first.first).unit
  have cc := HSb0_0.out.cell X0.out.at_
  go_wp2_with fail
  refine (out_num (VaH.next G1.out.first.first R1_0.out)).mono ?_
  rintro e w1 ⟨rfl, v1, p⟩
  have R1_1 := Lib.hid (Wr.both R1_0.out p)
  have X1 := Lib.hid (X0.out.next R1_1.out)
  clear cc p R1_0
  have cc := HSb0_1.out.cell X1.out.at_
  go_wp2_with fail
  refine (out_num (VaH.next G1.out.first R1_1.out)).mono ?_
  rintro e w2 ⟨rfl, v2, p⟩
  have R1_2 := Lib.hid (Wr.both R1_1.out p)
  have X2 := Lib.hid (X0.out.next R1_2.out)
  clear cc p R1_1
  have cc := HSb0_2.out.cell X2.out.at_
  go_wp2_with fail
  refine (out_num (VaH.next G1.out R1_2.out)).mono ?_
  rintro e w3 ⟨rfl, v3, p⟩
  have R1_3 := Lib.hid (Wr.both R1_2.out p)
  have X3 := Lib.hid (X0.out.next R1_3.out)
  clear cc p R1_2
  have P1 := R1_3
  have Y1 := Lib.hid (X0.out.next P1.out)
  have cc := HSa1.out.cell Y1.out.at_
  go_wp2_with fail
  refine (out_nums base F _ bf _ _ _ _ (VaH.next H.out.first.first P1.out) (H.out.lay P1.out L1.out)).mono ?_
  rintro e w4 ⟨rfl, v4, p⟩
  have R2 := Lib.hid p
  clear cc p
  have P2 := Lib.hid (Wr.both P1.out R2.out)
  have Y2 := Lib.hid (X0.out.next P2.out)
  have cc := HSa2.out.cell Y2.out.at_
  go_wp2_with fail
  refine (out_allocs base F _ bf _ _ _ _ (VaH.next H.out.first P2.out) (H.out.lay P2.out L2.out)).mono ?_
  rintro e w5 ⟨rfl, v5, p⟩
  have R3 := Lib.hid p
  clear cc p
  have P3 := Lib.hid (Wr.both P2.out R3.out)
  have Y3 := Lib.hid (X0.out.next P3.out)
  have cc := HSa3.out.cell Y3.out.at_
  go_wp2_with fail
  refine (out_flag (VaH.next H.out P3.out)).mono ?_
  rintro e w6 ⟨rfl, v6, p⟩
  have R4 := Lib.hid p
  clear cc p
  have P4 := Lib.hid (Wr.both P3.out R4.out)
  have Y4 := Lib.hid (X0.out.next P4.out)
  go_wp2_with fail
  go_end0
  exact ⟨rfl, v6, P4.out.alloc⟩


set_option maxRecDepth 100000 in
set_option maxHeartbeats 1000000 in
theorem out_snapshot : VaC Tryz.prog 76 schSnapshot := by
  intro base F w bf v0 B VS x h hL
  have H := Lib.hid (h.alloc (.cells VS.toArray 60))
  have X0 := Lib.hid (Box.new h.form VS 60)
  obtain ⟨qa2, ua2, hqa2, ha2, ta2, sa2⟩ := Lay.split hL
  have Sa2 : Sub VS 4 ua2 := (Sub.self VS).trans sa2
  have Ta2 : Sub VS 0 qa2 := (Sub.self VS).trans ta2
  obtain ⟨qa1, ua1, hqa1, ha1, ta1, sa1⟩ := Lay.split hqa2
  have Sa1 : Sub VS 2 ua1 := Ta2.trans sa1
  have Ta1 : Sub VS 0 qa1 := Ta2.trans ta1
  obtain ⟨qb0_1, ub0_1, hqb0_1, hb0_1, tb0_1, sb0_1⟩ := Lay.split hqa1
  have Sb0_1 : Sub VS 1 ub0_1 := Ta1.trans sb0_1
  have Tb0_1 : Sub VS 0 qb0_1 := Ta1.trans tb0_1
  obtain rfl := Lay.num hb0_1
  have HSb0_1 := Lib.hid Sb0_1
  clear Sb0_1 sb0_1 tb0_1
  obtain ⟨qb0_0, ub0_0, hqb0_0, hb0_0, tb0_0, sb0_0⟩ := Lay.split hqb0_1
  have Sb0_0 : Sub VS 0 ub0_0 := Tb0_1.trans sb0_0
  have Tb0_0 : Sub VS 0 qb0_0 := Tb0_1.trans tb0_0
  obtain rfl := Lay.num hb0_0
  have HSb0_0 := Lib.hid Sb0_0
  clear Sb0_0 sb0_0 tb0_0
  have L1 := Lib.hid (h.layAlloc (.cells VS.toArray 60) ha1)
  have hl1 : ua1.length = 2 := Lay.len _ ha1
  have HSa1 := Lib.hid Sa1
  have L2 := Lib.hid (h.layAlloc (.cells VS.toArray 60) ha2)
  obtain ⟨Aa2, na2, ca2, rfl, _⟩ := Lay.rawv ha2
  have HSa2 := Lib.hid Sa2
  clear h
  go_enter Tryz.func76, Tryz.ntmps76
  have G1 := Lib.hid H.out.first.first
  have R1_0 := Lib.hid (G1.out.first.first).unit
  have cc := HSb0_0.out.cell X0.out.at_
  go_wp2_with fail
  refine (out_num (VaH.next G1.out.first R1_0.out)).mono ?_
  rintro e w1 ⟨rfl, v1, p⟩
  have R1_1 := Lib.hid (Wr.both R1_0.out p)
  have X1 := Lib.hid (X0.out.next R1_1.out)
  clear cc p R1_0
  have cc := HSb0_1.out.cell X1.out.at_
  go_wp2_with fail
  refine (out_num (VaH.next G1.out R1_1.out)).mono ?_
  rintro e w2 ⟨rfl, v2, p⟩
  have R1_2 := Lib.hid (Wr.both R1_1.out p)
  have X2 := Lib.hid (X0.out.next R1_2.out)
  clear cc p R1_1
  have P1 := R1_2
  have Y1 := Lib.hid (X0.out.next P1.out)
  have HE2 : Hid (At _ w.heap.size 2 ua1) := Lib.hid (by have := HSa1.out.at Y1.out.at_; rwa [Nat.zero_add] at this)
  have SE2 : Hid ((Tryz.prog.info? 36).map (·.size) = some ua1.length) := Lib.hid (by rw [hl1]; exact Tryz.sz36)
  go_wp2_with (refine wpList_load_mid rfl 36 _ rfl w.heap.size 2 rfl ua1 _ HE2.out Tryz.underlying36 rfl SE2.out ?_)
  refine (out_conf base F _ bf _ _ ua1 _ (VaH.next H.out.first P1.out) (H.out.lay P1.out L1.out)).mono ?_
  rintro e w3 ⟨rfl, v3, p⟩
  have R2 := Lib.hid p
  clear p
  have P2 := Lib.hid (Wr.both P1.out R2.out)
  have Y2 := Lib.hid (X0.out.next P2.out)
  have cc := HSa2.out.cell Y2.out.at_
  go_wp2_with fail
  refine (out_bytes base F _ bf _ _ _ _ (VaH.next H.out P2.out) (H.out.lay P2.out L2.out)).mono ?_
  rintro e w4 ⟨rfl, v4, p⟩
  have R3 := Lib.hid p
  clear cc p
  have P3 := Lib.hid (Wr.both P2.out R3.out)
  have Y3 := Lib.hid (X0.out.next P3.out)
  go_wp2_with fail
  go_end0
  exact ⟨rfl, v4, P3.out.alloc⟩

end Go.Proofs
