/- A part of the document's writers. -/
import Derived.Test.YthclnpigplcckaaGreatProg
import Derived.Test.YthclnpigplcckaaGreatLibs
import Derived.Test.YthclnpigplcckaaGreatOc
import Derived.Test.YthclnpigplcckaaGreatZg
import Derived.Test.YthclnpigplcckaaGreatWh
import Derived.WalkSpells
import Derived.WalkLawsBesides
import Derived.Deep.LoopGhost
import Derived.Lib.Hide
import Derived.Deep.RegionWith
import Derived.Maps.AppendAt
import Derived.KernelRfl
set_option linter.unusedSimpArgs false
set_option linter.unusedVariables false

set_option linter.unusedSimpArgs false
namespace Go.Proofs
open Go Go.RowKit Cod

set_option maxRecDepth 100000 in
set_option maxHeartbeats 1000000 in
theorem out_msg : VaC Tryz.prog 75 schMsg := by
  intro base F w bf v0 B VS x h hL
  have H := Lib.hid (h.alloc (.cells VS.toArray 55))
  have X0 := Lib.hid (Box.new h.form VS 55)
  obtain ⟨qa7, ua7, hqa7, ha7, ta7, sa7⟩ := Lay.split hL
  have Sa7 : Sub VS 43 ua7 := (Sub.self VS).trans sa7
  have Ta7 : Sub VS 0 qa7 := (Sub.self VS).trans ta7
  obtain ⟨qa6, ua6, hqa6, ha6, ta6, sa6⟩ := Lay.split hqa7
  have Sa6 : Sub VS 16 ua6 := Ta7.trans sa6
  have Ta6 : Sub VS 0 qa6 := Ta7.trans ta6
  obtain ⟨qa5, ua5, hqa5, ha5, ta5, sa5⟩ := Lay.split hqa6
  have Sa5 : Sub VS 15 ua5 := Ta6.trans sa5
  have Ta5 : Sub VS 0 qa5 := Ta6.trans ta5
  obtain ⟨qa4, ua4, hqa4, ha4, ta4, sa4⟩ := Lay.split hqa5
  have Sa4 : Sub VS 13 ua4 := Ta5.trans sa4
  have Ta4 : Sub VS 0 qa4 := Ta5.trans ta4
  obtain ⟨qa3, ua3, hqa3, ha3, ta3, sa3⟩ := Lay.split hqa4
  have Sa3 : Sub VS 12 ua3 := Ta4.trans sa3
  have Ta3 : Sub VS 0 qa3 := Ta4.trans ta3
  obtain ⟨qa2, ua2, hqa2, ha2, ta2, sa2⟩ := Lay.split hqa3
  have Sa2 : Sub VS 8 ua2 := Ta3.trans sa2
  have Ta2 : Sub VS 0 qa2 := Ta3.trans ta2
  obtain ⟨qa1, ua1, hqa1, ha1, ta1, sa1⟩ := Lay.split hqa2
  have Sa1 : Sub VS 7 ua1 := Ta2.trans sa1
  have Ta1 : Sub VS 0 qa1 := Ta2.trans ta1
  obtain ⟨qb0_6, ub0_6, hqb0_6, hb0_6, tb0_6, sb0_6⟩ := Lay.split hqa1
  have Sb0_6 : Sub VS 6 ub0_6 := Ta1.trans sb0_6
  have Tb0_6 : Sub VS 0 qb0_6 := Ta1.trans tb0_6
  obtain rfl := Lay.num hb0_6
  have HSb0_6 := Lib.hid Sb0_6
  clear Sb0_6 sb0_6 tb0_6
  obtain ⟨qb0_5, ub0_5, hqb0_5, hb0_5, tb0_5, sb0_5⟩ := Lay.split hqb0_6
  have Sb0_5 : Sub VS 5 ub0_5 := Tb0_6.trans sb0_5
  have Tb0_5 : Sub VS 0 qb0_5 := Tb0_6.trans tb0_5
  obtain rfl := Lay.num hb0_5
  have HSb0_5 := Lib.hid Sb0_5
  clear Sb0_5 sb0_5 tb0_5
  obtain ⟨qb0_4, ub0_4, hqb0_4, hb0_4, tb0_4, sb0_4⟩ := Lay.split hqb0_5
  have Sb0_4 : Sub VS 4 ub0_4 := Tb0_5.trans sb0_4
  have Tb0_4 : Sub VS 0 qb0_4 := Tb0_5.trans tb0_4
  obtain rfl := Lay.num hb0_4
  have HSb0_4 := Lib.hid Sb0_4
  clear Sb0_4 sb0_4 tb0_4
  obtain ⟨qb0_3, ub0_3, hqb0_3, hb0_3, tb0_3, sb0_3⟩ := Lay.split hqb0_4
  have Sb0_3 : Sub VS 3 ub0_3 := Tb0_4.trans sb0_3
  have Tb0_3 : Sub VS 0 qb0_3 := Tb0_4.trans tb0_3
  obtain rfl := Lay.num hb0_3
  have HSb0_3 := Lib.hid Sb0_3
  clear Sb0_3 sb0_3 tb0_3
  obtain ⟨qb0_2, ub0_2, hqb0_2, hb0_2, tb0_2, sb0_2⟩ := Lay.split hqb0_3
  have Sb0_2 : Sub VS 2 ub0_2 := Tb0_3.trans sb0_2
  have Tb0_2 : Sub VS 0 qb0_2 := Tb0_3.trans tb0_2
  obtain rfl := Lay.num hb0_2
  have HSb0_2 := Lib.hid Sb0_2
  clear Sb0_2 sb0_2 tb0_2
  obtain ⟨qb0_1, ub0_1, hqb0_1, hb0_1, tb0_1, sb0_1⟩ := Lay.split hqb0_2
  have Sb0_1 : Sub VS 1 ub0_1 := Tb0_2.trans sb0_1
  have Tb0_1 : Sub VS 0 qb0_1 := Tb0_2.trans tb0_1
  obtain rfl := Lay.num hb0_1
  have HSb0_1 := Lib.hid Sb0_1
  clear Sb0_1 sb0_1 tb0_1
  obtain ⟨qb0_0, ub0_0, hqb0_0, hb0_0, tb0_0, sb0_0⟩ := Lay.split hqb0_1
  have Sb0_0 : Sub VS 0 ub0_0 := Tb0_1.trans sb0_0
  have Tb0_0 : Sub VS 0 qb0_0 := Tb0_1.trans tb0_0
  obtain rfl := Lay.num hb0_0
  have HSb0_0 := Lib.hid Sb0_0
  clear Sb0_0 sb0_0 tb0_0
  obtain rfl := Lay.flag ha1
  have HSa1 := Lib.hid Sa1
  obtain ⟨qb2_3, ub2_3, hqb2_3, hb2_3, tb2_3, sb2_3⟩ := Lay.split ha2
  have Sb2_3 : Sub VS 11 ub2_3 := Sa2.trans sb2_3
  have Tb2_3 : Sub VS 8 qb2_3 := Sa2.trans tb2_3
  obtain rfl := Lay.num hb2_3
  have HSb2_3 := Lib.hid Sb2_3
  clear Sb2_3 sb2_3 tb2_3
  obtain ⟨qb2_2, ub2_2, hqb2_2, hb2_2, tb2_2, sb2_2⟩ := Lay.split hqb2_3
  have Sb2_2 : Sub VS 10 ub2_2 := Tb2_3.trans sb2_2
  have Tb2_2 : Sub VS 8 qb2_2 := Tb2_3.trans tb2_2
  obtain rfl := Lay.num hb2_2
  have HSb2_2 := Lib.hid Sb2_2
  clear Sb2_2 sb2_2 tb2_2
  obtain ⟨qb2_1, ub2_1, hqb2_1, hb2_1, tb2_1, sb2_1⟩ := Lay.split hqb2_2
  have Sb2_1 : Sub VS 9 ub2_1 := Tb2_2.trans sb2_1
  have Tb2_1 : Sub VS 8 qb2_1 := Tb2_2.trans tb2_1
  obtain rfl := Lay.num hb2_1
  have HSb2_1 := Lib.hid Sb2_1
  clear Sb2_1 sb2_1 tb2_1
  obtain ⟨qb2_0, ub2_0, hqb2_0, hb2_0, tb2_0, sb2_0⟩ := Lay.split hqb2_1
  have Sb2_0 : Sub VS 8 ub2_0 := Tb2_1.trans sb2_0
  have Tb2_0 : Sub VS 8 qb2_0 := Tb2_1.trans tb2_0
  obtain rfl := Lay.num hb2_0
  have HSb2_0 := Lib.hid Sb2_0
  clear Sb2_0 sb2_0 tb2_0
  have L3 := Lib.hid (h.layAlloc (.cells VS.toArray 55) ha3)
  obtain ⟨Aa3, ca3, rfl, _⟩ := Lay.slice ha3
  have HSa3 := Lib.hid Sa3
  have L4 := Lib.hid (h.layAlloc (.cells VS.toArray 55) ha4)
  have hl4 : ua4.length = 2 := Lay.len _ ha4
  have HSa4 := Lib.hid Sa4
  have L5 := Lib.hid (h.layAlloc (.cells VS.toArray 55) ha5)
  obtain ⟨Aa5, na5, ca5, rfl, _⟩ := Lay.rawv ha5
  have HSa5 := Lib.hid Sa5
  have L6 := Lib.hid (h.layAlloc (.cells VS.toArray 55) ha6)
  have hl6 : ua6.length = 27 := Lay.len _ ha6
  have HSa6 := Lib.hid Sa6
  have L7 := Lib.hid (h.layAlloc (.cells VS.toArray 55) ha7)
  have hl7 : ua7.length = 3 := Lay.len _ ha7
  have HSa7 := Lib.hid Sa7
  clear h
  go_enter Tryz.func75, Tryz.ntmps75
  have G1 := Lib.hid H.out.first.first.first.first.first.first.first
  have cc1_0 := HSb0_0.out.cell X0.out.at_
  have cc1_1 := HSb0_1.out.cell X0.out.at_
  have cc1_2 := HSb0_2.out.cell X0.out.at_
  have cc1_3 := HSb0_3.out.cell X0.out.at_
  have cc1_4 := HSb0_4.out.cell X0.out.at_
  have cc1_5 := HSb0_5.out.cell X0.out.at_
  have cc1_6 := HSb0_6.out.cell X0.out.at_
  go_wp2_with fail
  refine (out_nums16' (n := 7) (F := F) (x := x.1.1.1.1.1.1.1) G1.out (by first | rfl | simp) rfl (by omega)).mono ?_
  rintro e w1 ⟨rfl, v1, p⟩
  have R1_7 := Lib.hid p
  clear p cc1_0 cc1_1 cc1_2 cc1_3 cc1_4 cc1_5 cc1_6
  have P1 := R1_7
  have Y1 := Lib.hid (X0.out.next P1.out)
  have cc := HSa1.out.cell Y1.out.at_
  go_wp2_with fail
  refine (out_flag (VaH.next H.out.first.first.first.first.first.first P1.out)).mono ?_
  rintro e w2 ⟨rfl, v2, p⟩
  have R2 := Lib.hid p
  clear cc p
  have P2 := Lib.hid (Wr.both P1.out R2.out)
  have Y2 := Lib.hid (X0.out.next P2.out)
  have G3 := Lib.hid (VaH.next H.out.first.first.first.first.first P2.out)
  have cc3_0 := HSb2_0.out.cell Y2.out.at_
  have cc3_1 := HSb2_1.out.cell Y2.out.at_
  have cc3_2 := HSb2_2.out.cell Y2.out.at_
  have cc3_3 := HSb2_3.out.cell Y2.out.at_
  go_wp2_with fail
  refine (out_nums16' (n := 4) (F := F) (x := x.1.1.1.1.1.2) G3.out (by first | rfl | simp) rfl (by omega)).mono ?_
  rintro e w3 ⟨rfl, v3, p⟩
  have R3_4 := Lib.hid p
  clear p cc3_0 cc3_1 cc3_2 cc3_3
  have P3 := Lib.hid (Wr.both P2.out R3_4.out)
  have Y3 := Lib.hid (X0.out.next P3.out)
  have G4 := Lib.hid (VaH.next H.out.first.first.first.first P3.out)
  have LG4 := Lib.hid (H.out.lay P3.out L3.out)
  have cc := HSa3.out.cell Y3.out.at_
  have h64 := (okay_list G4.out.okay).1
  have hlen := G4.out.len
  simp only [bnd] at hlen
  go_wp2_with fail
  refine (out_count (n := (x.1.1.1.1.2).length) G4.out.form h64 (by omega)).mono ?_
  rintro e w4 ⟨rfl, v4, p⟩
  have R4 : Hid (Wr 1 5 base w3 w4 bf v3 _ (encJ schEntry (x.1.1.1.1.2) 0) v4) := Lib.hid (by rw [encJ_zero]; exact p)
  have cc2 := HSa3.out.cell (Y3.out.next p).at_
  clear p cc hlen
  obtain ⟨y, hy⟩ : ∃ y : List (Ty schEntry), Hid (y = x.1.1.1.1.2) := ⟨_, Lib.hid rfl⟩
  rw [← hy.out] at G4 LG4 R4 cc2 h64
  have HSy := Lib.hid (by have := HSa3.out; rw [← hy.out] at this; exact this)
  rw [← hy.out]
  go_wp2_with fail
  go_loopw [4] (fun i wr => ∃ (j : Nat) (v' : Value), j ≤ y.length ∧ i = .int .i64 j ∧ Wr 1 5 base w3 wr bf v3 _ (encJ schEntry y j) v') (fun i _ => y.length - (intOf i).toNat)
  case atStart => exact ⟨0, v4, by omega, rfl, R4.out⟩
  case round =>
    obtain ⟨j, va, hj, rfl, hp⟩ := hrel
    have HP := Lib.hid hp
    have cd := HSy.out.cell (Y3.out.next hp).at_
    by_cases hjn : j < y.length
    · obtain ⟨b', o', ws, hA, hws, hat, hn1, hn2, hn3, hLw, hW⟩ := G4.out.itemAt LG4.out hjn hp
      subst hA
      obtain ⟨z, hz⟩ : ∃ z : Ty schEntry, Hid (z = y[j]) := ⟨_, Lib.hid rfl⟩
      rw [← hz.out] at hLw hW
      have HW := Lib.hid hW
      have HAt := Lib.hid hat
      have HN2 := Lib.hid hn2
      have hwl : ws.length = 29 := hws
      have HLw := Lib.hid hLw
      have SW : Hid ((Tryz.prog.info? 47).map (·.size) = some ws.length) := Lib.hid (by rw [hwl]; exact Tryz.size47)
      clear hp hat hLw hW hn2
      go_wp2_with (refine wpList_load_mid rfl 47 _ rfl b' (o' + j * 29) rfl ws _ HAt.out Tryz.underlying47 rfl SW.out ?_)
      refine (out_entry base F _ bf _ _ ws z HW.out HLw.out).mono ?_
      rintro e wz ⟨rfl, vz, p⟩
      have RZ := Lib.hid p
      clear p
      go_wp2_with fail
      go_roundw
      case rel => exact ⟨j + 1, _, by omega, by go_num, by rw [encJ_succ _ _ hjn, ← hz.out]; exact HP.out.trans RZ.out⟩
      case measure => simp [intOf]; omega
    · clear hp
      have hjy : j = y.length := by omega
      subst hjy
      obtain ⟨w5, hwr⟩ : ∃ w', w' = wr := ⟨_, rfl⟩
      obtain ⟨v5, hvr⟩ : ∃ v', v' = va := ⟨_, rfl⟩
      have RL4 : Hid (Wr 1 5 base w3 w5 bf v3 _ (enc (.list schEntry) (x.1.1.1.1.2)) v5) := Lib.hid (by rw [hwr, hvr, ← hy.out, ← encJ_all]; exact HP.out)
      clear cd HP
      rw [← hwr]
      clear hwr hvr
      have P4 := Lib.hid (Wr.both P3.out RL4.out)
      have Y4 := Lib.hid (X0.out.next P4.out)
      have cc3_4 := HSy.out.cell Y4.out.at_
      have HE5 : Hid (At _ w.heap.size 13 ua4) := Lib.hid (by have := HSa4.out.at Y4.out.at_; rwa [Nat.zero_add] at this)
      have SE5 : Hid ((Tryz.prog.info? 36).map (·.size) = some ua4.length) := Lib.hid (by rw [hl4]; exact Tryz.sz36)
      go_wp2_with (refine wpList_load_mid rfl 36 _ rfl w.heap.size 13 rfl ua4 _ HE5.out Tryz.underlying36 rfl SE5.out ?_)
      refine (out_conf base F _ bf _ _ ua4 _ (VaH.next H.out.first.first.first P4.out) (H.out.lay P4.out L4.out)).mono ?_
      rintro e w6 ⟨rfl, v6, p⟩
      have R5 := Lib.hid p
      clear p
      have P5 := Lib.hid (Wr.both P4.out R5.out)
      have Y5 := Lib.hid (X0.out.next P5.out)
      have cc := HSa5.out.cell Y5.out.at_
      go_wp2_with fail
      refine (out_bytes base F _ bf _ _ _ _ (VaH.next H.out.first.first P5.out) (H.out.lay P5.out L5.out)).mono ?_
      rintro e w7 ⟨rfl, v7, p⟩
      have R6 := Lib.hid p
      clear cc p
      have P6 := Lib.hid (Wr.both P5.out R6.out)
      have Y6 := Lib.hid (X0.out.next P6.out)
      have HE7 : Hid (At _ w.heap.size 16 ua6) := Lib.hid (by have := HSa6.out.at Y6.out.at_; rwa [Nat.zero_add] at this)
      have SE7 : Hid ((Tryz.prog.info? 38).map (·.size) = some ua6.length) := Lib.hid (by rw [hl6]; exact Tryz.sz38)
      go_wp2_with (refine wpList_load_mid rfl 38 _ rfl w.heap.size 16 rfl ua6 _ HE7.out Tryz.underlying38 rfl SE7.out ?_)
      refine (out_cmd base F _ bf _ _ ua6 _ (VaH.next H.out.first P6.out) (H.out.lay P6.out L6.out)).mono ?_
      rintro e w8 ⟨rfl, v8, p⟩
      have R7 := Lib.hid p
      clear p
      have P7 := Lib.hid (Wr.both P6.out R7.out)
      have Y7 := Lib.hid (X0.out.next P7.out)
      have HE8 : Hid (At _ w.heap.size 43 ua7) := Lib.hid (by have := HSa7.out.at Y7.out.at_; rwa [Nat.zero_add] at this)
      have SE8 : Hid ((Tryz.prog.info? 53).map (·.size) = some ua7.length) := Lib.hid (by rw [hl7]; exact Tryz.sz53)
      go_wp2_with (refine wpList_load_mid rfl 53 _ rfl w.heap.size 43 rfl ua7 _ HE8.out Tryz.underlying53 rfl SE8.out ?_)
      refine (out_result base F _ bf _ _ ua7 _ (VaH.next H.out P7.out) (H.out.lay P7.out L7.out)).mono ?_
      rintro e w9 ⟨rfl, v9, p⟩
      have R8 := Lib.hid p
      clear p
      have P8 := Lib.hid (Wr.both P7.out R8.out)
      have Y8 := Lib.hid (X0.out.next P8.out)
      go_wp2_with fail
      go_end0
      exact ⟨rfl, v9, P8.out.alloc⟩

end Go.Proofs
