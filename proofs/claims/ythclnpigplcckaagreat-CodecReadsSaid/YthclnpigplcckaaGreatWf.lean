/- A part of the codec's writers. -/
import Derived.Test.YthclnpigplcckaaGreatProg
import Derived.Test.YthclnpigplcckaaGreatLibs
import Derived.Test.YthclnpigplcckaaGreatWd
import Derived.WalkSpells
import Derived.WalkLawsBesides
import Derived.Deep.LoopGhost
import Derived.Lib.Hide
import Derived.Deep.RegionWith
import Derived.Maps.AppendAt
import Derived.KernelRfl
set_option linter.unusedSimpArgs false
set_option linter.unusedVariables false

set_option linter.unusedSimpArgs false
namespace Go.Proofs
open Go Go.RowKit Cod

theorem Tryz.size29 : (Tryz.prog.info? 29).map (·.size) = some 8 := by kernel_rfl

set_option maxRecDepth 100000 in
set_option maxHeartbeats 1000000 in
theorem list78_wr {base : Nat} {F : Nat → Prop} {w : World} {bf b o : Nat} {v : Value} {B : List UInt8} {x : Ty (.list schNode)} (h : WoH 2 5 base (.list schNode) F w bf b o v B x) :
    Calls Tryz.prog 78 #[.pointer (some ⟨bf, 0, none⟩), .pointer (some ⟨b, o, none⟩), .func (.func 51) #[.pointer (some ⟨bf, 0, none⟩)] #[]] w (WoEnd 2 5 base w bf v B (enc (.list schNode) x)) := by
  have H := Lib.hid h
  obtain ⟨A, c, cb⟩ := h.slice
  have hlb := h.lt
  have hne := h.ne
  have HNB := Lib.hid h.nv
  have h64 := (okay_list h.okay).1
  have hlen := h.len
  simp only [bnd] at hlen
  clear h
  go_enter Tryz.func78, Tryz.ntmps78
  go_wp2_with fail
  refine (many_wr (n := x.length) 64 H.out.form (by omega) (by omega) (by omega)).mono ?_
  rintro e w1 ⟨rfl, v1, p⟩
  have P : Hid (Wr 2 5 base w w1 bf v B (encJ schNode x 0) v1) := Lib.hid (by rw [encJ_zero]; exact p)
  have c1 := p.form.flag 0 (by omega)
  have c2 := p.cellAt cb hne HNB.out
  clear p
  go_wp2_with fail
  go_loopw [25] (fun i wr => ∃ (j : Nat) (v' : Value), j ≤ x.length ∧ i = .int .i64 j ∧ Wr 2 5 base w wr bf v B (encJ schNode x j) v') (fun i _ => x.length - (intOf i).toNat)
  case atStart => exact ⟨0, v1, by omega, rfl, P.out⟩
  case round =>
    obtain ⟨j, v2, hj, rfl, hp⟩ := hrel
    have HP := Lib.hid hp
    have d1 := hp.form.flag 1 (by omega)
    have d2 := hp.cellAt cb hne HNB.out
    by_cases hjn : j < x.length
    · obtain ⟨b', o', ws, rfl, hws, hat, h1, hL, hW⟩ := H.out.itemAt cb hjn hp
      have HAt := Lib.hid hat
      have HW := Lib.hid (hW 29)
      have hws3 : ws.length = 8 := hws
      have SW : Hid ((Tryz.prog.info? 29).map (·.size) = some ws.toArray.size) := Lib.hid (by show _ = some ws.length; rw [hws3]; exact Tryz.size29)
      have HC := Lib.hid hws3
      have OW := Lib.hid (all_oneCell_toArray h1)
      clear hp hat h1 hL hW
      go_wp2_with (first
        | (refine wpList_load_mid rfl 29 _ rfl b' (o' + j * 8) rfl ws _ HAt.out Tryz.underlying29 rfl SW.out ?_)
        | (refine wpList_store_new rfl 29 _ _ rfl rfl rfl SW.out HC.out.symm OW.out ?_))
      refine (node_wr base F _ bf wr.heap.size 0 v2 _ _ HW.out).mono ?_
      rintro e w2 ⟨rfl, v3, q⟩
      have HQ := Lib.hid q.alloc
      clear q
      go_wp2_with fail
      go_roundw
      case rel => exact ⟨j + 1, v3, by omega, by go_num, by rw [encJ_succ _ _ hjn]; exact HP.out.trans HQ.out⟩
      case measure => simp [intOf]; omega
    · clear hp
      go_wp2_with fail
      go_end0
      obtain rfl : j = x.length := by omega
      exact ⟨rfl, v2, by rw [← encJ_all]; exact HP.out⟩

theorem Tryz.size118 : (Tryz.prog.info? 118).map (·.size) = some 2 := by kernel_rfl

set_option maxRecDepth 100000 in
set_option maxHeartbeats 1000000 in
theorem list52_wr {base : Nat} {F : Nat → Prop} {w : World} {bf b o : Nat} {v : Value} {B : List UInt8} {x : Ty (.list schReport)} (h : WoH 2 5 base (.list schReport) F w bf b o v B x) :
    Calls Tryz.prog 52 #[.pointer (some ⟨bf, 0, none⟩), .pointer (some ⟨b, o, none⟩), .func (.func 53) #[.pointer (some ⟨bf, 0, none⟩)] #[]] w (WoEnd 2 5 base w bf v B (enc (.list schReport) x)) := by
  have H := Lib.hid h
  obtain ⟨A, c, cb⟩ := h.slice
  have hlb := h.lt
  have hne := h.ne
  have HNB := Lib.hid h.nv
  have h64 := (okay_list h.okay).1
  have hlen := h.len
  simp only [bnd] at hlen
  clear h
  go_enter Tryz.func52, Tryz.ntmps52
  go_wp2_with fail
  refine (many_wr (n := x.length) 64 H.out.form (by omega) (by omega) (by omega)).mono ?_
  rintro e w1 ⟨rfl, v1, p⟩
  have P : Hid (Wr 2 5 base w w1 bf v B (encJ schReport x 0) v1) := Lib.hid (by rw [encJ_zero]; exact p)
  have c1 := p.form.flag 0 (by omega)
  have c2 := p.cellAt cb hne HNB.out
  clear p
  go_wp2_with fail
  go_loopw [25] (fun i wr => ∃ (j : Nat) (v' : Value), j ≤ x.length ∧ i = .int .i64 j ∧ Wr 2 5 base w wr bf v B (encJ schReport x j) v') (fun i _ => x.length - (intOf i).toNat)
  case atStart => exact ⟨0, v1, by omega, rfl, P.out⟩
  case round =>
    obtain ⟨j, v2, hj, rfl, hp⟩ := hrel
    have HP := Lib.hid hp
    have d1 := hp.form.flag 1 (by omega)
    have d2 := hp.cellAt cb hne HNB.out
    by_cases hjn : j < x.length
    · obtain ⟨b', o', ws, rfl, hws, hat, h1, hL, hW⟩ := H.out.itemAt cb hjn hp
      have HAt := Lib.hid hat
      have HW := Lib.hid (hW 118)
      have hws3 : ws.length = 2 := hws
      have SW : Hid ((Tryz.prog.info? 118).map (·.size) = some ws.toArray.size) := Lib.hid (by show _ = some ws.length; rw [hws3]; exact Tryz.size118)
      have HC := Lib.hid hws3
      have OW := Lib.hid (all_oneCell_toArray h1)
      clear hp hat h1 hL hW
      go_wp2_with (first
        | (refine wpList_load_mid rfl 118 _ rfl b' (o' + j * 2) rfl ws _ HAt.out Tryz.underlying118 rfl SW.out ?_)
        | (refine wpList_store_new rfl 118 _ _ rfl rfl rfl SW.out HC.out.symm OW.out ?_))
      refine (report_wr base F _ bf wr.heap.size 0 v2 _ _ HW.out).mono ?_
      rintro e w2 ⟨rfl, v3, q⟩
      have HQ := Lib.hid q.alloc
      clear q
      go_wp2_with fail
      go_roundw
      case rel => exact ⟨j + 1, v3, by omega, by go_num, by rw [encJ_succ _ _ hjn]; exact HP.out.trans HQ.out⟩
      case measure => simp [intOf]; omega
    · clear hp
      go_wp2_with fail
      go_end0
      obtain rfl : j = x.length := by omega
      exact ⟨rfl, v2, by rw [← encJ_all]; exact HP.out⟩
end Go.Proofs

set_option linter.unusedSimpArgs false
namespace Go.Proofs
open Go Go.RowKit Cod

theorem Tryz.size162 : (Tryz.prog.info? 162).map (·.size) = some 11 := by kernel_rfl

set_option maxRecDepth 100000 in
set_option maxHeartbeats 1000000 in
theorem list79_wr {base : Nat} {F : Nat → Prop} {w : World} {bf b o : Nat} {v : Value} {B : List UInt8} {x : Ty (.list schAlloc)} (h : WoH 2 5 base (.list schAlloc) F w bf b o v B x) :
    Calls Tryz.prog 79 #[.pointer (some ⟨bf, 0, none⟩), .pointer (some ⟨b, o, none⟩), .func (.func 80) #[.pointer (some ⟨bf, 0, none⟩)] #[]] w (WoEnd 2 5 base w bf v B (enc (.list schAlloc) x)) := by
  have H := Lib.hid h
  obtain ⟨A, c, cb⟩ := h.slice
  have hlb := h.lt
  have hne := h.ne
  have HNB := Lib.hid h.nv
  have h64 := (okay_list h.okay).1
  have hlen := h.len
  simp only [bnd] at hlen
  clear h
  go_enter Tryz.func79, Tryz.ntmps79
  go_wp2_with fail
  refine (many_wr (n := x.length) 64 H.out.form (by omega) (by omega) (by omega)).mono ?_
  rintro e w1 ⟨rfl, v1, p⟩
  have P : Hid (Wr 2 5 base w w1 bf v B (encJ schAlloc x 0) v1) := Lib.hid (by rw [encJ_zero]; exact p)
  have c1 := p.form.flag 0 (by omega)
  have c2 := p.cellAt cb hne HNB.out
  clear p
  go_wp2_with fail
  go_loopw [25] (fun i wr => ∃ (j : Nat) (v' : Value), j ≤ x.length ∧ i = .int .i64 j ∧ Wr 2 5 base w wr bf v B (encJ schAlloc x j) v') (fun i _ => x.length - (intOf i).toNat)
  case atStart => exact ⟨0, v1, by omega, rfl, P.out⟩
  case round =>
    obtain ⟨j, v2, hj, rfl, hp⟩ := hrel
    have HP := Lib.hid hp
    have d1 := hp.form.flag 1 (by omega)
    have d2 := hp.cellAt cb hne HNB.out
    by_cases hjn : j < x.length
    · obtain ⟨b', o', ws, rfl, hws, hat, h1, hL, hW⟩ := H.out.itemAt cb hjn hp
      have HAt := Lib.hid hat
      have HW := Lib.hid (hW 162)
      have hws3 : ws.length = 11 := hws
      have SW : Hid ((Tryz.prog.info? 162).map (·.size) = some ws.toArray.size) := Lib.hid (by show _ = some ws.length; rw [hws3]; exact Tryz.size162)
      have HC := Lib.hid hws3
      have OW := Lib.hid (all_oneCell_toArray h1)
      clear hp hat h1 hL hW
      go_wp2_with (first
        | (refine wpList_load_mid rfl 162 _ rfl b' (o' + j * 11) rfl ws _ HAt.out Tryz.underlying162 rfl SW.out ?_)
        | (refine wpList_store_new rfl 162 _ _ rfl rfl rfl SW.out HC.out.symm OW.out ?_))
      refine (alloc_wr base F _ bf wr.heap.size 0 v2 _ _ HW.out).mono ?_
      rintro e w2 ⟨rfl, v3, q⟩
      have HQ := Lib.hid q.alloc
      clear q
      go_wp2_with fail
      go_roundw
      case rel => exact ⟨j + 1, v3, by omega, by go_num, by rw [encJ_succ _ _ hjn]; exact HP.out.trans HQ.out⟩
      case measure => simp [intOf]; omega
    · clear hp
      go_wp2_with fail
      go_end0
      obtain rfl : j = x.length := by omega
      exact ⟨rfl, v2, by rw [← encJ_all]; exact HP.out⟩
end Go.Proofs

set_option linter.unusedSimpArgs false
namespace Go.Proofs
open Go Go.RowKit Cod

theorem Tryz.size167 : (Tryz.prog.info? 167).map (·.size) = some 4 := by kernel_rfl

set_option maxRecDepth 100000 in
set_option maxHeartbeats 1000000 in
theorem list81_wr {base : Nat} {F : Nat → Prop} {w : World} {bf b o : Nat} {v : Value} {B : List UInt8} {x : Ty (.list schEval)} (h : WoH 2 5 base (.list schEval) F w bf b o v B x) :
    Calls Tryz.prog 81 #[.pointer (some ⟨bf, 0, none⟩), .pointer (some ⟨b, o, none⟩), .func (.func 82) #[.pointer (some ⟨bf, 0, none⟩)] #[]] w (WoEnd 2 5 base w bf v B (enc (.list schEval) x)) := by
  have H := Lib.hid h
  obtain ⟨A, c, cb⟩ := h.slice
  have hlb := h.lt
  have hne := h.ne
  have HNB := Lib.hid h.nv
  have h64 := (okay_list h.okay).1
  have hlen := h.len
  simp only [bnd] at hlen
  clear h
  go_enter Tryz.func81, Tryz.ntmps81
  go_wp2_with fail
  refine (many_wr (n := x.length) 64 H.out.form (by omega) (by omega) (by omega)).mono ?_
  rintro e w1 ⟨rfl, v1, p⟩
  have P : Hid (Wr 2 5 base w w1 bf v B (encJ schEval x 0) v1) := Lib.hid (by rw [encJ_zero]; exact p)
  have c1 := p.form.flag 0 (by omega)
  have c2 := p.cellAt cb hne HNB.out
  clear p
  go_wp2_with fail
  go_loopw [25] (fun i wr => ∃ (j : Nat) (v' : Value), j ≤ x.length ∧ i = .int .i64 j ∧ Wr 2 5 base w wr bf v B (encJ schEval x j) v') (fun i _ => x.length - (intOf i).toNat)
  case atStart => exact ⟨0, v1, by omega, rfl, P.out⟩
  case round =>
    obtain ⟨j, v2, hj, rfl, hp⟩ := hrel
    have HP := Lib.hid hp
    have d1 := hp.form.flag 1 (by omega)
    have d2 := hp.cellAt cb hne HNB.out
    by_cases hjn : j < x.length
    · obtain ⟨b', o', ws, rfl, hws, hat, h1, hL, hW⟩ := H.out.itemAt cb hjn hp
      have HAt := Lib.hid hat
      have HW := Lib.hid (hW 167)
      have hws3 : ws.length = 4 := hws
      have SW : Hid ((Tryz.prog.info? 167).map (·.size) = some ws.toArray.size) := Lib.hid (by show _ = some ws.length; rw [hws3]; exact Tryz.size167)
      have HC := Lib.hid hws3
      have OW := Lib.hid (all_oneCell_toArray h1)
      clear hp hat h1 hL hW
      go_wp2_with (first
        | (refine wpList_load_mid rfl 167 _ rfl b' (o' + j * 4) rfl ws _ HAt.out Tryz.underlying167 rfl SW.out ?_)
        | (refine wpList_store_new rfl 167 _ _ rfl rfl rfl SW.out HC.out.symm OW.out ?_))
      refine (eval_wr base F _ bf wr.heap.size 0 v2 _ _ HW.out).mono ?_
      rintro e w2 ⟨rfl, v3, q⟩
      have HQ := Lib.hid q.alloc
      clear q
      go_wp2_with fail
      go_roundw
      case rel => exact ⟨j + 1, v3, by omega, by go_num, by rw [encJ_succ _ _ hjn]; exact HP.out.trans HQ.out⟩
      case measure => simp [intOf]; omega
    · clear hp
      go_wp2_with fail
      go_end0
      obtain rfl : j = x.length := by omega
      exact ⟨rfl, v2, by rw [← encJ_all]; exact HP.out⟩

theorem Tryz.size172 : (Tryz.prog.info? 172).map (·.size) = some 4 := by kernel_rfl

set_option maxRecDepth 100000 in
set_option maxHeartbeats 1000000 in
theorem list83_wr {base : Nat} {F : Nat → Prop} {w : World} {bf b o : Nat} {v : Value} {B : List UInt8} {x : Ty (.list schDeploy)} (h : WoH 2 5 base (.list schDeploy) F w bf b o v B x) :
    Calls Tryz.prog 83 #[.pointer (some ⟨bf, 0, none⟩), .pointer (some ⟨b, o, none⟩), .func (.func 84) #[.pointer (some ⟨bf, 0, none⟩)] #[]] w (WoEnd 2 5 base w bf v B (enc (.list schDeploy) x)) := by
  have H := Lib.hid h
  obtain ⟨A, c, cb⟩ := h.slice
  have hlb := h.lt
  have hne := h.ne
  have HNB := Lib.hid h.nv
  have h64 := (okay_list h.okay).1
  have hlen := h.len
  simp only [bnd] at hlen
  clear h
  go_enter Tryz.func83, Tryz.ntmps83
  go_wp2_with fail
  refine (many_wr (n := x.length) 64 H.out.form (by omega) (by omega) (by omega)).mono ?_
  rintro e w1 ⟨rfl, v1, p⟩
  have P : Hid (Wr 2 5 base w w1 bf v B (encJ schDeploy x 0) v1) := Lib.hid (by rw [encJ_zero]; exact p)
  have c1 := p.form.flag 0 (by omega)
  have c2 := p.cellAt cb hne HNB.out
  clear p
  go_wp2_with fail
  go_loopw [25] (fun i wr => ∃ (j : Nat) (v' : Value), j ≤ x.length ∧ i = .int .i64 j ∧ Wr 2 5 base w wr bf v B (encJ schDeploy x j) v') (fun i _ => x.length - (intOf i).toNat)
  case atStart => exact ⟨0, v1, by omega, rfl, P.out⟩
  case round =>
    obtain ⟨j, v2, hj, rfl, hp⟩ := hrel
    have HP := Lib.hid hp
    have d1 := hp.form.flag 1 (by omega)
    have d2 := hp.cellAt cb hne HNB.out
    by_cases hjn : j < x.length
    · obtain ⟨b', o', ws, rfl, hws, hat, h1, hL, hW⟩ := H.out.itemAt cb hjn hp
      have HAt := Lib.hid hat
      have HW := Lib.hid (hW 172)
      have hws3 : ws.length = 4 := hws
      have SW : Hid ((Tryz.prog.info? 172).map (·.size) = some ws.toArray.size) := Lib.hid (by show _ = some ws.length; rw [hws3]; exact Tryz.size172)
      have HC := Lib.hid hws3
      have OW := Lib.hid (all_oneCell_toArray h1)
      clear hp hat h1 hL hW
      go_wp2_with (first
        | (refine wpList_load_mid rfl 172 _ rfl b' (o' + j * 4) rfl ws _ HAt.out Tryz.underlying172 rfl SW.out ?_)
        | (refine wpList_store_new rfl 172 _ _ rfl rfl rfl SW.out HC.out.symm OW.out ?_))
      refine (deploy_wr base F _ bf wr.heap.size 0 v2 _ _ HW.out).mono ?_
      rintro e w2 ⟨rfl, v3, q⟩
      have HQ := Lib.hid q.alloc
      clear q
      go_wp2_with fail
      go_roundw
      case rel => exact ⟨j + 1, v3, by omega, by go_num, by rw [encJ_succ _ _ hjn]; exact HP.out.trans HQ.out⟩
      case measure => simp [intOf]; omega
    · clear hp
      go_wp2_with fail
      go_end0
      obtain rfl : j = x.length := by omega
      exact ⟨rfl, v2, by rw [← encJ_all]; exact HP.out⟩
end Go.Proofs
