/- The document and the program read and write the same. -/
import Derived.Test.YthclnpigplcckaaGreatProg
import Derived.Test.YthclnpigplcckaaGreatLibs
import Derived.Test.YthclnpigplcckaaGreatNa
import Derived.Test.YthclnpigplcckaaGreatOc
import Derived.Test.YthclnpigplcckaaGreatZe
import Derived.Test.YthclnpigplcckaaGreatPa
import Derived.WalkSpells
import Derived.WalkLawsBesides
import Derived.Deep.LoopGhost
import Derived.Lib.Hide
import Derived.Deep.RegionWith
import Derived.Maps.AppendAt
import Derived.KernelRfl
set_option linter.unusedSimpArgs false
set_option linter.unusedVariables false

set_option linter.unusedSimpArgs false
namespace Go.Proofs
open Go Go.RowKit Cod

set_option maxRecDepth 100000 in
set_option maxHeartbeats 1000000 in
theorem putR32 {F : Nat → Prop} {w : World} {vs : List Value} {x : Ty schEntry} (hL : Lay schEntry F w vs x) (hF : ∀ k, F k → k < w.heap.size) (ho : Cod.okay schEntry x = true) :
    Calls Tryz.prog 32 #[.agg vs.toArray] w (PutPost (enc schEntry x) w) := by
  have HL := Lib.hid hL
  have HF := Lib.hid hF
  have HO := Lib.hid ho
  have hlv : vs.length = 29 := Lay.len _ hL
  have SV : Hid ((Tryz.prog.info? 47).map (·.size) = some vs.length) := Lib.hid (by rw [hlv]; exact Tryz.sz47)
  have HA : Hid (At ((w.alloc (.cells vs.toArray 47)).alloc (.cells #[.slice none 0 0, .bool false] 131)) w.heap.size 0 vs) := Lib.hid (((Upd.refl (fun _ _ => False) _).alloc _).at (At.new w vs.toArray 47) (fun _ _ h => h))
  have HV : Hid (VaH 1 5 (w.heap.size + 2) schEntry F ((w.alloc (.cells vs.toArray 47)).alloc (.cells #[.slice none 0 0, .bool false] 131)) (w.heap.size + 1) (.slice none 0 0) [] x) := Lib.hid (VaH.start hF ho (by decide) _ _)
  have HLL : Hid (Lay schEntry F ((w.alloc (.cells vs.toArray 47)).alloc (.cells #[.slice none 0 0, .bool false] 131)) vs x) := Lib.hid (Lay.keep _ hL (fun _ h => h) (fun q hq _ => (((Upd.refl (fun _ _ => False) w).alloc _).alloc _).block q (hF q hq) (fun _ h => h)))
  clear hL hF ho hlv
  go_enter Tryz.func32, Tryz.ntmps32
  go_wp2_with (refine wpList_load_mid rfl 47 (.tmp 1) rfl w.heap.size 0 rfl vs _ HA.out Tryz.underlying47 rfl SV.out ?_)
  refine (out_entry (w.heap.size + 2) F _ (w.heap.size + 1) (.slice none 0 0) [] vs x HV.out HLL.out).mono ?_
  rintro e w1 ⟨rfl, v1, pw⟩
  have c0 := pw.form.cell
  have c1 : w1.cell? ⟨w.heap.size + 1, 1, none⟩ = some (.bool false) := pw.form.flag 0 (by omega)
  obtain ⟨A, n, c, rfl, h⟩ := pw.putR
  have HP := Lib.hid h
  clear pw h
  go_wp2_with fail
  refine (told c0 c1).mono ?_
  rintro e w2 ⟨rfl, rfl⟩
  go_wp2_with fail
  go_ret2
  exact HP.out

set_option maxRecDepth 100000 in
set_option maxHeartbeats 1000000 in
theorem getR10 {F : Nat → Prop} {w : World} {A : Option Addr} {n c : Nat} {B : List UInt8} (hb : Bts F w A n B) (hn : n ≤ c) (hF : ∀ k, F k → k < w.heap.size) :
    Calls Tryz.prog 10 #[.slice A n c] w (RefPost schEntry w B) := by
  have HB := Lib.hid hb
  have HF := Lib.hid hF
  have h0 := InH.start hb hn hF #[.int .i64 0, .int .i64 0, .int .i64 0, .int .i64 0, .int .i64 0, .int .i64 0, .int .i64 0, .int .i64 0, .int .i64 0, .slice none 0 0, .int .i64 0, .bool false, .int .i64 0, .int .i64 0, .int .i64 0, .bool false, .bool false, .int .i64 0, .int .i64 0, .int .i64 0, .slice none 0 0, .int .i64 0, .int .i64 0, .int .i64 0, .slice none 0 0, .slice none 0 0, .bool false, .slice none 0 0, .slice none 0 0] 47 81
  have H0 := Lib.hid h0.1
  have HO := Lib.hid h0.2
  have t0 : ((w.alloc (.cells #[.int .i64 0, .int .i64 0, .int .i64 0, .int .i64 0, .int .i64 0, .int .i64 0, .int .i64 0, .int .i64 0, .int .i64 0, .slice none 0 0, .int .i64 0, .bool false, .int .i64 0, .int .i64 0, .int .i64 0, .bool false, .bool false, .int .i64 0, .int .i64 0, .int .i64 0, .slice none 0 0, .int .i64 0, .int .i64 0, .int .i64 0, .slice none 0 0, .slice none 0 0, .bool false, .slice none 0 0, .slice none 0 0] 47)).alloc (.cells #[.slice A n c, .bool false] 81)).there w.heap.size 0 29 := World.there_alloc (there_new w _ _ (by decide)) _
  have T0 := Lib.hid t0
  have U0 : Hid (Upd (fun _ _ => False) w ((w.alloc (.cells #[.int .i64 0, .int .i64 0, .int .i64 0, .int .i64 0, .int .i64 0, .int .i64 0, .int .i64 0, .int .i64 0, .int .i64 0, .slice none 0 0, .int .i64 0, .bool false, .int .i64 0, .int .i64 0, .int .i64 0, .bool false, .bool false, .int .i64 0, .int .i64 0, .int .i64 0, .slice none 0 0, .int .i64 0, .int .i64 0, .int .i64 0, .slice none 0 0, .slice none 0 0, .bool false, .slice none 0 0, .slice none 0 0] 47)).alloc (.cells #[.slice A n c, .bool false] 81))) := Lib.hid (((Upd.refl _ w).alloc _).alloc _)
  clear hb hF h0 t0
  go_enter Tryz.func10, Tryz.ntmps10
  go_wp2_with fail
  refine (in_entry F _ (w.heap.size + 1) B false H0.out HO.out).mono ?_
  rintro e w1 ⟨vs, x, B', bad', rfl, hp⟩
  have hl := Lay.len _ hp.lay
  have hlv : vs.length = 29 := hl
  have HP := Lib.hid hp
  have SV : Hid ((Tryz.prog.info? 47).map (·.size) = some vs.toArray.size) := Lib.hid (by show _ = some vs.length; rw [hlv]; exact Tryz.sz47)
  have CV : Hid (29 = vs.toArray.size) := Lib.hid hlv.symm
  have OV := Lib.hid (all_oneCell_toArray (Lay.one _ hp.lay))
  have U1 : Hid (Upd (fun b _ => b = w.heap.size + 1) w w1) := Lib.hid ((U0.out.mono (fun _ _ _ h => h.elim)).trans hp.upd)
  have T1 : Hid (w1.there w.heap.size 0 29) := Lib.hid (hp.upd.there T0.out (by simp; omega) (fun _ => by omega))
  have HA : Hid (At (w1.alloc (.cells vs.toArray 47)) w1.heap.size 0 vs) := Lib.hid (At.new w1 vs.toArray 47)
  have hs1 := U1.out.size
  have HL1 : Hid (Lay schEntry (fun k => k < w1.heap.size) (w1.alloc (.cells vs.toArray 47)) vs x) := Lib.hid (Lay.keep _ (Lay.within _ hp.lay) (fun k hk => hk.2) (fun k hk hk2 => Below.heap_alloc _ _ _ hk2))
  clear hp hl
  go_wp2_with (first
    | (refine wpList_store_new rfl 47 _ _ rfl rfl rfl SV.out CV.out OV.out ?_)
    | (refine wpList_load_mid rfl 47 (.tmp 5) rfl w1.heap.size 0 rfl vs _ HA.out Tryz.underlying47 rfl SV.out ?_))
  refine (putR32 HL1.out (fun k hk => by simp; omega) HP.out.okay).mono ?_
  rintro e w2 ⟨A2, n2, c2, rfl, hn2, hu2, hb2⟩
  have U2 : Hid (Upd (fun b _ => b = w.heap.size + 1) w w2) := Lib.hid ((U1.out.alloc _).trans (hu2.mono (fun _ _ _ h => h.elim)))
  have UA : Hid (Upd (fun _ _ => False) w1 w2) := Lib.hid (((Upd.refl _ w1).alloc _).trans hu2)
  have HB2 := Lib.hid hb2
  have A2' : Hid (At w2 w1.heap.size 0 vs) := Lib.hid (hu2.at HA.out (fun _ _ h => h))
  have hszw : w.heap.size < w1.heap.size := by have := HP.out.upd.size; simp at this; omega
  have T2 : Hid (w2.there w.heap.size 0 29) := Lib.hid (UA.out.there T1.out hszw (fun _ h => h))
  have F2 : Hid (InR F w2 (w.heap.size + 1) B' bad') := Lib.hid (by
    obtain ⟨hf, A', n', c', hA', hn', hb'⟩ := HP.out.form
    have hlt : w.heap.size + 1 < w1.heap.size := by have := HP.out.upd.size; simp at this; omega
    exact ⟨UA.out.free hlt hf, A', n', c', UA.out.at hA' (fun _ _ h => h), hn', hb'.keep (fun _ h => h) (fun q _ hq => UA.out.block q hq (fun _ h => h))⟩)
  have HB3 : Hid (Bts F w2 A n B) := Lib.hid (HB.out.keep (fun _ h => h) (fun q hq hlt => U2.out.block q hlt (fun _ e => by have := HF.out q hq; omega)))
  clear hu2 hb2
  have HR := Lib.hid HP.out.ref
  have O1 := Lib.hid (Lay.one _ HP.out.lay)
  have TZ : Hid (w2.there w.heap.size 0 (zeroc schEntry).toArray.size) := Lib.hid (by have := T2.out; exact this)
  have OZ : Hid ((zeroc schEntry).toArray.all (fun x => x.oneCell') = true) := Lib.hid (all_oneCell_toArray (Lay.one _ (Lay.zero schEntry F w)))
  go_wp2_with fail
  refine (done F2.out).mono ?_
  rintro e w3 ⟨t, rfl, hu3, ht⟩
  have HT := Lib.hid ht
  have HU3 := Lib.hid hu3
  have U3 : Hid (Upd (fun b _ => b = w.heap.size + 1) w w3) := Lib.hid (U2.out.trans (hu3.mono (fun _ _ _ h => h.elim)))
  have hszw2 : w.heap.size < w2.heap.size := Nat.lt_of_lt_of_le hszw UA.out.size
  have TZ3 : Hid (w3.there w.heap.size 0 (zeroc schEntry).toArray.size) := Lib.hid (hu3.there TZ.out hszw2 (fun _ h => h))
  clear ht hu3
  cases t with
  | false =>
    go_wp2_with (refine wpList_store_mid rfl 47 _ _ rfl w.heap.size 0 (zeroc schEntry).toArray rfl rfl TZ3.out Tryz.sz47 OZ.out ?_)
    refine ret_row (vs := zeroc schEntry) rfl rfl Tryz.underlying47 rfl Tryz.sz47 (At.setCells TZ3.out) rfl ?_
    refine RefPost.of U3.out (fun b o e => by omega) (zeroc_len _) (Lay.one _ (Lay.zero schEntry F w)) ?_
    rw [← HR.out]
    have := HT.out
    simp at this
    simp
    intro h1 h2
    exact absurd h2 (this h1)
  | true =>
    have HB4 := Lib.hid (HB2.out.keep (fun _ h => h) (fun q _ hq => HU3.out.block q hq (fun _ h => h)))
    have HB5 := Lib.hid (HB3.out.keep (fun _ h => h) (fun q _ hq => HU3.out.block q hq (fun _ h => h)))
    have HA3 : Hid (At w3 w1.heap.size 0 vs) := Lib.hid (HU3.out.at A2'.out (fun _ _ h => h))
    go_wp2_with fail
    refine (same (c := c2) (c' := c) HB4.out HB5.out).mono ?_
    rintro e w4 ⟨u, rfl, hu4, hs⟩
    have HS := Lib.hid hs
    have U4 : Hid (Upd (fun b _ => b = w.heap.size + 1) w w4) := Lib.hid (U3.out.trans (hu4.mono (fun _ _ _ h => h.elim)))
    have hszw3 : w.heap.size < w3.heap.size := Nat.lt_of_lt_of_le hszw2 HU3.out.size
    have TZ4 : Hid (w4.there w.heap.size 0 (zeroc schEntry).toArray.size) := Lib.hid (hu4.there TZ3.out hszw3 (fun _ h => h))
    have TV4 : Hid (w4.there w.heap.size 0 vs.toArray.size) := Lib.hid (by have := TZ4.out; show World.there _ _ _ vs.length; rw [hlv]; exact this)
    have HA4 : Hid (At w4 w1.heap.size 0 vs) := Lib.hid (hu4.at HA3.out (fun _ _ h => h))
    clear hs hu4
    cases u with
    | false =>
      go_wp2_with (refine wpList_store_mid rfl 47 _ _ rfl w.heap.size 0 (zeroc schEntry).toArray rfl rfl TZ4.out Tryz.sz47 OZ.out ?_)
      refine ret_row (vs := zeroc schEntry) rfl rfl Tryz.underlying47 rfl Tryz.sz47 (At.setCells TZ4.out) rfl ?_
      refine RefPost.of U4.out (fun b o e => by omega) (zeroc_len _) (Lay.one _ (Lay.zero schEntry F w)) ?_
      rw [← HR.out]
      have := HS.out
      simp at this
      simp
      intro _ _ h3
      exact absurd h3 this
    | true =>
      go_wp2_with (first
        | (refine wpList_load_mid rfl 47 _ rfl w1.heap.size 0 rfl vs _ HA4.out Tryz.underlying47 rfl SV.out ?_)
        | (refine wpList_store_mid rfl 47 _ _ rfl w.heap.size 0 vs.toArray rfl rfl TV4.out SV.out OV.out ?_))
      refine ret_row rfl rfl Tryz.underlying47 rfl SV.out (At.setCells TV4.out) rfl ?_
      refine RefPost.of U4.out (fun b o e => by omega) (Lay.len _ HP.out.lay) O1.out ?_
      rw [← HR.out]
      have h1 := HT.out
      have h2 := HS.out
      simp at h1 h2
      simp [h1, h2]
end Go.Proofs
