/- Laws of the walker. -/
import Derived.Test.YthclnpigplcckaaGreatLib
import Derived.Maps.AppendAt
import Derived.Deep.MidRow
import Derived.Laws.ResultCell
import Derived.Laws.NewBlocks
import Derived.Laws.Bits128
import Derived.Deep.WholeRow
import Derived.IntWalk
import Derived.Laws.Tables
set_option linter.unusedSimpArgs false
set_option linter.unusedVariables false

/- Bytes that are read and written: plain laws, no program in sight. -/
namespace Cod
open Go Go.RowKit

theorem Bts.owned {F : Nat → Prop} {w : World} {base e : Nat} {v : Value} {n : Nat} {l : List UInt8} (h : w.ownsRow base e 1 v n (l.map u8)) (hF : ∀ k, v.ownBlock = some k → F k) :
    ∃ A c, v = .slice A n c ∧ n ≤ c ∧ Bts F w A n l := by
  have hl : l.length = n := by have := h.1; simpa using this
  rcases h.2 with ⟨rfl, h0⟩ | ⟨g, cap, cur, rfl, hg, hh, hnc, hcm, hcs, ht⟩
  · subst h0
    obtain rfl : l = [] := List.eq_nil_of_length_eq_zero hl
    exact ⟨none, 0, rfl, by omega, Bts.nil F w none⟩
  · refine ⟨_, cap, rfl, hnc, hl, ?_, fun _ => ⟨g, 0, rfl, hF g rfl, fun i v hv => ?_⟩⟩
    · unfold maxLen at hcm; omega
    · rw [Nat.zero_add]
      have := h.cells (g := g) rfl i v hv
      rwa [show (⟨g, 0, none⟩ : Addr).add i = ⟨g, i, none⟩ by unfold Addr.add; split <;> simp_all] at this

theorem RdP.ofRaw {F : Nat → Prop} {w w1 w2 : World} {bf b o E n m c : Nat} {B B1 : List UInt8} {bad bad1 : Bool} {v' : Value} {A : Option Addr} (H : RdH .raw F w bf b o B bad) (k : RdM 65536 F w w1 bf B bad n B1 bad1) (hn : n ≤ B1.length)
    (hown : w2.ownsRow w.heap.size E 1 v' n ((B1.take n).map u8)) (hg : w1.grownBy w2 none) (hb : Bts F w1 A m (B1.drop n)) (hm : m ≤ c) :
    RdP .raw F w ((w2.setCell ⟨b, o, none⟩ v').setCell ⟨bf, 0, none⟩ (.slice A m c)) bf b o B bad (B1.drop n) bad1 := by
  have hg' : Upd (fun _ _ => False) w1 w2 := (Upd.refl _ w1).grownNew hg (fun q hq => by cases hq)
  have hs := H.lt
  have hs1 := k.upd.size
  have hblk : ∀ q, q < w1.heap.size → w2.heap[q]? = w1.heap[q]? := fun q hq => hg'.block q hq (fun _ h => h)
  have f2 : FormR F w2 bf B1 bad1 := k.form.upd hg' (fun _ h => h) (fun _ _ _ h => h)
  have f3 : FormR F (w2.setCell ⟨b, o, none⟩ v') bf B1 bad1 := f2.upd (T := fun y i => y = b ∧ i = o) ((Upd.refl _ _).setCell _ _ (fun _ => ⟨rfl, rfl⟩) _) (fun _ e => H.ne e.1.symm) (fun q _ hq e => H.nb (e.1 ▸ hq))
  have u2 : Upd (TR bf b o 1) w w2 := (k.upd.mono (fun x i _ e => .inl e)).grownNew hg (fun q hq => by cases hq)
  have hc2 : w2.cell? ⟨b, o, none⟩ = some (.slice none 0 0) := (hg'.cell b o (by omega) (fun h => h)).trans ((k.upd.cell b o hs H.ne).trans (H.at_ 0 _ rfl))
  refine ⟨(u2.setCell b o (fun _ => .inr ⟨rfl, Nat.le_refl _, by omega⟩) _).setCell bf 0 (fun _ => .inl rfl) _, f3.put H.nbf hm ?_, k.stays, ?_⟩
  · refine (hb.keep (fun _ h => h) (fun q _ hlt => hblk q hlt)).keep (fun _ h => h) (fun q hq _ => Below.heap_setCell _ _ _ _ (fun e => H.nb ?_))
    have e' : q = b := e
    exact e' ▸ hq
  · obtain ⟨A', c', rfl, hnc, hbt⟩ := Bts.owned (F := fun q => w.heap.size ≤ q) hown (fun q hq => (hown.lt q hq).1)
    refine ⟨_, B1.take n, At.one ?_, ⟨A', n, c', rfl, hbt.keep (fun _ h => h) (fun q hq _ => ?_)⟩, ?_⟩
    · rw [World.cell?_setCell_other _ _ _ _ (fun e => H.ne (by injection e with e; exact e.symm))]
      exact World.cell?_setCell_same _ _ _ hc2
    · have h1 := H.lf
      rw [Below.heap_setCell _ _ _ _ (show q ≠ bf by omega)]
      exact Below.heap_setCell _ _ _ _ (show q ≠ b by omega)
    · intro hbad
      have := k.reads hbad
      simp only [parse]
      generalize many 65536 B = q at this ⊢
      cases q with
      | none => exact this
      | some p =>
        obtain ⟨h1, h2, h3⟩ := this
        simp only
        subst h2
        subst h3
        rw [if_pos hn]
        exact ⟨h1, rfl, rfl⟩

theorem RdP.ofRaw0 {F : Nat → Prop} {w w1 : World} {bf b o m c : Nat} {B B1 : List UInt8} {bad bad1 : Bool} {A : Option Addr} (H : RdH .raw F w bf b o B bad) (k : RdM 65536 F w w1 bf B bad 0 B1 bad1)
    (hb : Bts F w1 A m (B1.drop 0)) (hm : m ≤ c) :
    RdP .raw F w (w1.setCell ⟨bf, 0, none⟩ (.slice A m c)) bf b o B bad (B1.drop 0) bad1 := by
  have hc : w1.cell? ⟨b, o, none⟩ = some (.slice none 0 0) := (k.upd.cell b o H.lt H.ne).trans (H.at_ 0 _ rfl)
  have := RdP.ofRaw (E := 0) (w2 := w1) (v' := .slice none 0 0) H k (Nat.zero_le _) (by simp; exact World.ownsRow_nil _ _ _ _) (World.grownBy.mk rfl rfl rfl (Nat.le_refl _) (fun _ _ _ => rfl)) hb hm
  rwa [setCell_self hc] at this

theorem RdP.badRaw {F : Nat → Prop} {w w1 : World} {bf b o n : Nat} {B B1 : List UInt8} {bad bad1 : Bool} (H : RdH .raw F w bf b o B bad) (k : RdM 65536 F w w1 bf B bad n B1 bad1) (hn : B1.length < n) :
    RdP .raw F w (w1.setCell ⟨bf, 2, none⟩ (.bool true)) bf b o B bad B1 true := by
  have hc : w1.cell? ⟨b, o, none⟩ = some (.slice none 0 0) := (k.upd.cell b o H.lt H.ne).trans (H.at_ 0 _ rfl)
  refine ⟨(k.upd.mono (fun x i _ e => .inl e)).setCell bf 2 (fun _ => .inl rfl) _, k.form.bad H.nbf true, fun _ => rfl, [.slice none 0 0], [], At.one ?_, ⟨none, 0, 0, rfl, Bts.nil _ _ _⟩, fun hbad => ?_⟩
  · rw [World.cell?_setCell_other _ _ _ _ (fun e => H.ne (by injection e with e; exact e.symm))]
    exact hc
  · have := k.reads hbad
    simp only [parse]
    generalize many 65536 B = q at this ⊢
    cases q with
    | none => trivial
    | some p =>
      obtain ⟨h1, h2, h3⟩ := this
      simp only
      subst h2
      subst h3
      rw [if_neg (by omega)]
      trivial

theorem Bts.cut {F : Nat → Prop} {w : World} {A : Option Addr} {b o n c : Nat} {l : List UInt8} (h : Bts F w A n l) (hA : 0 < n → A = some ⟨b, o, none⟩) (k : Nat) (hk : k ≤ n) (_hc : n ≤ c) {A' : Option Addr} (h' : k < n → A' = some ⟨b, o + k, none⟩) :
    Bts F w A' (n - k) (l.drop k) := by
  refine ⟨by rw [List.length_drop, h.1], by have := h.2.1; omega, fun hp => ?_⟩
  obtain ⟨b', o', e, hF, hAt⟩ := h.2.2 (by omega)
  rw [hA (by omega)] at e
  injection e with e
  injection e with e1 e2
  subst e1
  subst e2
  refine ⟨b, o + k, h' (by omega), hF, ?_⟩
  have e : l.map u8 = (l.take k).map u8 ++ (l.drop k).map u8 := by rw [← List.map_append, List.take_append_drop]
  rw [e] at hAt
  exact hAt.right (by rw [List.length_map, List.length_take, h.1]; omega)
end Cod

/- Structs that are stored whole, results that lie in cells, and what reading all bytes comes to: plain laws, no program in sight. -/
namespace Cod
open Go Go.RowKit

theorem setCells_size (b : Nat) : ∀ (vs : List Value) (o : Nat) (w : World), (w.setCells b o vs).heap.size = w.heap.size
  | [], _, _ => rfl
  | v :: r, o, w => by rw [World.setCells, setCells_size b r (o + 1)]; simp
theorem setCells_block (b q : Nat) (h : q ≠ b) : ∀ (vs : List Value) (o : Nat) (w : World), (w.setCells b o vs).heap[q]? = w.heap[q]?
  | [], _, _ => rfl
  | v :: r, o, w => by rw [World.setCells, setCells_block b q h r (o + 1)]; exact Below.heap_setCell _ _ _ _ h
theorem Upd.setCells {T : Nat → Nat → Prop} {a : World} (x : Nat) : ∀ (vs : List Value) (o : Nat) {b : World} (_ : Upd T a b) (_ : x < a.heap.size → ∀ i, T x (o + i)), Upd T a (b.setCells x o vs)
  | [], _, _, h, _ => h
  | v :: r, o, b, h, hT => by
    rw [World.setCells]
    exact Upd.setCells x r (o + 1) (h.setCell x o (fun hx => hT hx 0) v) (fun hx i => by have := hT hx (1 + i); rwa [← Nat.add_assoc] at this)

theorem there_new (w : World) (cs : Array Value) (T : TypeId) {n : Nat} (hn : n ≤ cs.size) : (w.alloc (.cells cs T)).there w.heap.size 0 n := fun j hj => by
  refine ⟨?_, World.frozen?_alloc_new _ _ _ _⟩
  rw [Nat.zero_add, World.cell?_alloc_new]
  simp
  omega
theorem Upd.there {T : Nat → Nat → Prop} {w w' : World} (h : Upd T w w') {b o n : Nat} (ht : w.there b o n) (hb : b < w.heap.size) (hT : ∀ i, ¬ T b i) : w'.there b o n := fun j hj => by
  obtain ⟨h1, h2⟩ := ht j hj
  rw [h.cell b _ hb (hT _), h.frozen b _ hb]
  exact ⟨h1, h2⟩
theorem there_alloc {w : World} {b o n : Nat} (h : w.there b o n) (ob : Obj) : (w.alloc ob).there b o n := World.there_alloc h ob
theorem At.setCells {w : World} {b o : Nat} {vs : List Value} (h : w.there b o vs.length) : At (w.setCells b o vs) b o vs := World.rangeAt_setCells_same w b o vs h

/-- The result lies in cells, and one in a temporary. -/
theorem ret_row {P : Program} {fn : Func} {R : Ending → World → Prop} {p u : Tmp} {ty : TypeId} {a : Act} {w : World} {b o : Nat} {vs : List Value} {d : TypeDesc} (h : fn.results = #[.cell p ty, .tmp u]) (hp : a.tmps.getD p undef = .pointer (some ⟨b, o, none⟩))
    (hu : P.underlying ty = some d) (hd : d.isRow = true) (hi : (P.info? ty).map (·.size) = some vs.length) (hA : At w b o vs) (hdf : a.defers = []) (hR : R (.returned (.tuple #[.agg vs.toArray, a.tmps.getD u undef])) w) : bodyPost P fn R .ret a w :=
  bodyPost_ret (by rw [results_cell_tmp h, hp]; simp [asAddr, Result.andThen, run_loadVar_mid w b o ty vs d hA hu hd hi]) hdf hR
/-- The result lies in cells. -/
theorem ret_row1 {P : Program} {fn : Func} {R : Ending → World → Prop} {p : Tmp} {ty : TypeId} {a : Act} {w : World} {b o : Nat} {vs : List Value} {d : TypeDesc} (h : fn.results = #[.cell p ty]) (hp : a.tmps.getD p undef = .pointer (some ⟨b, o, none⟩))
    (hu : P.underlying ty = some d) (hd : d.isRow = true) (hi : (P.info? ty).map (·.size) = some vs.length) (hA : At w b o vs) (hdf : a.defers = []) (hR : R (.returned (.agg vs.toArray)) w) : bodyPost P fn R .ret a w := by
  refine bodyPost_ret ?_ hdf hR
  have hp' : (a.tmps[p]?).getD undef = .pointer (some ⟨b, o, none⟩) := by simpa using hp
  simp only [results, h]
  simp [Sem.run_bind, hp', asAddr, Result.andThen, run_loadVar_mid w b o ty vs d hA hu hd hi]

/-! ### Reading all -/
def Whole (s : Sch) (B : List UInt8) (ok : Bool) (x : Ty s) : Prop :=
  (parse s B = some (x, []) ∧ ok = true) ∨ ((∀ y, parse s B ≠ some (y, [])) ∧ ok = false ∧ x = zerov s)
theorem Whole.okay {s : Sch} {B : List UInt8} {ok : Bool} {x : Ty s} (h : Whole s B ok x) : Cod.okay s x = true := by
  rcases h with ⟨h, _⟩ | ⟨_, _, rfl⟩
  · exact (parse_whole h).2
  · exact okay_zero s
theorem Whole.same {s : Sch} {B : List UInt8} {ok : Bool} {x : Ty s} (h : Whole s B ok x) : ok = true → enc s x = B := fun ho => by
  rcases h with ⟨h, _⟩ | ⟨_, h, rfl⟩
  · exact (parse_whole h).1
  · rw [h] at ho; cases ho

/-- What a whole reading comes to. -/
def GetPost (s : Sch) (w : World) (B : List UInt8) (e : Ending) (w' : World) : Prop :=
  ∃ vs x ok, e = .returned (.tuple #[.agg vs.toArray, .bool ok]) ∧ Upd (fun _ _ => False) w w' ∧ Lay s (fun k => w.heap.size ≤ k) w' vs x ∧ Whole s B ok x

/-- The codec's own reading, as it begins. -/
theorem RdH.start {s : Sch} {F : Nat → Prop} {w : World} {A : Option Addr} {n c : Nat} {B : List UInt8} (hb : Bts F w A n B) (hn : n ≤ c) (hF : ∀ k, F k → k < w.heap.size) (z0 z1 z2 : Array Value) (T0 T1 T2 T3 : TypeId) (hz : z1.toList = zeroc s) :
    RdH s F ((((w.alloc (.cells z0 T0)).alloc (.cells z1 T1)).alloc (.cells z2 T2)).alloc (.cells #[.slice A n c, .bool true, .bool false] T3)) (w.heap.size + 1 + 1 + 1) (w.heap.size + 1) 0 B false := by
  have h0 : Upd (fun _ _ => False) w ((((w.alloc (.cells z0 T0)).alloc (.cells z1 T1)).alloc (.cells z2 T2)).alloc (.cells #[.slice A n c, .bool true, .bool false] T3)) := ((((Upd.refl _ w).alloc _).alloc _).alloc _).alloc _
  have e3 : w.heap.size + 1 + 1 + 1 = (((w.alloc (.cells z0 T0)).alloc (.cells z1 T1)).alloc (.cells z2 T2)).heap.size := by simp
  have e1 : w.heap.size + 1 = (w.alloc (.cells z0 T0)).heap.size := by simp
  refine ⟨⟨?_, A, n, c, ?_, hn, hb.keep (fun _ h => h) (fun q hq hlt => h0.block q hlt (fun _ h => h))⟩, ?_, ?_, ?_, ?_, ?_, ?_, ?_, ?_⟩
  · rw [e3]; exact Free.new _ _ _ _
  · rw [e3]; exact At.new _ _ _
  · have h1 := At.new (w.alloc (.cells z0 T0)) z1 T1
    rw [← e1, hz] at h1
    exact (((Upd.refl (fun _ _ => False) _).alloc _).alloc _).at h1 (fun _ _ h => h)
  · have h1 := Free.new (w.alloc (.cells z0 T0)) z1 T1 (szc s)
    rw [← e1] at h1
    exact (((Upd.refl (fun _ _ => False) _).alloc _).alloc _).free (by simp) h1
  · intro h; have := hF _ h; omega
  · intro h; have := hF _ h; omega
  · omega
  · simp
  · simp
  · intro q hq; have := hF q hq; simp; omega

theorem RdP.get {s : Sch} {F : Nat → Prop} {w w5 : World} {B B' : List UInt8} {bad' : Bool} {z0 z1 z2 z3 : Array Value} {T0 T1 T2 T3 : TypeId} (hz0 : szc s ≤ z0.size) (hz2 : z2.toList = zeroc s)
    (h : RdP s F ((((w.alloc (.cells z0 T0)).alloc (.cells z1 T1)).alloc (.cells z2 T2)).alloc (.cells z3 T3)) w5 (w.heap.size + 1 + 1 + 1) (w.heap.size + 1) 0 B false B' bad') :
    w5.there w.heap.size 0 (szc s) ∧ At w5 (w.heap.size + 1 + 1) 0 (zeroc s) ∧ ∃ vs, At w5 (w.heap.size + 1) 0 vs ∧ vs.length = szc s ∧ (∀ v ∈ vs, One v) ∧
      (bad' = true ∨ B' ≠ [] → GetPost s w B (.returned (.tuple #[.agg (zeroc s).toArray, .bool false])) (w5.setCells w.heap.size 0 (zeroc s))) ∧
      (bad' = false → B' = [] → GetPost s w B (.returned (.tuple #[.agg vs.toArray, .bool true])) (w5.setCells w.heap.size 0 vs)) := by
  have hu : Upd (fun _ _ => False) w w5 := (((((Upd.refl _ w).alloc _).alloc _).alloc _).alloc _).then h.upd (fun x o hx e => by rcases e with e | ⟨e, _⟩ <;> omega)
  have hsz := hu.size
  refine ⟨?_, ?_, ?_⟩
  · have h1 := there_new w z0 T0 hz0
    have h2 := there_alloc (there_alloc (there_alloc h1 (.cells z1 T1)) (.cells z2 T2)) (.cells z3 T3)
    exact h.upd.there h2 (by simp; omega) (fun i e => by rcases e with e | ⟨e, _⟩ <;> omega)
  · have h1 := At.new ((w.alloc (.cells z0 T0)).alloc (.cells z1 T1)) z2 T2
    rw [hz2] at h1
    have h2 := ((Upd.refl (fun _ _ => False) _).alloc (.cells z3 T3)).at h1 (fun _ _ h => h)
    have e : ((w.alloc (.cells z0 T0)).alloc (.cells z1 T1)).heap.size = w.heap.size + 1 + 1 := by simp
    rw [e] at h2
    exact h.upd.at h2 (fun i _ e => by rcases e with e | ⟨e, _⟩ <;> omega)
  · obtain ⟨vs, x, hA, hL, hp⟩ := h.cells
    have hs : ∀ vs', Upd (fun _ _ => False) w (w5.setCells w.heap.size 0 vs') := fun vs' => hu.setCells _ vs' 0 (fun h => absurd h (by omega))
    refine ⟨vs, hA, Lay.len _ hL, Lay.one _ hL, fun hb => ⟨_, zerov s, false, rfl, hs _, Lay.zero s _ _, .inr ⟨fun y hy => ?_, rfl, rfl⟩⟩, fun hb hB => ⟨_, x, true, rfl, hs _, ?_, .inl ⟨?_, rfl⟩⟩⟩
    · have := hp rfl
      rw [hy] at this
      obtain ⟨h1, h2, _⟩ := this
      rcases hb with hb | hb
      · rw [h1] at hb; cases hb
      · exact hb h2
    · refine Lay.keep s hL (fun q hq => ?_) (fun q hq _ => setCells_block _ _ ?_ _ _ _)
      · simp at hq; omega
      · simp at hq; omega
    · have := hp rfl
      generalize parse s B = q at this ⊢
      cases q with
      | none => rw [hb] at this; cases this
      | some p =>
        obtain ⟨_, h2, h3⟩ := this
        obtain ⟨p1, p2⟩ := p
        simp only at h2 h3
        rw [h3, ← h2, hB]

theorem GetPost.up {s : Sch} {w w1 : World} {B : List UInt8} {vs : List Value} {x : Ty s} {ok : Bool} {ob : Obj} (hu : Upd (fun _ _ => False) (w.alloc ob) w1) (hL : Lay s (fun k => (w.alloc ob).heap.size ≤ k) w1 vs x) (hW : Whole s B ok x) :
    GetPost s w B (.returned (.tuple #[.agg vs.toArray, .bool ok])) (w1.setCells w.heap.size 0 vs) := by
  refine ⟨vs, x, ok, rfl, (((Upd.refl _ w).alloc ob).trans hu).setCells _ vs 0 (fun h => absurd h (by omega)), Lay.keep s hL (fun q hq => ?_) (fun q hq _ => setCells_block _ _ ?_ _ _ _), hW⟩
  · simp at hq; omega
  · simp at hq; omega
end Cod

/- What writes bytes: plain laws, no program in sight. -/
namespace Cod
open Go Go.RowKit

/-- w' is w, but for the cells that T names, and for new blocks. -/
structure Upw (T : Nat → Nat → Prop) (w w' : World) : Prop where
  os : w'.os = w.os
  tape : w'.tape = w.tape
  output : w'.output = w.output
  size : w.heap.size ≤ w'.heap.size
  cell : ∀ b o, b < w.heap.size → ¬ T b o → w'.cell? ⟨b, o, none⟩ = w.cell? ⟨b, o, none⟩
  frozen : ∀ b o, b < w.heap.size → ¬ T b o → w'.frozen? ⟨b, o, none⟩ = w.frozen? ⟨b, o, none⟩
  block : ∀ b, b < w.heap.size → (∀ o, ¬ T b o) → w'.heap[b]? = w.heap[b]?

theorem Upd.w {T : Nat → Nat → Prop} {w w' : World} (h : Upd T w w') : Upw T w w' := ⟨h.os, h.tape, h.output, h.size, h.cell, fun b o hb _ => h.frozen b o hb, h.block⟩
theorem Upw.refl (T : Nat → Nat → Prop) (w : World) : Upw T w w := (Upd.refl T w).w
theorem Upw.then {T T' : Nat → Nat → Prop} {a b c : World} (h : Upw T a b) (k : Upw T' b c) (hT : ∀ x o, x < a.heap.size → T' x o → T x o) : Upw T a c :=
  ⟨k.os.trans h.os, k.tape.trans h.tape, k.output.trans h.output, Nat.le_trans h.size k.size,
    fun x o hx hn => (k.cell x o (Nat.lt_of_lt_of_le hx h.size) (fun hq => hn (hT x o hx hq))).trans (h.cell x o hx hn),
    fun x o hx hn => (k.frozen x o (Nat.lt_of_lt_of_le hx h.size) (fun hq => hn (hT x o hx hq))).trans (h.frozen x o hx hn),
    fun x hx hn => (k.block x (Nat.lt_of_lt_of_le hx h.size) (fun o hq => hn o (hT x o hx hq))).trans (h.block x hx hn)⟩
theorem Upw.trans {T : Nat → Nat → Prop} {a b c : World} (h : Upw T a b) (k : Upw T b c) : Upw T a c := h.then k (fun _ _ _ h => h)
theorem Upw.mono {T T' : Nat → Nat → Prop} {a b : World} (h : Upw T a b) (hT : ∀ x o, x < a.heap.size → T x o → T' x o) : Upw T' a b := (Upw.refl T' a).then h hT
theorem Upw.alloc {T : Nat → Nat → Prop} {a b : World} (h : Upw T a b) (o : Obj) : Upw T a (b.alloc o) := h.trans ((Upd.refl T b).alloc o).w
theorem Upw.drew {T : Nat → Nat → Prop} {a b : World} (h : Upw T a b) : Upw T a b.drew := h.trans (Upd.refl T b).drew.w
theorem Upw.setCell {T : Nat → Nat → Prop} {a b : World} (h : Upw T a b) (x i : Nat) (hT : x < a.heap.size → T x i) (v : Value) : Upw T a (b.setCell ⟨x, i, none⟩ v) :=
  h.then (T' := fun y j => y = x ∧ j = i) ((Upd.refl _ b).setCell x i (fun _ => ⟨rfl, rfl⟩) v).w (fun y j hy e => by rw [e.1] at hy ⊢; rw [e.2]; exact hT hy)
theorem Upw.grown {T : Nat → Nat → Prop} {a b c : World} (h : Upw T a b) {row : Option Nat} (hg : b.grownBy c row) (hr : ∀ k, row = some k → k < a.heap.size → ∀ o, T k o) : Upw T a c := by
  refine h.then (T' := fun y _ => row = some y) ⟨hg.os, hg.tape, hg.output, hg.size, ?_, ?_, ?_⟩ (fun y o hy e => hr y e hy o)
  · intro y o hy hn
    exact World.cell?_of_block (hg.block y hy (fun e => hn e.symm))
  · intro y o hy hn
    exact World.frozen?_of_block (hg.block y hy (fun e => hn e.symm))
  · intro y hy hn
    exact hg.block y hy (fun e => hn 0 e.symm)
theorem Upw.at {T : Nat → Nat → Prop} {w w' : World} (h : Upw T w w') {b o : Nat} {vs : List Value} (hA : At w b o vs) (hT : ∀ i, i < vs.length → ¬ T b (o + i)) : At w' b o vs := fun i v hv =>
  (h.cell b (o + i) (World.block_lt_of_cell? w _ (hA i v hv)) (hT i (List.getElem?_eq_some_iff.1 hv).1)).trans (hA i v hv)
theorem Upw.free {T : Nat → Nat → Prop} {w w' : World} (h : Upw T w w') {b o n : Nat} (hb : b < w.heap.size) (hF : Free w b o n) (hT : ∀ i, ¬ T b i) : Free w' b o n := fun i hi => (h.frozen b (o + i) hb (hT _)).trans (hF i hi)

/-! ### A writer -/
/-- A writer: its bytes so far, and k flags, all false. -/
def OutK (k e base : Nat) (w : World) (bf : Nat) (v : Value) (B : List UInt8) : Prop :=
  Free w bf 0 (k + 1) ∧ At w bf 0 (v :: List.replicate k (.bool false)) ∧ w.ownsRow base e 1 v B.length (B.map u8) ∧ bf < base ∧ base ≤ w.heap.size

/-- The bytes l are written. -/
structure Wr (k e base : Nat) (w w' : World) (bf : Nat) (v : Value) (B l : List UInt8) (v' : Value) : Prop where
  upd : Upw (TW bf v) w w'
  form : OutK k e base w' bf v' (B ++ l)
  own : v'.ownBlock = v.ownBlock ∨ ∃ g, v'.ownBlock = some g ∧ w.heap.size ≤ g

theorem OutK.lt {k e base : Nat} {w : World} {bf : Nat} {v : Value} {B : List UInt8} (h : OutK k e base w bf v B) : bf < w.heap.size := Nat.lt_of_lt_of_le h.2.2.2.1 h.2.2.2.2
theorem OutK.cell {k e base : Nat} {w : World} {bf : Nat} {v : Value} {B : List UInt8} (h : OutK k e base w bf v B) : w.cell? ⟨bf, 0, none⟩ = some v := h.2.1.head
theorem OutK.flag {k e base : Nat} {w : World} {bf : Nat} {v : Value} {B : List UInt8} (h : OutK k e base w bf v B) (i : Nat) (hi : i < k) : w.cell? ⟨bf, i + 1, none⟩ = some (.bool false) := by
  have := h.2.1 (i + 1) (.bool false) (by simp [hi])
  rwa [Nat.zero_add] at this
theorem OutK.fr {k e base : Nat} {w : World} {bf : Nat} {v : Value} {B : List UInt8} (h : OutK k e base w bf v B) (i : Nat) (hi : i < k + 1) : w.frozen? ⟨bf, i, none⟩ = false := by
  have := h.1 i hi
  rwa [Nat.zero_add] at this
theorem OutK.row {k e base : Nat} {w : World} {bf : Nat} {v : Value} {B : List UInt8} (h : OutK k e base w bf v B) : w.ownsRow base e 1 v B.length (B.map u8) := h.2.2.1
theorem OutK.nbf {k e base : Nat} {w : World} {bf : Nat} {v : Value} {B : List UInt8} (h : OutK k e base w bf v B) : v.ownBlock ≠ some bf := fun e' => by
  have := (h.row.lt bf e').1
  have := h.2.2.2.1
  omega

theorem Wr.refl {k e base : Nat} {w : World} {bf : Nat} {v : Value} {B : List UInt8} (h : OutK k e base w bf v B) : Wr k e base w w bf v B [] v := ⟨Upw.refl _ _, by simpa using h, .inl rfl⟩
theorem TW.up {bf : Nat} {v v1 : Value} {w : World} (h : v1.ownBlock = v.ownBlock ∨ ∃ g, v1.ownBlock = some g ∧ w.heap.size ≤ g) : ∀ x o, x < w.heap.size → TW bf v1 x o → TW bf v x o := fun x o hx e => by
  rcases e with e | e
  · exact .inl e
  · rcases h with h | ⟨g, h, hg⟩
    · exact .inr (h ▸ e)
    · rw [h] at e; injection e with e; omega
theorem Wr.trans {k e base : Nat} {w w1 w2 : World} {bf : Nat} {v v1 v2 : Value} {B l m : List UInt8} (h : Wr k e base w w1 bf v B l v1) (g : Wr k e base w1 w2 bf v1 (B ++ l) m v2) : Wr k e base w w2 bf v B (l ++ m) v2 where
  upd := h.upd.then g.upd (TW.up h.own)
  form := by have := g.form; rwa [List.append_assoc] at this
  own := by
    rcases g.own with e | ⟨q, e, hq⟩
    · rcases h.own with e' | ⟨q, e', hq⟩
      · exact .inl (e.trans e')
      · exact .inr ⟨q, e.trans e', hq⟩
    · exact .inr ⟨q, e, Nat.le_trans h.upd.size hq⟩
theorem Wr.alloc {k e base : Nat} {w w1 : World} {bf : Nat} {v v1 : Value} {B l : List UInt8} {ob : Obj} (h : Wr k e base (w.alloc ob) w1 bf v B l v1) : Wr k e base w w1 bf v B l v1 where
  upd := ((Upw.refl _ w).alloc ob).trans h.upd
  form := h.form
  own := by
    rcases h.own with e | ⟨q, e, hq⟩
    · exact .inl e
    · exact .inr ⟨q, e, by simp at hq; omega⟩
theorem Wr.ofDrew {k e base : Nat} {w w1 : World} {bf : Nat} {v v1 : Value} {B l : List UInt8} (h : Wr k e base w.drew w1 bf v B l v1) : Wr k e base w w1 bf v B l v1 :=
  ⟨⟨h.upd.os, h.upd.tape, h.upd.output, h.upd.size, h.upd.cell, h.upd.frozen, h.upd.block⟩, h.form, h.own⟩

theorem OutK.kept {k e base : Nat} {w w1 : World} {bf : Nat} {v : Value} {B : List UInt8} {T : Nat → Nat → Prop} (h : OutK k e base w bf v B) (u : Upd T w w1) (h1 : ∀ o, ¬ T bf o) (h2 : ∀ q, v.ownBlock = some q → ∀ o, ¬ T q o) : OutK k e base w1 bf v B := by
  refine ⟨u.free h.lt h.1, u.at h.2.1 (fun i _ => h1 _), ⟨h.row.1, ?_⟩, h.2.2.2.1, Nat.le_trans h.2.2.2.2 u.size⟩
  rcases h.row.2 with hn | ⟨q, cap, cur, rfl, hq, hh, rest⟩
  · exact .inl hn
  · refine .inr ⟨q, cap, cur, rfl, hq, ?_, rest⟩
    rw [u.block q (Array.getElem?_eq_some_iff.1 hh).1 (h2 q rfl)]
    exact hh
theorem OutK.alloc {k e base : Nat} {w : World} {bf : Nat} {v : Value} {B : List UInt8} (h : OutK k e base w bf v B) (ob : Obj) : OutK k e base (w.alloc ob) bf v B :=
  h.kept ((Upd.refl (fun _ _ => False) w).alloc ob) (fun _ h => h) (fun _ _ _ h => h)

/-- What is appended is written. -/
theorem OutK.append {k e base : Nat} {w w0 w1 : World} {bf : Nat} {v v' : Value} {B l : List UInt8} {n : Nat} {us : List Value} (h : OutK k e base w bf v B) (h0 : Upd (fun _ _ => False) w w0) (hus : us = B.map u8 ++ l.map u8) (hn : n = B.length + l.length)
    (hown : w1.ownsRow base e 1 v' n us) (hg : w0.grownBy w1 v.ownBlock) (hat : v'.ownBlock = v.ownBlock ∨ v'.ownBlock = some w0.heap.size) : Wr k e base w (w1.setCell ⟨bf, 0, none⟩ v') bf v B l v' := by
  subst hus
  subst hn
  have hlt := h.lt
  have hs0 := h0.size
  have hs1 := hg.size
  have hbf : w1.heap[bf]? = w0.heap[bf]? := hg.block bf (by omega) (fun e' => h.nbf e'.symm)
  have hA : At w1 bf 0 (v :: List.replicate k (.bool false)) := fun i u hu => (World.cell?_of_block hbf).trans (h0.at h.2.1 (fun _ _ h => h) i u hu)
  have hF : Free w1 bf 0 (k + 1) := fun i hi => (World.frozen?_of_block hbf).trans (h0.free hlt h.1 i hi)
  have hv' : v'.ownBlock ≠ some bf := by
    rcases hat with e' | e'
    · rw [e']; exact h.nbf
    · rw [e']; intro e''; injection e'' with e''; omega
  refine ⟨((Upw.refl _ w).trans (h0.mono (fun _ _ _ h => h.elim)).w |>.grown hg (fun q hq _ o => .inr hq)).setCell bf 0 (fun _ => .inl rfl) v', ⟨hF.setCell _ _, ?_, ?_, h.2.2.2.1, ?_⟩, ?_⟩
  · have := setCell_at hA 0 (by simp) v'
    simpa using this
  · rw [List.length_append, List.map_append]
    refine ⟨hown.1, ?_⟩
    rcases hown.2 with hn | ⟨q, cap, cur, rfl, hq, hh, rest⟩
    · exact .inl hn
    · refine .inr ⟨q, cap, cur, rfl, hq, ?_, rest⟩
      rw [Below.heap_setCell _ _ _ _ (fun e' => hv' (by have e'' : q = bf := e'; rw [← e'']; rfl))]
      exact hh
  · have := h.2.2.2.2; simp; omega
  · rcases hat with e' | e'
    · exact .inl e'
    · exact .inr ⟨_, e', hs0⟩

/-! ### Numbers -/
theorem zig_lt {n : Int} (h : inR n = true) : zig n ≤ 2199023255552 := by
  have := (inR_iff n).1 h
  unfold zig
  split <;> omega
theorem u64_flip (a : Nat) (ha : a < 18446744073709551616) : bits .xor .u64 IntKind.u64.max (a : Int) = ((18446744073709551615 - a : Nat) : Int) := by
  have h := u64_xor_nat 18446744073709551615 a (by omega) ha
  rw [show ((18446744073709551615 : Nat) : Int) = IntKind.u64.max from rfl] at h
  rw [h]
  congr 1
  have e : (BitVec.allOnes 64 ^^^ BitVec.ofNat 64 a).toNat = 18446744073709551615 - a := by
    rw [BitVec.allOnes_xor, BitVec.toNat_not, BitVec.toNat_ofNat, Nat.mod_eq_of_lt ha]
  rw [BitVec.toNat_xor, BitVec.toNat_ofNat, Nat.mod_eq_of_lt ha] at e
  exact e
theorem zig_pos {n : Int} (h : inR n = true) (hn : 0 ≤ n) : IntKind.u64.wrap (IntKind.u64.wrap n * 2) = (zig n : Int) := by
  have := (inR_iff n).1 h
  rw [IntKind.wrap_u64, IntKind.wrap_u64]
  unfold zig
  split <;> omega
theorem zig_neg {n : Int} (h : inR n = true) (hn : n < 0) : bits .xor .u64 IntKind.u64.max (IntKind.u64.wrap (IntKind.u64.wrap n * 2)) = (zig n : Int) := by
  have := (inR_iff n).1 h
  have e : IntKind.u64.wrap (IntKind.u64.wrap n * 2) = 18446744073709551615 - (zig n : Int) := by
    rw [IntKind.wrap_u64, IntKind.wrap_u64]
    unfold zig
    split <;> omega
  have hz : zig n ≤ 2199023255552 := by unfold zig; split <;> omega
  rw [e, show (18446744073709551615 : Int) - (zig n : Int) = ((18446744073709551615 - zig n : Nat) : Int) by omega, u64_flip _ (by omega)]
  omega
theorem or128 (u : Nat) : bits .or .u8 (IntKind.u8.wrap (u : Int)) 128 = ((UInt8.ofNat (128 + u % 128)).toNat : Int) := by
  have h1 : IntKind.u8.wrap (u : Int) = ((u % 256 : Nat) : Int) := by rw [IntKind.wrap_u8]; omega
  rw [h1]
  have h2 := u8_or_nat (u % 256) 128 (by omega) (by omega)
  rw [show ((128 : Nat) : Int) = 128 from rfl] at h2
  rw [h2]
  have h3 : (u % 256) ||| 128 = 128 + u % 128 := by
    by_cases hb : u % 256 < 128
    · rw [Nat.or_comm, nat_join7 128 (u % 256) (by omega) hb]; omega
    · have : u % 256 = 128 ||| (u % 128) := by rw [nat_join7 128 (u % 128) (by omega) (by omega)]; omega
      rw [this, Nat.or_comm, ← Nat.or_assoc, Nat.or_self, nat_join7 128 (u % 128) (by omega) (by omega)]
  rw [h3]
  have h4 : (UInt8.ofNat (128 + u % 128)).toNat = 128 + u % 128 := by simp; omega
  rw [h4]
theorem or128' (u : Nat) : bits .or .u8 ((u : Int) % 256) 128 = ((UInt8.ofNat (128 + u % 128)).toNat : Int) := by
  have h := or128 u
  rwa [IntKind.wrap_u8] at h
theorem u8_small' {u : Nat} (_h : u < 128) : (u : Int) = ((UInt8.ofNat u).toNat : Int) := by
  simp; omega
theorem vint_go {u : Nat} (h : 128 ≤ u) : vint u = UInt8.ofNat (128 + u % 128) :: vint (u / 128) := by rw [vint, if_neg (by omega)]
theorem vint_end {u : Nat} (h : u < 128) : vint u = [UInt8.ofNat u] := by rw [vint, if_pos h]
theorem u8_small {u : Nat} (_h : u < 128) : IntKind.u8.wrap (u : Int) = ((UInt8.ofNat u).toNat : Int) := by
  rw [IntKind.wrap_u8]; simp
end Cod

/- The codec's writer of records that may be written: what it is told, what it does; plain laws, no program in sight. -/
namespace Cod
open Go Go.RowKit

/-- A writer is handed a record that lies in memory, of which nothing is the writer's own, and that may be written. -/
structure WoH (k e base : Nat) (s : Sch) (F : Nat → Prop) (w : World) (bf b o : Nat) (v : Value) (B : List UInt8) (x : Ty s) : Prop where
  form : OutK k e base w bf v B
  lies : ∃ vs, At w b o vs ∧ Lay s F w vs x
  free : Free w b o (szc s)
  sep : ∀ q, F q → q < w.heap.size ∧ q ≠ bf ∧ v.ownBlock ≠ some q
  ne : b ≠ bf
  nv : v.ownBlock ≠ some b
  lt : b < w.heap.size
  okay : Cod.okay s x = true
  len : B.length + bnd s x ≤ 70368744177664

/-- How a writer ends. -/
def WoEnd (k e base : Nat) (w : World) (bf : Nat) (v : Value) (B l : List UInt8) (e' : Ending) (w' : World) : Prop :=
  e' = .returned (.tuple #[]) ∧ ∃ v', Wr k e base w w' bf v B l v'
/-- The contract of a writer. -/
def WoC (P : Program) (k e : Nat) (f : FuncId) (s : Sch) : Prop :=
  ∀ (base : Nat) (F : Nat → Prop) (w : World) (bf b o : Nat) (v : Value) (B : List UInt8) (x : Ty s), WoH k e base s F w bf b o v B x →
    Calls P f #[.pointer (some ⟨bf, 0, none⟩), .pointer (some ⟨b, o, none⟩)] w (WoEnd k e base w bf v B (enc s x))

theorem enc_pair {s t : Sch} (x : Ty (.pair s t)) : enc (.pair s t) x = enc s x.1 ++ enc t x.2 := rfl
theorem okay_pair {s t : Sch} {x : Ty (.pair s t)} (h : Cod.okay (.pair s t) x = true) : Cod.okay s x.1 = true ∧ Cod.okay t x.2 = true := by
  simpa only [Cod.okay, Bool.and_eq_true] using h
theorem enc_len' {s : Sch} {x : Ty s} (h : Cod.okay s x = true) : (enc s x).length ≤ bnd s x := by
  have h1 := wr_okay s x [] h
  have h2 := (wr_len s x ([], false)).1
  rw [h1] at h2
  simpa using h2

theorem WoH.first {k e base : Nat} {s t : Sch} {F : Nat → Prop} {w : World} {bf b o : Nat} {v : Value} {B : List UInt8} {x : Ty (.pair s t)} (h : WoH k e base (.pair s t) F w bf b o v B x) : WoH k e base s F w bf b o v B x.1 where
  form := h.form
  lies := by
    obtain ⟨vs, hA, us, ws, rfl, h1, h2⟩ := h.lies
    exact ⟨us, hA.left, h1⟩
  free := h.free.left (by simp [szc])
  sep := h.sep
  ne := h.ne
  nv := h.nv
  lt := h.lt
  okay := (okay_pair h.okay).1
  len := by have := h.len; simp only [bnd] at this; omega

theorem Wr.keeps {k e base : Nat} {w w' : World} {bf : Nat} {v v' : Value} {B l : List UInt8} (p : Wr k e base w w' bf v B l v') {q : Nat} (h : q < w.heap.size ∧ q ≠ bf ∧ v.ownBlock ≠ some q) : w'.heap[q]? = w.heap[q]? ∧ (q < w'.heap.size ∧ q ≠ bf ∧ v'.ownBlock ≠ some q) := by
  obtain ⟨h1, h2, h3⟩ := h
  refine ⟨p.upd.block q h1 (fun _ => ?_), Nat.lt_of_lt_of_le h1 p.upd.size, h2, ?_⟩
  · rintro (e' | e')
    · exact h2 e'
    · exact h3 e'
  · rcases p.own with e' | ⟨g, e', hg⟩
    · rw [e']; exact h3
    · rw [e']; intro e''; injection e'' with e''; omega

theorem Wr.next {k e base : Nat} {s t : Sch} {F : Nat → Prop} {w w' : World} {bf b o : Nat} {v v' : Value} {B : List UInt8} {x : Ty (.pair s t)} (h : WoH k e base (.pair s t) F w bf b o v B x) (p : Wr k e base w w' bf v B (enc s x.1) v') :
    WoH k e base t F w' bf b (o + szc s) v' (B ++ enc s x.1) x.2 := by
  have hT : ∀ i, ¬ TW bf v b i := fun i => by
    rintro (e' | e')
    · exact h.ne e'
    · exact h.nv e'
  have hk := p.keeps ⟨h.lt, h.ne, h.nv⟩
  refine ⟨p.form, ?_, p.upd.free h.lt (h.free.right (by simp [szc])) hT, fun q hq => (p.keeps (h.sep q hq)).2, h.ne, hk.2.2.2, hk.2.1, (okay_pair h.okay).2, ?_⟩
  · obtain ⟨vs, hA, us, ws, rfl, h1, h2⟩ := h.lies
    exact ⟨ws, p.upd.at (hA.right (Lay.len s h1)) (fun i _ => hT _), Lay.keep t h2 (fun _ h => h) (fun q hq _ => (p.keeps (h.sep q hq)).1)⟩
  · have h1 := h.len
    have h2 := enc_len' (okay_pair h.okay).1
    simp only [bnd] at h1
    simp only [List.length_append]
    omega

theorem Wr.both {k e base : Nat} {s t : Sch} {w w1 w2 : World} {bf : Nat} {v v1 v2 : Value} {B : List UInt8} {x : Ty (.pair s t)} (h : Wr k e base w w1 bf v B (enc s x.1) v1) (g : Wr k e base w1 w2 bf v1 (B ++ enc s x.1) (enc t x.2) v2) :
    Wr k e base w w2 bf v B (enc (.pair s t) x) v2 := h.trans g

/-- A new block holds what is written. -/
theorem WoH.new {k e base : Nat} {s : Sch} {F : Nat → Prop} {w : World} {bf : Nat} {v : Value} {B : List UInt8} {x : Ty s} (h : OutK k e base w bf v B) (cs : Array Value) (T : TypeId) (hL : Lay s F w cs.toList x) (hs : ∀ q, F q → q < w.heap.size ∧ q ≠ bf ∧ v.ownBlock ≠ some q)
    (ho : Cod.okay s x = true) (hl : B.length + bnd s x ≤ 70368744177664) : WoH k e base s F (w.alloc (.cells cs T)) bf w.heap.size 0 v B x where
  form := h.alloc _
  lies := ⟨cs.toList, At.new w cs T, Lay.keep s hL (fun _ h => h) (fun q hq _ => Below.heap_alloc _ _ _ (hs q hq).1)⟩
  free := Free.new w cs T _
  sep := fun q hq => ⟨by have := (hs q hq).1; simp; omega, (hs q hq).2⟩
  ne := by have := h.lt; omega
  nv := fun e' => by have := (h.row.lt _ e').2; omega
  lt := by simp
  okay := ho
  len := hl
theorem WoH.alloc {k e base : Nat} {s : Sch} {F : Nat → Prop} {w : World} {bf b o : Nat} {v : Value} {B : List UInt8} {x : Ty s} (h : WoH k e base s F w bf b o v B x) (ob : Obj) : WoH k e base s F (w.alloc ob) bf b o v B x where
  form := h.form.alloc _
  lies := by
    obtain ⟨vs, hA, hL⟩ := h.lies
    exact ⟨vs, ((Upd.refl (fun _ _ => False) w).alloc ob).at hA (fun _ _ h => h), Lay.keep s hL (fun _ h => h) (fun q hq _ => Below.heap_alloc _ _ _ (h.sep q hq).1)⟩
  free := ((Upd.refl (fun _ _ => False) w).alloc ob).free h.lt h.free
  sep := fun q hq => ⟨by have := (h.sep q hq).1; simp; omega, (h.sep q hq).2⟩
  ne := h.ne
  nv := h.nv
  lt := by have := h.lt; simp; omega
  okay := h.okay
  len := h.len
theorem WoH.drew {k e base : Nat} {s : Sch} {F : Nat → Prop} {w : World} {bf b o : Nat} {v : Value} {B : List UInt8} {x : Ty s} (h : WoH k e base s F w bf b o v B x) : WoH k e base s F w.drew bf b o v B x :=
  ⟨h.form, by obtain ⟨vs, hA, hL⟩ := h.lies; exact ⟨vs, hA, Lay.keep s hL (fun _ h => h) (fun _ _ _ => rfl)⟩, h.free, h.sep, h.ne, h.nv, h.lt, h.okay, h.len⟩

/-- The number that lies there. -/
theorem WoH.num {k e base : Nat} {F : Nat → Prop} {w : World} {bf b o : Nat} {v : Value} {B : List UInt8} {x : Int} (h : WoH k e base .num F w bf b o v B x) : w.cell? ⟨b, o, none⟩ = some (.int .i64 x) := by
  obtain ⟨vs, hA, hL⟩ := h.lies
  simp only [Lay] at hL
  subst hL
  exact hA.head
theorem WoH.flag {k e base : Nat} {F : Nat → Prop} {w : World} {bf b o : Nat} {v : Value} {B : List UInt8} {x : Bool} (h : WoH k e base .flag F w bf b o v B x) : w.cell? ⟨b, o, none⟩ = some (.bool x) := by
  obtain ⟨vs, hA, hL⟩ := h.lies
  simp only [Lay] at hL
  subst hL
  exact hA.head
theorem WoH.fr {k e base : Nat} {s : Sch} {F : Nat → Prop} {w : World} {bf b o : Nat} {v : Value} {B : List UInt8} {x : Ty s} (h : WoH k e base s F w bf b o v B x) (hs : 0 < szc s) : w.frozen? ⟨b, o, none⟩ = false := by
  have := h.free 0 hs
  simpa using this

/-- A number that is being written: what has been written of it, and what is left of it. -/
structure NumW (k e base : Nat) (w wr : World) (bf : Nat) (v : Value) (B : List UInt8) (U u : Nat) (v' : Value) (B' : List UInt8) : Prop where
  row : ∃ pre, vint U = pre ++ vint u ∧ B' = B ++ pre ∧ Wr k e base w wr bf v B pre v'
  le : u ≤ 2199023255552
  len : B'.length ≤ 70368744177664
theorem NumW.start {k e base : Nat} {w : World} {bf : Nat} {v : Value} {B : List UInt8} (h : OutK k e base w bf v B) {U : Nat} (hU : U ≤ 2199023255552) (hl : B.length + 6 ≤ 70368744177664) : NumW k e base w w bf v B U U v B :=
  ⟨⟨[], rfl, by simp, Wr.refl h⟩, hU, by omega⟩
theorem NumW.out {k e base : Nat} {w wr : World} {bf : Nat} {v v' : Value} {B B' : List UInt8} {U u : Nat} (h : NumW k e base w wr bf v B U u v' B') : OutK k e base wr bf v' B' := by
  obtain ⟨pre, _, rfl, p⟩ := h.row
  exact p.form
theorem vint_small {u : Nat} (h : u ≤ 2199023255552) : (vint u).length ≤ 6 := vint_len 5 u (by omega)
/-- One more byte. -/
theorem NumW.more {k e base : Nat} {w wr w1 : World} {bf : Nat} {v v' v1 : Value} {B B' : List UInt8} {U u : Nat} {c : Value} {T : TypeId} (h : NumW k e base w wr bf v B U u v' B') (hU : U ≤ 2199023255552) (hl : B.length + 6 ≤ 70368744177664) (hu : 128 ≤ u) (hc : c = .int .u8 ((UInt8.ofNat (128 + u % 128)).toNat : Int))
    (hown : w1.ownsRow base e 1 v1 (B'.length + 1) (B'.map u8 ++ [c])) (hg : (wr.alloc (.cells #[c] T)).grownBy w1 v'.ownBlock) (hat : v1.ownBlock = v'.ownBlock ∨ v1.ownBlock = some (wr.heap.size + 1)) :
    NumW k e base w (w1.setCell ⟨bf, 0, none⟩ v1) bf v B U (u / 128) v1 (B' ++ [UInt8.ofNat (128 + u % 128)]) := by
  obtain ⟨pre, h1, rfl, p⟩ := h.row
  have q := p.form.append (l := [UInt8.ofNat (128 + u % 128)]) ((Upd.refl _ wr).alloc (.cells #[c] T)) (by rw [hc]; rfl) rfl hown hg (hat.imp id (fun e' => by rw [e']; simp))
  rw [vint_go hu] at h1
  have h2 := vint_small hU
  rw [h1] at h2
  simp at h2
  refine ⟨⟨pre ++ [UInt8.ofNat (128 + u % 128)], by rw [h1]; simp, by simp, p.trans q⟩, by have := h.le; omega, ?_⟩
  simp
  omega
/-- The last byte. -/
theorem NumW.last {k e base : Nat} {w wr w1 : World} {bf : Nat} {v v' v1 : Value} {B B' : List UInt8} {U u : Nat} {c : Value} {T : TypeId} (h : NumW k e base w wr bf v B U u v' B') (hu : u < 128) (hc : c = .int .u8 ((UInt8.ofNat u).toNat : Int))
    (hown : w1.ownsRow base e 1 v1 (B'.length + 1) (B'.map u8 ++ [c])) (hg : (wr.alloc (.cells #[c] T)).grownBy w1 v'.ownBlock) (hat : v1.ownBlock = v'.ownBlock ∨ v1.ownBlock = some (wr.heap.size + 1)) :
    Wr k e base w (w1.setCell ⟨bf, 0, none⟩ v1) bf v B (vint U) v1 := by
  obtain ⟨pre, h1, rfl, p⟩ := h.row
  have q := p.form.append (l := [UInt8.ofNat u]) ((Upd.refl _ wr).alloc (.cells #[c] T)) (by rw [hc]; rfl) rfl hown hg (hat.imp id (fun e' => by rw [e']; simp))
  rw [vint_end hu] at h1
  rw [h1]
  exact p.trans q

/-- Behind the append: what the store must find. -/
theorem OutK.behind {k e base : Nat} {w w0 w1 : World} {bf : Nat} {v : Value} {B : List UInt8} (h : OutK k e base w bf v B) (h0 : Upd (fun _ _ => False) w w0) (hg : w0.grownBy w1 v.ownBlock) : w1.cell? ⟨bf, 0, none⟩ = some v ∧ w1.frozen? ⟨bf, 0, none⟩ = false := by
  have hlt := h.lt
  have hbf : w1.heap[bf]? = w0.heap[bf]? := hg.block bf (Nat.lt_of_lt_of_le hlt h0.size) (fun e' => h.nbf e'.symm)
  exact ⟨(World.cell?_of_block hbf).trans ((h0.cell bf 0 hlt (fun h => h)).trans h.cell), (World.frozen?_of_block hbf).trans ((h0.frozen bf 0 hlt).trans (h.fr 0 (by omega)))⟩
end Cod

/- Numbers one behind the other, flags: what writing them comes to; plain laws, no program in sight. -/
namespace Cod
open Go Go.RowKit

def toL : (k : Nat) → Ty (numsL k) → List Int
  | 0, _ => []
  | k + 1, x => toL k x.1 ++ [x.2]
theorem toL_len : ∀ (k : Nat) (x : Ty (numsL k)), (toL k x).length = k
  | 0, _ => rfl
  | k + 1, x => by simp [toL, toL_len k]
theorem toL_enc : ∀ (k : Nat) (x : Ty (numsL k)), enc (numsL k) x = ((toL k x).map encN).flatten
  | 0, _ => rfl
  | k + 1, x => by
    show enc (numsL k) x.1 ++ encN x.2 = _
    rw [toL_enc k]
    simp [toL]
theorem toL_lay : ∀ (k : Nat) (x : Ty (numsL k)) {F : Nat → Prop} {w : World} {vs : List Value}, Lay (numsL k) F w vs x → vs = (toL k x).map (.int .i64)
  | 0, _, _, _, _, h => h
  | k + 1, x, F, w, vs, h => by
    obtain ⟨us, ws, rfl, h1, h2⟩ := h
    rw [toL_lay k x.1 h1]
    simp only [Lay] at h2
    rw [h2]
    simp [toL]
theorem toL_okay : ∀ (k : Nat) (x : Ty (numsL k)), okay (numsL k) x = true → ∀ n ∈ toL k x, inR n = true
  | 0, _, _, n, hn => by simp [toL] at hn
  | k + 1, x, h, n, hn => by
    have h' := okay_pair (s := numsL k) (t := .num) h
    simp only [toL, List.mem_append, List.mem_singleton] at hn
    rcases hn with hn | rfl
    · exact toL_okay k x.1 h'.1 n hn
    · exact h'.2
theorem toL_bnd : ∀ (k : Nat) (x : Ty (numsL k)), bnd (numsL k) x = 6 * k
  | 0, _ => rfl
  | k + 1, x => by simp only [bnd, numsL, toL_bnd k]; omega
theorem flat_len : ∀ (l : List Int), (∀ n ∈ l, inR n = true) → ((l.map encN).flatten).length ≤ 6 * l.length
  | [], _ => by simp
  | n :: l, h => by
    have h1 := encN_len (h n (List.mem_cons_self ..))
    have h2 := flat_len l (fun m hm => h m (List.mem_cons_of_mem _ hm))
    simp only [List.map_cons, List.flatten_cons, List.length_append, List.length_cons]
    omega

/-- Number j of a row of numbers, behind those ahead of it. -/
theorem WoH.numAt {k e base n j : Nat} {F : Nat → Prop} {w wr : World} {bf b o : Nat} {v v' : Value} {B : List UInt8} {x : Ty (numsL n)} (h : WoH k e base (numsL n) F w bf b o v B x) (hj : j < n)
    (p : Wr k e base w wr bf v B (((toL n x).take j).map encN).flatten v') : WoH k e base .num F wr bf b (o + j) v' (B ++ (((toL n x).take j).map encN).flatten) ((toL n x)[j]'(by rw [toL_len]; exact hj)) := by
  have hT : ∀ i, ¬ TW bf v b i := fun i => by
    rintro (e' | e')
    · exact h.ne e'
    · exact h.nv e'
  have hk := p.keeps ⟨h.lt, h.ne, h.nv⟩
  have hl := toL_len n x
  refine ⟨p.form, ?_, p.upd.free h.lt (h.free.right (by have := szc_numsL n; simp only [szc]; omega)) hT, fun q hq => (p.keeps (h.sep q hq)).2, h.ne, hk.2.2.2, hk.2.1, toL_okay n x h.okay _ (List.getElem_mem _), ?_⟩
  · obtain ⟨vs, hA, hL⟩ := h.lies
    have := toL_lay n x hL
    subst this
    refine ⟨[.int .i64 ((toL n x)[j]'(by omega))], At.one ?_, by simp only [Lay]⟩
    have h1 := hA j (.int .i64 ((toL n x)[j]'(by omega))) (by rw [List.getElem?_map, List.getElem?_eq_getElem (by omega)]; rfl)
    exact (p.upd.cell b (o + j) h.lt (hT _)).trans h1
  · have h1 := h.len
    have h2 := flat_len ((toL n x).take j) (fun m hm => toL_okay n x h.okay m (List.mem_of_mem_take hm))
    rw [toL_bnd] at h1
    simp only [bnd, List.length_append]
    rw [List.length_take] at h2
    omega
theorem Wr.numMore {k e base n j : Nat} {w w1 w2 : World} {bf : Nat} {v v1 v2 : Value} {B : List UInt8} {x : Ty (numsL n)} (hj : j < n)
    (p : Wr k e base w w1 bf v B (((toL n x).take j).map encN).flatten v1) (q : Wr k e base w1 w2 bf v1 (B ++ (((toL n x).take j).map encN).flatten) (enc .num ((toL n x)[j]'(by rw [toL_len]; exact hj))) v2) :
    Wr k e base w w2 bf v B (((toL n x).take (j + 1)).map encN).flatten v2 := by
  have := p.trans q
  have e' : (toL n x).take (j + 1) = (toL n x).take j ++ [(toL n x)[j]'(by rw [toL_len]; exact hj)] := by rw [List.take_succ_eq_append_getElem (by rw [toL_len]; exact hj)]
  rw [e', List.map_append, List.flatten_append]
  simpa only [List.map_cons, List.map_nil, List.flatten_cons, List.flatten_nil, List.append_nil, enc] using this
theorem Wr.numAll {k e base n : Nat} {w w1 : World} {bf : Nat} {v v1 : Value} {B : List UInt8} {x : Ty (numsL n)} (p : Wr k e base w w1 bf v B (((toL n x).take n).map encN).flatten v1) : Wr k e base w w1 bf v B (enc (numsL n) x) v1 := by
  rw [toL_enc]
  rwa [List.take_of_length_le (by rw [toL_len]; exact Nat.le_refl _)] at p

theorem setCell_alloc_new (w : World) (u v : Value) (T : TypeId) : (w.alloc (.cells #[u] T)).setCell ⟨w.heap.size, 0, none⟩ v = w.alloc (.cells #[v] T) := by
  simp only [World.setCell, World.alloc]
  congr 1
  apply Array.ext_getElem?
  intro i
  rw [Array.getElem?_modify]
  by_cases h : w.heap.size = i
  · subst h
    simp
  · have h' : ¬ i = w.heap.size := fun e => h e.symm
    simp [h, h', Array.getElem?_push]

/-- Many: how many there are. -/
def ManyW (k e base : Nat) (w : World) (bf : Nat) (v : Value) (B : List UInt8) (n : Nat) (e' : Ending) (w' : World) : Prop :=
  e' = .returned (.int .i64 (n : Int)) ∧ ∃ v', Wr k e base w w' bf v B (encN n) v'

/-- What is written again as it was. -/
theorem Wr.same {k e base : Nat} {w w1 : World} {bf : Nat} {v v1 : Value} {B l : List UInt8} (p : Wr k e base w w1 bf v B l v1) {a : Addr} {u : Value} (h : w1.cell? a = some u) : Wr k e base w (w1.setCell a u) bf v B l v1 := by rw [setCell_self h]; exact p
theorem Wr.cellAt {k e base : Nat} {w w1 : World} {bf : Nat} {v v1 : Value} {B l : List UInt8} (p : Wr k e base w w1 bf v B l v1) {b o : Nat} {u : Value} (h : w.cell? ⟨b, o, none⟩ = some u) (h1 : b ≠ bf) (h2 : v.ownBlock ≠ some b) : w1.cell? ⟨b, o, none⟩ = some u := by
  refine (p.upd.cell b o (World.block_lt_of_cell? w _ h) ?_).trans h
  rintro (e' | e')
  · exact h1 e'
  · exact h2 e'
theorem Wr.frAt {k e base : Nat} {w w1 : World} {bf : Nat} {v v1 : Value} {B l : List UInt8} (p : Wr k e base w w1 bf v B l v1) {b o : Nat} (hb : b < w.heap.size) (h : w.frozen? ⟨b, o, none⟩ = false) (h1 : b ≠ bf) (h2 : v.ownBlock ≠ some b) : w1.frozen? ⟨b, o, none⟩ = false := by
  refine (p.upd.frozen b o hb ?_).trans h
  rintro (e' | e')
  · exact h1 e'
  · exact h2 e'
theorem enc_flag (x : Bool) : enc .flag x = encN (if x then 1 else 0) := rfl

/-! ### Bytes that are appended, wherever they lie -/
theorem run_append_none {P : Program} {w : World} (base : Nat) (t ty e : TypeId) (i : TypeInfo) (size : Nat) (ht : P.underlying t = some (.slice e)) (hi : P.info? e = some i)
    (v : Value) (n c : Nat) (xs : List Value) (hown : w.ownsRow base e size v n xs) : (Builtin.append_ #[t, t] ty #[v, .slice none 0 c]).run P w = .ok v w := by
  rcases hown.2 with ⟨rfl, rfl⟩ | ⟨g, cap, cur, rfl, _, _, hnc, _⟩
  · simp [Builtin.append_, run_underlying ht, Go.sizeOf, typeInfo, hi, Builtin.lenOf, Builtin.firstCells]
  · simp [Builtin.append_, run_underlying ht, Go.sizeOf, typeInfo, hi, Builtin.lenOf, Builtin.firstCells, hnc, storeCells]

theorem wpList_append_bts {P : Program} {ops : Array Oper} {rest : List Oper} {o : Oper} {a : Act} {w : World} {Q : Exit → Act → World → Prop} (hgd : o.guard = none) (s x : Operand) (t : TypeId)
    (ho : o.op = .call { callee := .builtin .append, args := #[s, x], argTypes := #[t, t] })
    (base : Nat) (e : TypeId) (i : TypeInfo) (z : Value) (ht : P.underlying t = some (.slice e)) (hi : P.info? e = some i) (hz : i.zero = some z) (hsize : i.size = 1) (hby : i.bytes = 1) (hzs : z.cells.size = 1)
    (v : Value) (B : List UInt8) (hs : a.eval s = v) (hown : w.ownsRow base e 1 v B.length (B.map u8)) (hbase : base ≤ w.heap.size) {F : Nat → Prop} {A : Option Addr} {n c : Nat} {l : List UInt8} (hx : a.eval x = .slice A n c) (hb : Bts F w A n l)
    (hlen : B.length + n ≤ 140737488355328)
    (h : ∀ v' w', w'.ownsRow base e 1 v' (B.length + n) (B.map u8 ++ l.map u8) → w.grownBy w' v.ownBlock → (v'.ownBlock = v.ownBlock ∨ v'.ownBlock = some w.heap.size) → wpList P ops Q rest (a.put o.dst v') w') :
    wpList P ops Q (o :: rest) a w := by
  cases A with
  | none =>
    have hn : n = 0 := by
      rcases Nat.eq_zero_or_pos n with h0 | h0
      · exact h0
      · obtain ⟨_, _, e', _⟩ := hb.2.2 h0; cases e'
    subst hn
    have hl : l = [] := List.eq_nil_of_length_eq_zero hb.1
    subst hl
    have hrun := run_append_none (P := P) (w := w) base t o.type e i 1 ht hi v B.length c _ hown
    refine wpList_plain hgd fun K hK => ?_
    unfold Oper.wp
    simp [execOp, ho, resolve, invoke, builtin, hs, hx, hrun, Result.andThen]
    exact hK _ _ (h v w (by simpa using hown) ⟨rfl, rfl, rfl, Nat.le_refl _, fun _ _ _ => rfl⟩ (.inl rfl))
  | some ad =>
    refine wpList_append_own_at _ hgd s x t ho base e i z 1 1 ht hi hz hsize hby hzs (by omega) v B.length (B.map u8) hs hown ad n c (l.map u8) hx (by rw [List.length_map, hb.1, Nat.mul_one]) ?_ ?_ ?_ (by omega) hbase (fun v' w' h1 h2 _ h4 => h v' w' h1 h2 h4)
    · intro j u hu
      have hj : j < (l.map u8).length := (List.getElem?_eq_some_iff.1 hu).1
      rw [List.length_map, hb.1] at hj
      obtain ⟨b', o', e', _, hA⟩ := hb.2.2 (by omega)
      injection e' with e'
      subst e'
      rw [addr_add]
      exact hA j u hu
    · intro u hu
      obtain ⟨c', _, rfl⟩ := List.mem_map.1 hu
      rfl
    · unfold maxLen; omega
end Cod

/- A list that is written, element by element: plain laws, no program in sight. -/
namespace Cod
open Go Go.RowKit

/-- How many, and the first j of them. -/
def encJ (s : Sch) (x : List (Ty s)) (j : Nat) : List UInt8 := encN x.length ++ ((x.take j).map (enc s)).flatten
theorem encJ_zero (s : Sch) (x : List (Ty s)) : encJ s x 0 = encN x.length := by simp [encJ]
theorem encJ_succ (s : Sch) (x : List (Ty s)) {j : Nat} (hj : j < x.length) : encJ s x (j + 1) = encJ s x j ++ enc s x[j] := by
  unfold encJ
  rw [List.take_succ_eq_append_getElem hj, List.map_append, List.flatten_append]
  simp
theorem encJ_all (s : Sch) (x : List (Ty s)) : encJ s x x.length = enc (.list s) x := by
  unfold encJ
  rw [List.take_of_length_le (Nat.le_refl _)]
  rfl
theorem okay_list {s : Sch} {x : List (Ty s)} (h : Cod.okay (.list s) x = true) : x.length ≤ 64 ∧ ∀ y ∈ x, Cod.okay s y = true := by
  simp only [Cod.okay, Bool.and_eq_true, decide_eq_true_eq, List.all_eq_true] at h
  exact h
theorem sum_take {α : Type} (f : α → Nat) : ∀ (l : List α) (j : Nat), j ≤ l.length → ((l.take j).map f).sum ≤ (l.map f).sum
  | _, 0, _ => by simp
  | [], j + 1, h => by simp at h
  | a :: l, j + 1, h => by
    have := sum_take f l j (by simpa using h)
    simp only [List.take_succ_cons, List.map_cons, List.sum_cons]
    omega
theorem flatten_bnd {s : Sch} : ∀ (l : List (Ty s)), (∀ y ∈ l, Cod.okay s y = true) → ((l.map (enc s)).flatten).length ≤ (l.map (bnd s)).sum
  | [], _ => by simp
  | y :: l, h => by
    have h1 := enc_len' (h y (List.mem_cons_self ..))
    have h2 := flatten_bnd l (fun z hz => h z (List.mem_cons_of_mem _ hz))
    simp only [List.map_cons, List.flatten_cons, List.length_append, List.sum_cons]
    omega
theorem encJ_bnd {s : Sch} {x : List (Ty s)} (h : Cod.okay (.list s) x = true) {j : Nat} (hj : j < x.length) {n : Nat} (hl : n + bnd (.list s) x ≤ 70368744177664) : n + (encJ s x j).length + bnd s x[j] ≤ 70368744177664 := by
  obtain ⟨h1, h2⟩ := okay_list h
  have h3 := encN_len (inR_small (n := x.length) (by omega))
  have h4 := flatten_bnd (x.take j) (fun y hy => h2 y (List.mem_of_mem_take hy))
  have h5 := sum_take (bnd s) x (j + 1) (by omega)
  rw [List.take_succ_eq_append_getElem hj, List.map_append, List.sum_append] at h5
  simp only [List.map_cons, List.map_nil, List.sum_cons, List.sum_nil] at h5
  simp only [bnd] at hl
  simp only [encJ, List.length_append]
  omega

theorem WoH.slice {k e base : Nat} {s : Sch} {F : Nat → Prop} {w : World} {bf b o : Nat} {v : Value} {B : List UInt8} {x : List (Ty s)} (h : WoH k e base (.list s) F w bf b o v B x) : ∃ A c, w.cell? ⟨b, o, none⟩ = some (.slice A x.length c) := by
  obtain ⟨vs, hA, A, n, c, rfl, rfl, _⟩ := h.lies
  exact ⟨A, c, hA.head⟩

theorem WoH.itemAt {k e base : Nat} {s : Sch} {F : Nat → Prop} {w wr : World} {bf b o : Nat} {v v' : Value} {B : List UInt8} {x : List (Ty s)} (h : WoH k e base (.list s) F w bf b o v B x) {A : Option Addr} {c : Nat} (hc : w.cell? ⟨b, o, none⟩ = some (.slice A x.length c)) {j : Nat} (hj : j < x.length)
    (p : Wr k e base w wr bf v B (encJ s x j) v') : ∃ b' o' ws, A = some ⟨b', o', none⟩ ∧ ws.length = szc s ∧ At wr b' (o' + j * szc s) ws ∧ (∀ u ∈ ws, One u) ∧ Lay s F wr ws x[j] ∧
      ∀ T, WoH k e base s F (wr.alloc (.cells ws.toArray T)) bf wr.heap.size 0 v' (B ++ encJ s x j) x[j] := by
  obtain ⟨vs, hA, hL⟩ := h.lies
  obtain ⟨b', o', c', ws, rfl, hF, hlt, hws, hAt, hLi⟩ := Lay.item hL j hj
  have e1 := hA.head
  rw [hc] at e1
  injection e1 with e1
  injection e1 with e1 _ _
  have hk := p.keeps (h.sep b' hF)
  have hLw : Lay s F wr ws x[j] := Lay.keep s hLi (fun _ h => h) (fun q hq _ => (p.keeps (h.sep q hq)).1)
  refine ⟨b', o', ws, e1, hws, fun i u hu => (World.cell?_of_block hk.1).trans (hAt i u hu), Lay.one s hLi, hLw, fun T => ?_⟩
  refine WoH.new p.form ws.toArray T hLw (fun q hq => (p.keeps (h.sep q hq)).2) ((okay_list h.okay).2 _ (List.getElem_mem hj)) ?_
  have := encJ_bnd h.okay hj h.len
  simp only [List.length_append]
  omega

/-- A struct goes whole into the block that was made last. -/
theorem wpList_store_new {P : Program} {ops : Array Oper} {rest : List Oper} {op : Oper} {a : Act} {w : World} {Q : Exit → Act → World → Prop} (hgd : op.guard = none) (ty : TypeId) (x y : Operand) (ho : op.op = .store ty x y) {c c' : Array Value}
    (hx : a.eval x = .pointer (some ⟨w.heap.size, 0, none⟩)) (hy : a.eval y = .agg c') (hi : (P.info? ty).map (·.size) = some c'.size) (hc : c.size = c'.size) (h1 : c'.all (·.oneCell') = true)
    (h : wpList P ops Q rest (a.put op.dst undef) (w.alloc (.cells c' ty))) : wpList P ops Q (op :: rest) a (w.alloc (.cells c ty)) :=
  wpList_plain hgd fun _ hK => by
    unfold Oper.wp execOp
    simp only [ho, hx, hy, Instr.storeAt, Instr.sureAddr, Sem.run_bind, Sem.run_pure, Result.andThen_ok, run_storeVar_new w ty c c' hi hc h1]
    exact hK _ _ h
end Cod

/- Writing a whole record: plain laws, no program in sight. -/
namespace Cod
open Go Go.RowKit

/-- How long a record may be at most that may be written. -/
def mx : Sch → Nat
  | .num => 6
  | .flag => 6
  | .raw => 65542
  | .list s => 6 + 64 * mx s
  | .unit => 0
  | .pair a b => mx a + mx b
theorem sum_mx {s : Sch} (h : ∀ y : Ty s, Cod.okay s y = true → bnd s y ≤ mx s) : ∀ (l : List (Ty s)), (∀ y ∈ l, Cod.okay s y = true) → (l.map (bnd s)).sum ≤ l.length * mx s
  | [], _ => by simp
  | y :: l, hl => by
    have h1 := h y (hl y (List.mem_cons_self ..))
    have h2 := sum_mx h l (fun z hz => hl z (List.mem_cons_of_mem _ hz))
    simp only [List.map_cons, List.sum_cons, List.length_cons, Nat.add_mul]
    omega
theorem bnd_mx : ∀ (s : Sch) (x : Ty s), Cod.okay s x = true → bnd s x ≤ mx s
  | .num, _, _ => Nat.le_refl _
  | .flag, _, _ => Nat.le_refl _
  | .raw, x, h => by simp only [Cod.okay, decide_eq_true_eq] at h; simp only [bnd, mx]; omega
  | .list s, x, h => by
    obtain ⟨h1, h2⟩ := okay_list h
    have h3 := sum_mx (fun y hy => bnd_mx s y hy) x h2
    have h4 : x.length * mx s ≤ 64 * mx s := Nat.mul_le_mul_right _ h1
    simp only [bnd, mx]
    omega
  | .unit, _, _ => Nat.le_refl _
  | .pair a b, x, h => by
    have h1 := bnd_mx a x.1 (okay_pair h).1
    have h2 := bnd_mx b x.2 (okay_pair h).2
    simp only [bnd, mx]
    omega

/-- What writing a record that may be written comes to. -/
def PutPost (l : List UInt8) (w : World) (e : Ending) (w' : World) : Prop :=
  ∃ A n c, e = .returned (.tuple #[.slice A n c, .int .i64 0]) ∧ n ≤ c ∧ Upd (fun _ _ => False) w w' ∧ Bts (fun k => w.heap.size ≤ k) w' A n l

theorem OutK.start (k e base : Nat) {w : World} {cs : Array Value} {T : TypeId} (hc : cs.toList = .slice none 0 0 :: List.replicate k (.bool false)) (hb : base = w.heap.size + 1) : OutK k e base (w.alloc (.cells cs T)) w.heap.size (.slice none 0 0) [] := by
  subst hb
  refine ⟨Free.new _ _ _ _, ?_, ?_, by omega, by simp⟩
  · have := At.new w cs T
    rwa [hc] at this
  · simpa using World.ownsRow_nil (w.alloc (.cells cs T)) (w.heap.size + 1) e 1

theorem Upw.toUpd {w w1 w' : World} {T : Nat → Nat → Prop} (h0 : Upd (fun _ _ => False) w w1) (h : Upw T w1 w') (hT : ∀ b o, T b o → w.heap.size ≤ b) : Upd (fun _ _ => False) w w' where
  os := h.os.trans h0.os
  tape := h.tape.trans h0.tape
  output := h.output.trans h0.output
  size := Nat.le_trans h0.size h.size
  cell := fun b o hb _ => (h.cell b o (Nat.lt_of_lt_of_le hb h0.size) (fun e => by have := hT _ _ e; omega)).trans (h0.cell b o hb (fun h => h))
  frozen := fun b o hb => (h.frozen b o (Nat.lt_of_lt_of_le hb h0.size) (fun e => by have := hT _ _ e; omega)).trans (h0.frozen b o hb)
  block := fun b hb _ => (h.block b (Nat.lt_of_lt_of_le hb h0.size) (fun o e => by have := hT _ _ e; omega)).trans (h0.block b hb (fun _ h => h))

/-- The codec's own writing, as it begins: the record lies in a block, the form in the next. -/
theorem WoH.start {s : Sch} {F : Nat → Prop} {w : World} {vs : List Value} {x : Ty s} (hL : Lay s F w vs x) (hF : ∀ k, F k → k < w.heap.size) (ho : Cod.okay s x = true) (hm : mx s ≤ 70368744177664) (T T' : TypeId) :
    WoH 2 5 (w.heap.size + 2) s F ((w.alloc (.cells vs.toArray T)).alloc (.cells #[.slice none 0 0, .bool false, .bool false] T')) (w.heap.size + 1) w.heap.size 0 (.slice none 0 0) [] x := by
  have e1 : w.heap.size + 1 = (w.alloc (.cells vs.toArray T)).heap.size := by simp
  have u : Upd (fun _ _ => False) (w.alloc (.cells vs.toArray T)) ((w.alloc (.cells vs.toArray T)).alloc (.cells #[.slice none 0 0, .bool false, .bool false] T')) := (Upd.refl _ _).alloc _
  have u0 : Upd (fun _ _ => False) w ((w.alloc (.cells vs.toArray T)).alloc (.cells #[.slice none 0 0, .bool false, .bool false] T')) := ((Upd.refl _ _).alloc _).alloc _
  refine ⟨?_, ⟨vs, u.at (At.new w vs.toArray T) (fun _ _ h => h), Lay.keep s hL (fun _ h => h) (fun q _ hq => u0.block q hq (fun _ h => h))⟩, u.free (by simp) (Free.new w _ _ _), fun q hq => ⟨?_, ?_, by simp [Value.ownBlock]⟩, by omega, by simp [Value.ownBlock], by simp; omega, ho, ?_⟩
  · rw [e1]; exact OutK.start 2 5 _ rfl (by simp)
  · have := hF q hq; simp; omega
  · have := hF q hq; omega
  · have := bnd_mx s x ho
    simp
    omega

theorem Wr.put {s : Sch} {w w' : World} {vs : List Value} {x : Ty s} {T T' : TypeId} {cs : Array Value} {v' : Value} (p : Wr 2 5 (w.heap.size + 2) ((w.alloc (.cells vs.toArray T)).alloc (.cells cs T')) w' (w.heap.size + 1) (.slice none 0 0) [] (enc s x) v') :
    ∃ A n c, v' = .slice A n c ∧ PutPost (enc s x) w (.returned (.tuple #[.slice A n c, .int .i64 0])) w' := by
  have hf := p.form.row
  simp only [List.nil_append] at hf
  obtain ⟨A, c, rfl, hn, hb⟩ := Bts.owned (F := fun k => w.heap.size ≤ k) (n := (enc s x).length) hf (fun q hq => by have := (hf.lt q hq).1; omega)
  refine ⟨A, _, c, rfl, A, _, c, rfl, hn, Upw.toUpd (((Upd.refl _ w).alloc (.cells vs.toArray T)).alloc (.cells cs T')) p.upd (fun b o e => ?_), hb⟩
  rcases e with e | e
  · omega
  · simp [Value.ownBlock] at e
theorem PutPost.up {l : List UInt8} {w w' : World} {ob : Obj} {e : Ending} (h : PutPost l (w.alloc ob) e w') : PutPost l w e w' := by
  obtain ⟨A, n, c, rfl, hn, hu, hb⟩ := h
  exact ⟨A, n, c, rfl, hn, ((Upd.refl _ w).alloc ob).trans hu, hb.keep (fun q hq => by simp at hq; omega) (fun _ _ _ => rfl)⟩
end Cod

/- The document's reader: plain laws, no program in sight. -/
namespace Cod
open Go Go.RowKit

/-- A number that may be, or 0, and bad. -/
def InIn (w : World) (bx : Nat) (n : Int) (e : Ending) (w' : World) : Prop :=
  ∃ v, e = .returned (.int .i64 v) ∧ ((inR n = true ∧ v = n ∧ w' = w) ∨ (inR n = false ∧ v = 0 ∧ w' = w.setCell ⟨bx, 1, none⟩ (.bool true)))

/-- What reading a number comes to, of the document's. -/
structure InN (F : Nat → Prop) (w w' : World) (bx : Nat) (B : List UInt8) (bad : Bool) (v : Int) (B' : List UInt8) (bad' : Bool) : Prop where
  upd : Upd (fun b _ => b = bx) w w'
  form : InR F w' bx B' bad'
  stays : bad = true → bad' = true
  ok : inR v = true
  reads : Reads1 B bad v B' bad'
def InNPost (F : Nat → Prop) (w : World) (bx : Nat) (B : List UInt8) (bad : Bool) (e : Ending) (w' : World) : Prop :=
  ∃ v B' bad', e = .returned (.int .i64 v) ∧ InN F w w' bx B bad v B' bad'

theorem InR.cells {F : Nat → Prop} {w : World} {bf : Nat} {B : List UInt8} {bad : Bool} (h : InR F w bf B bad) :
    ∃ A n c, w.cell? ⟨bf, 0, none⟩ = some (.slice A n c) ∧ w.cell? ⟨bf, 1, none⟩ = some (.bool bad) ∧
      w.frozen? ⟨bf, 0, none⟩ = false ∧ w.frozen? ⟨bf, 1, none⟩ = false ∧ n ≤ c ∧ Bts F w A n B := by
  obtain ⟨hf, A, n, c, hA, hn, hb⟩ := h
  exact ⟨A, n, c, by simpa using hA 0 _ rfl, by simpa using hA 1 _ rfl, by simpa using hf 0 (by omega), by simpa using hf 1 (by omega), hn, hb⟩
theorem InR.lt {F : Nat → Prop} {w : World} {bf : Nat} {B : List UInt8} {bad : Bool} (h : InR F w bf B bad) : bf < w.heap.size := by
  obtain ⟨_, A, n, c, hA, _⟩ := h
  exact hA.lt (by simp)
theorem InR.put {F : Nat → Prop} {w : World} {bf : Nat} {B B' : List UInt8} {bad : Bool} (h : InR F w bf B bad) (hF : ¬ F bf) {A : Option Addr} {n c : Nat} (hn : n ≤ c) (hb : Bts F w A n B') :
    InR F (w.setCell ⟨bf, 0, none⟩ (.slice A n c)) bf B' bad := by
  obtain ⟨hf, A0, n0, c0, hA, _, _⟩ := h
  refine ⟨hf.setCell _ _, A, n, c, setCell_at hA 0 (by simp) _, hn, hb.keep (fun _ h => h) (fun b hb' _ => Below.heap_setCell _ _ _ _ (fun e => hF ?_))⟩
  have e : b = bf := e
  exact e ▸ hb'
theorem InR.bad {F : Nat → Prop} {w : World} {bf : Nat} {B : List UInt8} {bad : Bool} (h : InR F w bf B bad) (hF : ¬ F bf) (t : Bool) :
    InR F (w.setCell ⟨bf, 1, none⟩ (.bool t)) bf B t := by
  obtain ⟨hf, A, n, c, hA, hn, hb⟩ := h
  refine ⟨hf.setCell _ _, A, n, c, ?_, hn, hb.keep (fun _ h => h) (fun b hb' _ => Below.heap_setCell _ _ _ _ (fun e => hF ?_))⟩
  · have := setCell_at hA 1 (by simp) (.bool t)
    simpa using this
  · have e : b = bf := e
    exact e ▸ hb'

section
variable {F : Nat → Prop} {w : World} {bf bd od c : Nat} {B : List UInt8} {bad : Bool} {k acc x U : Nat}
/-- The number has come to its end: its world is told, its value is handed on. -/
theorem in_last (hf : InR F w bf B bad) (hF : ¬ F bf) (hb : Bts F w (some ⟨bd, od, none⟩) B.length B) (hc : B.length ≤ c) (h : Last B k acc x U)
    {A : Option Addr} {n m : Nat} (hA : A = if c = k + 1 then some ⟨bd, od, none⟩ else some ⟨bd, od + (k + 1), none⟩) (hn : n = B.length - (k + 1)) (hm : m = c - (k + 1)) {t : Bool} (ht : t = true ↔ bad = true ∨ (0 < k ∧ x = 0))
    {e : Ending} {w' : World} (hi : InIn ((w.setCell ⟨bf, 0, none⟩ (.slice A n m)).setCell ⟨bf, 1, none⟩ (.bool t)) bf (unz U) e w') : InNPost F w bf B bad e w' := by
  subst hn; subst hm; subst hA
  have hk := h.kl
  have f1 := (hf.put hF (show B.length - (k + 1) ≤ c - (k + 1) by omega) (hb.drop k hk hc)).bad hF t
  have u1 : Upd (fun b _ => b = bf) w ((w.setCell ⟨bf, 0, none⟩ (.slice (if c = k + 1 then some ⟨bd, od, none⟩ else some ⟨bd, od + (k + 1), none⟩) (B.length - (k + 1)) (c - (k + 1)))).setCell ⟨bf, 1, none⟩ (.bool t)) :=
    ((Upd.refl (fun b _ => b = bf) w).setCell _ _ (fun _ => rfl) _).setCell _ _ (fun _ => rfl) _
  obtain ⟨v, rfl, ⟨h1, rfl, rfl⟩ | ⟨h1, rfl, rfl⟩⟩ := hi
  · refine ⟨_, B.drop (k + 1), t, rfl, u1, f1, fun hb => ht.2 (.inl hb), h1, fun hb0 => ?_⟩
    by_cases h0 : 0 < k ∧ x = 0
    · rw [h.none (.inl h0)]; exact ht.2 (.inr h0)
    · rw [h.good h0 h1]
      refine ⟨?_, rfl, rfl⟩
      cases t with
      | false => rfl
      | true => have := ht.1 rfl; rw [hb0] at this; simp at this; exact absurd this h0
  · refine ⟨0, B.drop (k + 1), true, rfl, u1.setCell _ _ (fun _ => rfl) _, f1.bad hF true, fun _ => rfl, rfl, fun hb0 => ?_⟩
    rw [h.none (.inr h1)]
theorem in_short (hf : InR F w bf B bad) (hF : ¬ F bf) (h : Acc B k acc) (hk : k = 6 ∨ k ≤ 6 ∧ k = B.length) :
    InNPost F w bf B bad (.returned (.int .i64 0)) ((w.setCell ⟨bf, 1, none⟩ (.bool true)).setCell ⟨bf, 0, none⟩ (.slice none 0 0)) := by
  have : num B = none := by unfold num; rw [h.short hk]
  exact ⟨_, [], true, rfl, ((Upd.refl (fun b _ => b = bf) w).setCell _ _ (fun _ => rfl) _).setCell _ _ (fun _ => rfl) _, (hf.bad hF true).put hF (Nat.le_refl _) (Bts.nil _ _ _), fun _ => rfl, rfl, fun _ => by rw [this]⟩
end
theorem inR_zero : inR 0 = true := rfl
theorem add_step (acc x k : Nat) (hk : k < 6) (ha : acc < 128 ^ k) (_hx : x < 256) : wrap64 ((acc : Int) + wrap64 ((x : Int) % 128 * 2 ^ (7 * k))) = ((acc + 128 ^ k * (x % 128) : Nat) : Int) := by
  have hp : (128 : Nat) ^ k = 2 ^ (7 * k) := by rw [Nat.pow_mul]
  have h3 : (128 : Nat) ^ k ≤ 128 ^ 5 := Nat.pow_le_pow_right (by omega) (by omega)
  have h2 : 128 ^ k * (x % 128) ≤ 128 ^ k * 127 := Nat.mul_le_mul_left _ (by omega)
  have e : (x : Int) % 128 * 2 ^ (7 * k) = ((128 ^ k * (x % 128) : Nat) : Int) := by
    rw [hp]
    push_cast
    rw [Int.mul_comm]
  have e1 : wrap64 (((128 ^ k * (x % 128) : Nat) : Int)) = ((128 ^ k * (x % 128) : Nat) : Int) := IntWalk.wrap64_in _ (by omega)
  rw [e, e1]
  have e2 : (acc : Int) + ((128 ^ k * (x % 128) : Nat) : Int) = ((acc + 128 ^ k * (x % 128) : Nat) : Int) := by omega
  rw [e2]
  exact IntWalk.wrap64_in _ (by omega)

theorem odd_step {U : Nat} (h : U % 2 = 1) (hU : U < 4398046511104) : wrap64 (-((U : Int) + 1).tdiv 2) = unz U := by
  have e : ((U : Int) + 1).tdiv 2 = ((U : Int) + 1) / 2 := Int.tdiv_eq_ediv_of_nonneg (by omega)
  rw [e, unz_odd h, IntWalk.wrap64_in _ (by omega)]
  omega
theorem even_step {U : Nat} (h : ¬ U % 2 = 1) : (U : Int) / 2 = unz U := (unz_even h).symm
theorem cell_after {w : World} {bf : Nat} {u a t : Value} (h : w.cell? ⟨bf, 1, none⟩ = some u) : ((w.setCell ⟨bf, 0, none⟩ a).setCell ⟨bf, 1, none⟩ t).cell? ⟨bf, 1, none⟩ = some t :=
  World.cell?_setCell_same _ _ _ ((World.cell?_setCell_other _ _ _ _ (by simp)).trans h)
theorem frozen_after {w : World} {bf : Nat} {a t : Value} (h : w.frozen? ⟨bf, 1, none⟩ = false) : ((w.setCell ⟨bf, 0, none⟩ a).setCell ⟨bf, 1, none⟩ t).frozen? ⟨bf, 1, none⟩ = false :=
  (World.frozen?_setCell _ _ _ _).trans ((World.frozen?_setCell _ _ _ _).trans h)
end Cod

/- The document's reader of records: a struct that is made field by field, lists that are read; plain laws, no program in sight. -/
namespace Cod
open Go Go.RowKit

theorem InN.p {F : Nat → Prop} {w w' : World} {bx : Nat} {B B' : List UInt8} {bad bad' : Bool} {v : Int} (h : InN F w w' bx B bad v B' bad') : InP .num F w w' bx B bad B' bad' [.int .i64 v] v where
  upd := h.upd
  form := h.form
  lay := by simp only [Lay]
  okay := h.ok
  stays := h.stays
  reads := fun hb => by
    have := h.reads hb
    simp only [parse]
    generalize num B = q at this ⊢
    cases q with
    | none => exact this
    | some p => exact this

/-- What reading a flag comes to. -/
def FlagPost (F : Nat → Prop) (w : World) (bx : Nat) (B : List UInt8) (bad : Bool) (e : Ending) (w' : World) : Prop :=
  ∃ (u : Bool) (B' : List UInt8) (bad' : Bool), e = .returned (.bool u) ∧ InP .flag F w w' bx B bad B' bad' [.bool u] u
theorem InN.flag {F : Nat → Prop} {w w1 : World} {bx : Nat} {B B' : List UInt8} {bad bad' : Bool} {v : Int} (hF : ¬ F bx) (h : InN F w w1 bx B bad v B' bad') {t u : Bool} (ht : t = true ↔ bad' = true ∨ (v ≠ 0 ∧ v ≠ 1)) (hu : u = true ↔ v = 1) :
    FlagPost F w bx B bad (.returned (.bool u)) (w1.setCell ⟨bx, 1, none⟩ (.bool t)) := by
  refine ⟨u, B', t, rfl, h.upd.setCell _ _ (fun _ => rfl) _, h.form.bad hF t, by simp only [Lay], rfl, fun hb => ht.2 (.inl (h.stays hb)), fun hb => ?_⟩
  have := h.reads hb
  simp only [parse]
  generalize num B = q at this ⊢
  cases q with
  | none => exact ht.2 (.inl this)
  | some p =>
    obtain ⟨h1, rfl, rfl⟩ := this
    subst h1
    simp only
    by_cases e0 : p.1 = 0
    · rw [if_pos e0]
      refine ⟨?_, rfl, ?_⟩
      · cases t with
        | false => rfl
        | true => have := ht.1 rfl; simp at this; omega
      · cases u with
        | false => rfl
        | true => have := hu.1 rfl; omega
    · rw [if_neg e0]
      by_cases e1 : p.1 = 1
      · rw [if_pos e1]
        refine ⟨?_, rfl, hu.2 e1⟩
        cases t with
        | false => rfl
        | true => have := ht.1 rfl; simp at this; omega
      · rw [if_neg e1]
        exact ht.2 (.inr ⟨e0, e1⟩)

/-- How many: what is read. -/
structure InM (F : Nat → Prop) (w w' : World) (bf : Nat) (B : List UInt8) (bad : Bool) (n : Nat) (B' : List UInt8) (bad' : Bool) : Prop where
  upd : Upd (fun b _ => b = bf) w w'
  form : InR F w' bf B' bad'
  stays : bad = true → bad' = true
  le : n ≤ 64
  reads : bad = false → match many 64 B with
    | some (k, r) => bad' = false ∧ B' = r ∧ n = k
    | none => bad' = true
def CountPost (F : Nat → Prop) (w : World) (bf : Nat) (B : List UInt8) (bad : Bool) (e : Ending) (w' : World) : Prop :=
  ∃ (n : Nat) (B' : List UInt8) (bad' : Bool), e = .returned (.int .i64 (n : Int)) ∧ InM F w w' bf B bad n B' bad'
theorem InN.count {F : Nat → Prop} {w w1 : World} {bx : Nat} {B B' : List UInt8} {bad bad' : Bool} {v : Int} (h : InN F w w1 bx B bad v B' bad') (h0 : 0 ≤ v) (h1 : v ≤ 64) : CountPost F w bx B bad (.returned (.int .i64 v)) w1 := by
  refine ⟨v.toNat, B', bad', by rw [show ((v.toNat : Nat) : Int) = v by omega], h.upd, h.form, h.stays, by omega, fun hb => ?_⟩
  have := h.reads hb
  unfold many
  generalize num B = q at this ⊢
  cases q with
  | none => exact this
  | some p =>
    obtain ⟨h2, h3, rfl⟩ := this
    simp only
    rw [if_pos ⟨h0, h1⟩]
    exact ⟨h2, h3, rfl⟩
theorem InN.uncount {F : Nat → Prop} {w w1 : World} {bx : Nat} {B B' : List UInt8} {bad bad' : Bool} {v : Int} (hF : ¬ F bx) (h : InN F w w1 bx B bad v B' bad') (h0 : v < 0 ∨ 64 < v) : CountPost F w bx B bad (.returned (.int .i64 0)) (w1.setCell ⟨bx, 1, none⟩ (.bool true)) := by
  refine ⟨0, B', true, rfl, h.upd.setCell _ _ (fun _ => rfl) _, h.form.bad hF true, fun _ => rfl, by omega, fun hb => ?_⟩
  have := h.reads hb
  unfold many
  generalize num B = q at this ⊢
  cases q with
  | none => rfl
  | some p =>
    obtain ⟨h2, h3, rfl⟩ := this
    simp only
    rw [if_neg (by omega)]
    trivial

/-! ### A struct that is made -/
structure InPX (X : Nat → Prop) (s : Sch) (F : Nat → Prop) (w w' : World) (bx : Nat) (B : List UInt8) (bad : Bool) (B' : List UInt8) (bad' : Bool) (vs : List Value) (x : Ty s) : Prop where
  upd : Upd (fun b _ => b = bx ∨ X b) w w'
  hi : ∀ k, X k → k < w'.heap.size
  form : InR F w' bx B' bad'
  lay : Lay s (fun k => w.heap.size ≤ k ∧ ¬ X k) w' vs x
  okay : Cod.okay s x = true
  stays : bad = true → bad' = true
  reads : bad = false → match parse s B with
    | some (y, r) => bad' = false ∧ B' = r ∧ x = y
    | none => bad' = true

/-- What must hold of the reader and of what is made, from begin to end. -/
structure InX (X : Nat → Prop) (F : Nat → Prop) (w : World) (bx : Nat) : Prop where
  nf : ¬ F bx
  nx : ¬ X bx
  lt : bx < w.heap.size
  old : ∀ k, F k → k < w.heap.size
  new : ∀ k, X k → w.heap.size ≤ k

variable {X : Nat → Prop} {s t : Sch} {F : Nat → Prop} {w w1 w2 wA : World} {bx : Nat} {B B0 B1 B2 : List UInt8} {bad bad0 bad1 bad2 : Bool}

theorem InPX.start (g : InX X F w bx) (h : InR F w bx B bad) (u : Upd (fun _ _ => False) w wA) (hi : ∀ k, X k → k < wA.heap.size) : InPX X .unit F w wA bx B bad B bad [] () where
  upd := u.mono (fun _ _ _ h => h.elim)
  hi := hi
  form := by
    obtain ⟨hf, A, n, c, hA, hn, hb⟩ := h
    exact ⟨u.free g.lt hf, A, n, c, u.at hA (fun _ _ h => h), hn, hb.keep (fun _ h => h) (fun q _ hlt => u.block q hlt (fun _ h => h))⟩
  lay := rfl
  okay := rfl
  stays := fun h => h
  reads := fun h => ⟨h, rfl, rfl⟩
theorem InPX.h {vs : List Value} {x : Ty s} (g : InX X F w bx) (q : InPX X s F w w1 bx B bad B1 bad1 vs x) : InH F w1 bx B1 bad1 := ⟨q.form, g.nf, Nat.lt_of_lt_of_le g.lt q.upd.size⟩
theorem InPX.first {us : List Value} {x : Ty s} (q : InPX X .unit F w w1 bx B bad B bad [] ()) (p : InP s F w1 w2 bx B bad B2 bad2 us x) : InPX X s F w w2 bx B bad B2 bad2 us x where
  upd := q.upd.then p.upd (fun _ _ _ e => .inl e)
  hi := fun k hk => Nat.lt_of_lt_of_le (q.hi k hk) p.upd.size
  form := p.form
  lay := Lay.keep s p.lay (fun k hk => ⟨Nat.le_trans q.upd.size hk, fun hx => by have := q.hi k hx; omega⟩) (fun _ _ _ => rfl)
  okay := p.okay
  stays := p.stays
  reads := p.reads
theorem InPX.ofInP {us : List Value} {x : Ty s} (hi : ∀ k, X k → k < w1.heap.size) (p : InP s F w1 w2 bx B bad B2 bad2 us x) : InPX X s F w1 w2 bx B bad B2 bad2 us x where
  upd := p.upd.mono (fun _ _ _ e => .inl e)
  hi := fun k hk => Nat.lt_of_lt_of_le (hi k hk) p.upd.size
  form := p.form
  lay := Lay.keep s p.lay (fun k hk => ⟨hk, fun hx => by have := hi k hx; omega⟩) (fun _ _ _ => rfl)
  okay := p.okay
  stays := p.stays
  reads := p.reads
theorem InPX.unitAt (hi : ∀ k, X k → k < w1.heap.size) (h : InR F w1 bx B bad) : InPX X .unit F w1 w1 bx B bad B bad [] () := ⟨Upd.refl _ _, hi, h, rfl, rfl, fun h => h, fun h => ⟨h, rfl, rfl⟩⟩
theorem InPX.both' {us vs : List Value} {x : Ty s} {y : Ty t} (lt : bx < w.heap.size) (q : InPX X s F w w1 bx B bad B1 bad1 us x) (p : InPX X t F w1 w2 bx B1 bad1 B2 bad2 vs y) : InPX X (.pair s t) F w w2 bx B bad B2 bad2 (us ++ vs) (x, y) where
  upd := q.upd.trans p.upd
  hi := p.hi
  form := p.form
  lay := ⟨us, vs, rfl, Lay.keep s q.lay (fun _ h => h) (fun k hk hlt => p.upd.block k hlt (fun _ e => by
    rcases e with e | e
    · omega
    · exact hk.2 e)), Lay.keep t p.lay (fun k hk => ⟨Nat.le_trans q.upd.size hk.1, hk.2⟩) (fun _ _ _ => rfl)⟩
  okay := by simp [Cod.okay, q.okay, p.okay]
  stays := fun hb => p.stays (q.stays hb)
  reads := fun hb => by
    have h1 := q.reads hb
    simp only [parse]
    generalize parse s B = z at h1 ⊢
    cases z with
    | none => exact p.stays h1
    | some z =>
      obtain ⟨rfl, rfl, rfl⟩ := h1
      have h2 := p.reads rfl
      simp only
      generalize parse t z.2 = z2 at h2 ⊢
      cases z2 with
      | none => exact h2
      | some z2 => exact ⟨h2.1, h2.2.1, by rw [h2.2.2]⟩
theorem InPX.both {us vs : List Value} {x : Ty s} {y : Ty t} (lt : bx < w.heap.size) (q : InPX X s F w w1 bx B bad B1 bad1 us x) (p : InP t F w1 w2 bx B1 bad1 B2 bad2 vs y) : InPX X (.pair s t) F w w2 bx B bad B2 bad2 (us ++ vs) (x, y) :=
  q.both' lt (InPX.ofInP q.hi p)
theorem InR.setCells {bx b o : Nat} {us : List Value} (h : InR F w bx B bad) (h1 : b ≠ bx) (h2 : ¬ F b) : InR F (w.setCells b o us) bx B bad := by
  obtain ⟨hf, A, n, c, hA, hn, hb⟩ := h
  have hk : ∀ q, q ≠ b → (w.setCells b o us).heap[q]? = w.heap[q]? := fun q hq => setCells_block b q hq _ _ _
  exact ⟨fun i hi => (World.frozen?_of_block (hk bx (Ne.symm h1))).trans (hf i hi), A, n, c, fun i v hv => (World.cell?_of_block (hk bx (Ne.symm h1))).trans (hA i v hv), hn, hb.keep (fun _ h => h) (fun q hq _ => hk q (fun e => h2 (e ▸ hq)))⟩
theorem InPX.sets {us vs : List Value} {x : Ty s} {b o : Nat} (g : InX X F w bx) (q : InPX X s F w w1 bx B bad B1 bad1 us x) (hb : X b) : InPX X s F w (w1.setCells b o vs) bx B bad B1 bad1 us x where
  upd := q.upd.setCells b vs o (fun _ _ => .inr hb)
  hi := fun k hk => by rw [setCells_size]; exact q.hi k hk
  form := q.form.setCells (fun e => g.nx (e ▸ hb)) (fun e => by have := g.old b e; have := g.new b hb; omega)
  lay := Lay.keep s q.lay (fun _ h => h) (fun k hk _ => setCells_block b k (fun e => hk.2 (e ▸ hb)) _ _ _)
  okay := q.okay
  stays := q.stays
  reads := q.reads
theorem InPX.set {us : List Value} {x : Ty s} {b o : Nat} (g : InX X F w bx) (q : InPX X s F w w1 bx B bad B1 bad1 us x) (hb : X b) (v : Value) : InPX X s F w (w1.setCell ⟨b, o, none⟩ v) bx B bad B1 bad1 us x := q.sets (vs := [v]) (o := o) g hb
theorem InPX.done {us : List Value} {x : Ty s} (g : InX X F w bx) (q : InPX X s F w w1 bx B bad B1 bad1 us x) : InP s F w w1 bx B bad B1 bad1 us x where
  upd := ⟨q.upd.os, q.upd.tape, q.upd.output, q.upd.size, fun b o hb hn => q.upd.cell b o hb (fun e => e.elim hn (fun e => by have := g.new b e; omega)), q.upd.frozen,
    fun b hb hn => q.upd.block b hb (fun o e => e.elim (hn o) (fun e => by have := g.new b e; omega))⟩
  form := q.form
  lay := Lay.keep s q.lay (fun _ h => h.1) (fun _ _ _ => rfl)
  okay := q.okay
  stays := q.stays
  reads := q.reads
/-- What stands in the struct that is made. -/
theorem InP.atX {us cs : List Value} {x : Ty s} {b o : Nat} (p : InP s F w1 w2 bx B bad B2 bad2 us x) (h : At w1 b o cs) (hb : b ≠ bx) : At w2 b o cs := p.upd.at h (fun _ _ => hb)

/-! ### A list that is read -/
structure LsI (X : Nat → Prop) (s : Sch) (E : Nat) (F : Nat → Prop) (w wr : World) (bx : Nat) (B0 : List UInt8) (bad0 : Bool) (B : List UInt8) (bad : Bool) (n j : Nat) (v : Value) (cs : List Value) (xs : List (Ty s)) : Prop where
  upd : Upd (fun b _ => b = bx ∨ X b) w wr
  hi : ∀ k, X k → k < w.heap.size
  lt : bx < w.heap.size
  nx : ¬ X bx
  nf : ¬ F bx
  fx : ∀ k, F k → ¬ X k
  old : ∀ k, F k → k < w.heap.size
  form : InR F wr bx B bad
  stays : bad0 = true → bad = true
  own : wr.ownsRow w.heap.size E (szc s) v xs.length cs
  len : xs.length = j
  elems : Elems s (fun k => w.heap.size ≤ k ∧ k < wr.heap.size ∧ v.ownBlock ≠ some k) wr cs xs
  oks : ∀ y ∈ xs, Cod.okay s y = true
  le : n ≤ 64
  reads : LsReads s B0 bad0 n xs B bad

theorem LsI.start {n E : Nat} (hi : ∀ k, X k → k < w.heap.size) (lt : bx < w.heap.size) (nx : ¬ X bx) (nf : ¬ F bx) (fx : ∀ k, F k → ¬ X k) (old : ∀ k, F k → k < w.heap.size) (m : InM F w w1 bx B bad n B1 bad1) : LsI X s E F w w1 bx B bad B1 bad1 n 0 (.slice none 0 0) [] [] where
  upd := m.upd.mono (fun _ _ _ e => .inl e)
  hi := hi
  lt := lt
  nx := nx
  nf := nf
  fx := fx
  old := old
  form := m.form
  stays := m.stays
  own := World.ownsRow_nil _ _ _ _
  len := rfl
  elems := Elems.nil _ _ _
  oks := fun _ h => by simp at h
  le := m.le
  reads := fun hb => by
    have := m.reads hb
    generalize many 64 B = q at this ⊢
    cases q with
    | none => exact this
    | some p =>
      obtain ⟨h1, h2, h3⟩ := this
      subst h2
      exact ⟨h3.symm, .inl ⟨h1, by rw [h3]; exact Some_.zero _ _ _⟩⟩

variable {wr : World} {E n j : Nat} {v v' : Value} {cs vs : List Value} {xs : List (Ty s)} {x : Ty s}

theorem LsI.h (h : LsI X s E F w wr bx B0 bad0 B bad n j v cs xs) : InH F wr bx B bad := ⟨h.form, h.nf, Nat.lt_of_lt_of_le h.lt h.upd.size⟩

theorem LsI.ownAt (h : LsI X s E F w wr bx B0 bad0 B bad n j v cs xs) (p : InP s F wr w1 bx B bad B1 bad1 vs x) : w1.ownsRow w.heap.size E (szc s) v xs.length cs := by
  refine ⟨h.own.1, ?_⟩
  rcases h.own.2 with hn | ⟨q, cap, cur, rfl, hq, hh, rest⟩
  · exact .inl hn
  · refine .inr ⟨q, cap, cur, rfl, hq, ?_, rest⟩
    have hql : q < wr.heap.size := (Array.getElem?_eq_some_iff.1 hh).1
    rw [p.upd.block q hql (fun _ e => by have := h.lt; omega)]
    exact hh

theorem LsI.step {T : TypeId} (h : LsI X s E F w wr bx B0 bad0 B bad n j v cs xs) (hj : j < n) (k : InP s F wr w1 bx B bad B1 bad1 vs x)
    (hown : w2.ownsRow w.heap.size E (szc s) v' (xs.length + 1) (cs ++ vs)) (hg : (w1.alloc (.cells vs.toArray T)).grownBy w2 v.ownBlock) (hat : v'.ownBlock = v.ownBlock ∨ v'.ownBlock = some (w1.heap.size + 1)) :
    LsI X s E F w w2 bx B0 bad0 B1 bad1 n (j + 1) v' (cs ++ vs) (xs ++ [x]) := by
  have hs1 := h.upd.size
  have hs2 := k.upd.size
  have hs3 := hg.size
  simp only [World.size_alloc] at hs3
  have hb := h.lt
  have hvb : ∀ q, v.ownBlock = some q → w.heap.size ≤ q ∧ q < wr.heap.size := fun q hq => h.own.lt q hq
  have u1 : Upd (fun b _ => b = bx ∨ X b) w w1 := h.upd.then k.upd (fun _ _ _ e => .inl e)
  have hblk : ∀ q, q < w1.heap.size → v.ownBlock ≠ some q → w2.heap[q]? = w1.heap[q]? := fun q hq hne =>
    (hg.block q (by simp; omega) (fun e => hne e.symm)).trans (Below.heap_alloc _ _ _ hq)
  have hnew : ∀ q, q < w1.heap.size → v.ownBlock ≠ some q → v'.ownBlock ≠ some q := fun q hq hne => by
    rcases hat with e | e
    · rw [e]; exact hne
    · rw [e]; intro e'; injection e' with e'; omega
  refine ⟨(u1.alloc (.cells vs.toArray T)).grownNew hg (fun q hq => (hvb q hq).1), h.hi, h.lt, h.nx, h.nf, h.fx, h.old, ?_, fun hb0 => k.stays (h.stays hb0), ?_, by simp [h.len], ?_, ?_, h.le, ?_⟩
  · obtain ⟨hfr, A, n', c, hA, hn, hbt⟩ := k.form
    have hbf : w2.heap[bx]? = w1.heap[bx]? := hblk bx (by omega) (fun e => by have := hvb bx e; omega)
    refine ⟨fun i hi => (World.frozen?_of_block hbf).trans (hfr i hi), A, n', c, fun i u hu => (World.cell?_of_block hbf).trans (hA i u hu), hn, hbt.keep (fun _ h => h) (fun q hq hlt => hblk q hlt (fun e => ?_))⟩
    have := hvb q e
    have := h.old q hq
    omega
  · rw [show (xs ++ [x]).length = xs.length + 1 by simp]
    exact hown
  · refine Elems.snoc (h.elems.keep (fun q hq => ?_) (fun q hq hlt => ?_)) (Lay.keep s (Lay.within s k.lay) (fun q hq => ?_) (fun q hq hlt => ?_))
    · exact ⟨hq.1, by omega, hnew q (by omega) hq.2.2⟩
    · rw [hblk q (by omega) hq.2.2]
      exact k.upd.block q hlt (fun _ e => by omega)
    · exact ⟨by omega, by omega, hnew q hq.2 (fun e => by have := hvb q e; omega)⟩
    · exact hblk q hlt (fun e => by have := hvb q e; omega)
  · intro y hy
    rcases List.mem_append.1 hy with hy | hy
    · exact h.oks y hy
    · simp at hy; subst hy; exact k.okay
  · intro hb0
    have := h.reads hb0
    generalize many 64 B0 = q at this ⊢
    cases q with
    | none => exact k.stays this
    | some p =>
      obtain ⟨h1, h2⟩ := this
      refine ⟨h1, ?_⟩
      rcases h2 with ⟨h2, h3⟩ | ⟨h2, h4⟩
      · have hjn : xs.length < n := by rw [h.len]; exact hj
        have hp := k.reads h2
        cases hq : parse s B with
        | none =>
          rw [hq] at hp
          exact .inr ⟨hp, h3.fails hjn hq⟩
        | some y =>
          rw [hq] at hp
          obtain ⟨hp1, hp2, hp3⟩ := hp
          refine .inl ⟨hp1, ?_⟩
          rw [show (xs ++ [x]).length = xs.length + 1 by simp, hp2, hp3]
          exact h3.more hjn hq
      · exact .inr ⟨k.stays h2, h4⟩

theorem LsI.set {b o : Nat} (h : LsI X s E F w wr bx B0 bad0 B bad n j v cs xs) (hb : X b) (u : Value) : LsI X s E F w (wr.setCell ⟨b, o, none⟩ u) bx B0 bad0 B bad n j v cs xs := by
  have hlt := h.hi b hb
  have hk : ∀ q, q ≠ b → (wr.setCell ⟨b, o, none⟩ u).heap[q]? = wr.heap[q]? := fun q hq => Below.heap_setCell _ _ _ _ hq
  have hsz : (wr.setCell ⟨b, o, none⟩ u).heap.size = wr.heap.size := by simp
  refine ⟨h.upd.setCell b o (fun _ => .inr hb) u, h.hi, h.lt, h.nx, h.nf, h.fx, h.old, h.form.setCells (us := [u]) (b := b) (o := o) (fun e => h.nx (e ▸ hb)) (fun e => h.fx b e hb), h.stays, ownsRow_setCell_below h.own hlt u, h.len,
    h.elems.keep (fun q hq => ⟨hq.1, by rw [hsz]; exact hq.2.1, hq.2.2⟩) (fun q hq _ => hk q (fun e => by have := hq.1; omega)), h.oks, h.le, h.reads⟩

theorem LsI.done (h : LsI X s E F w wr bx B0 bad0 B bad n j v cs xs) (hj : j = n) : InPX X (.list s) F w wr bx B0 bad0 B bad [v] xs where
  upd := h.upd
  hi := fun k hk => Nat.lt_of_lt_of_le (h.hi k hk) h.upd.size
  form := h.form
  lay := Lay.owned h.own (h.elems.keep (fun q hq => ⟨hq.1, fun hx => by have := h.hi q hx; omega⟩) (fun _ _ _ => rfl)) (fun q hq => ⟨(h.own.lt q hq).1, fun hx => by have := h.hi q hx; have := (h.own.lt q hq).1; omega⟩)
  okay := by
    have h1 := h.len
    have h2 := h.le
    simp only [Cod.okay, Bool.and_eq_true, decide_eq_true_eq, List.all_eq_true]
    exact ⟨by omega, h.oks⟩
  stays := h.stays
  reads := fun hb => by
    have := h.reads hb
    simp only [parse]
    generalize many 64 B0 = q at this ⊢
    cases q with
    | none => exact this
    | some p =>
      obtain ⟨h1, h2⟩ := this
      simp only
      rw [h1]
      rcases h2 with ⟨h2, h3⟩ | ⟨h2, h3⟩
      · rw [h.len, hj] at h3
        rw [h3.done]
        exact ⟨h2, rfl, rfl⟩
      · rw [h3]
        exact h2

theorem InP.ofDrew {us : List Value} {y : Ty s} (p : InP s F w.drew w1 bx B bad B1 bad1 us y) : InP s F w w1 bx B bad B1 bad1 us y := ⟨p.upd.ofDrew, p.form, p.lay, p.okay, p.stays, p.reads⟩
theorem InH.drew (h : InH F w bx B bad) : InH F w.drew bx B bad := ⟨h.form, h.nf, h.lt⟩
end Cod

/- Structs that are made of parts of which some are structs themselves; plain laws, no program in sight. -/
namespace Cod
open Go Go.RowKit

/-- A row of cells in which some are set, one behind the other. -/
theorem set_row : ∀ (us acc tail : List Value), us.length ≤ tail.length → (us.zipIdx 0).foldl (fun (cs : Array Value) (c, j) => cs.setIfInBounds (acc.length + j) c) (acc ++ tail).toArray = (acc ++ us ++ tail.drop us.length).toArray := by
  have key : ∀ (us : List Value) (k : Nat) (acc tail : List Value), us.length ≤ tail.length → k ≤ acc.length → (us.zipIdx k).foldl (fun (cs : Array Value) (c, j) => cs.setIfInBounds (acc.length - k + j) c) (acc ++ tail).toArray = (acc ++ us ++ tail.drop us.length).toArray := by
    intro us
    induction us with
    | nil => intro k acc tail _ _; simp
    | cons u us ih =>
      intro k acc tail h hk
      match tail, h with
      | t :: tail, h =>
        simp only [List.zipIdx_cons, List.foldl_cons]
        have e : (acc ++ t :: tail).toArray.setIfInBounds (acc.length - k + k) u = ((acc ++ [u]) ++ tail).toArray := by
          rw [show acc.length - k + k = acc.length by omega]
          simp
        rw [e]
        have := ih (k + 1) (acc ++ [u]) tail (by simpa using h) (by simp; omega)
        have e2 : (acc ++ [u]).length - (k + 1) = acc.length - k := by simp
        rw [e2] at this
        rw [this]
        simp
  intro us acc tail h
  exact key us 0 acc tail h (Nat.zero_le _)

/-- The parts come one behind the other, from off on; n cells are left. -/
def Parts (place : Nat → Option (Nat × Nat)) : Nat → Nat → List (Nat × Value) → List (List Value) → Prop
  | _, _, [], [] => True
  | off, n, (i, v) :: ps, us :: uss => place i = some (off, us.length) ∧ v.cells.toList = us ∧ us.length ≤ n ∧ Parts place (off + us.length) (n - us.length) ps uss
  | _, _, _, _ => False

theorem fill_parts (place : Nat → Option (Nat × Nat)) : ∀ (ps : List (Nat × Value)) (uss : List (List Value)) (acc tail : List Value), Parts place acc.length tail.length ps uss →
    Instr.fill place (acc ++ tail).toArray ps = some (acc ++ uss.flatten ++ tail.drop uss.flatten.length).toArray
  | [], [], acc, tail, _ => by simp [Instr.fill]
  | (i, v) :: ps, us :: uss, acc, tail, h => by
    obtain ⟨h1, h2, h3, h4⟩ := h
    have hc : v.cells = us.toArray := by rw [← h2]
    simp only [Instr.fill, h1, hc]
    rw [if_neg (by simp; omega)]
    have e : us.toArray.zipIdx = (us.zipIdx 0).toArray := by simp
    rw [e, List.foldl_toArray, set_row us acc tail h3]
    have := fill_parts place ps uss (acc ++ us) (tail.drop us.length) (by simpa using h4)
    rw [this]
    simp [List.append_assoc]
  | [], _ :: _, _, _, h => h.elim
  | _ :: _, [], _, _, h => h.elim

/-- A struct's places, and its cells that nobody has written. -/
def bshape (P : Program) (t : TypeId) : Option (List (Nat × Nat) × Array Value) :=
  match P.info? t, P.underlying t with
  | some it, some (.struct fields) =>
    match it.zero, fields.toList.mapM (fun f => (P.info? f.type).map fun i => (f.offset, i.size)) with
    | some z, some places => some (places, z.cells)
    | _, _ => none
  | _, _ => none
theorem built_shape {P : Program} {t : TypeId} {pl : List (Nat × Nat)} {zc : Array Value} (h : bshape P t = some (pl, zc)) (ps : List (Nat × Value)) : P.built t ps = Instr.fill (pl.toArray[·]?) zc ps := by
  unfold bshape at h
  unfold Program.built
  cases hi : P.info? t with
  | none => simp [hi] at h
  | some it =>
    cases hu : P.underlying t with
    | none => simp [hi, hu] at h
    | some d =>
      cases d <;> try (simp [hi, hu] at h; done)
      case struct fields =>
        cases hz : it.zero with
        | none => simp [hi, hu, hz] at h
        | some z =>
          cases hp : fields.toList.mapM (fun f => (P.info? f.type).map fun i => (f.offset, i.size)) with
          | none => simp [hi, hu, hz, hp] at h
          | some places =>
            simp [hi, hu, hz, hp] at h
            obtain ⟨rfl, rfl⟩ := h
            simp [hz, hp]

/-- A struct is built of parts, one behind the other; what is left is as nobody has written it. -/
theorem wpList_build_parts {P : Program} {ops : Array Oper} {rest : List Oper} {o : Oper} {a : Act} {w : World} {Q : Exit → Act → World → Prop} (hg : o.guard = none) (t : TypeId) (parts : Array (Nat × Operand)) (ho : o.op = .build t parts)
    {pl : List (Nat × Nat)} {zc : Array Value} (hs : bshape P t = some (pl, zc)) (uss : List (List Value)) (hp : Parts (pl.toArray[·]?) 0 zc.size (parts.map fun (i, x) => (i, a.eval x)).toList uss)
    (h : wpList P ops Q rest (a.put o.dst (.agg (uss.flatten ++ zc.toList.drop uss.flatten.length).toArray)) w) : wpList P ops Q (o :: rest) a w := by
  have hb : P.built t (parts.map fun (i, x) => (i, a.eval x)).toList = some (uss.flatten ++ zc.toList.drop uss.flatten.length).toArray := by
    rw [built_shape hs]
    have := fill_parts (pl.toArray[·]?) (parts.map fun (i, x) => (i, a.eval x)).toList uss [] zc.toList (by simpa using hp)
    simpa using this
  refine wpList_build hg t parts ho (by rw [hb]; rfl) ?_
  rw [hb]
  exact h

theorem Bts.take {F : Nat → Prop} {w : World} {A : Option Addr} {n : Nat} {l : List UInt8} (h : Bts F w A n l) (k : Nat) (hk : k ≤ n) : Bts F w A k (l.take k) := by
  refine ⟨by rw [List.length_take, h.1]; omega, by have := h.2.1; omega, fun hp => ?_⟩
  obtain ⟨b, o, e, hF, hA⟩ := h.2.2 (by omega)
  refine ⟨b, o, e, hF, fun i v hv => hA i v ?_⟩
  rw [List.map_take, List.getElem?_take] at hv
  split at hv
  · exact hv
  · cases hv

/-- Bytes that are read. -/
def BytesPost (F : Nat → Prop) (w : World) (bx : Nat) (B : List UInt8) (bad : Bool) (e : Ending) (w' : World) : Prop :=
  ∃ (u : Value) (x : List UInt8) (B' : List UInt8) (bad' : Bool), e = .returned u ∧ InP .raw F w w' bx B bad B' bad' [u] x

theorem InN.bytes {F : Nat → Prop} {w w1 w2 : World} {bx E n m c : Nat} {B B1 : List UInt8} {bad bad1 : Bool} {v : Int} {v' : Value} {A : Option Addr} (hF : ¬ F bx) (hbx : bx < w.heap.size) (k : InN F w w1 bx B bad v B1 bad1) (hv : v = (n : Int)) (h6 : n ≤ 65536) (hn : n ≤ B1.length)
    (hown : w2.ownsRow w.heap.size E 1 v' n ((B1.take n).map u8)) (hg : w1.grownBy w2 none) (hb : Bts F w1 A m (B1.drop n)) (hm : m ≤ c) :
    BytesPost F w bx B bad (.returned v') (w2.setCell ⟨bx, 0, none⟩ (.slice A m c)) := by
  have hg' : Upd (fun _ _ => False) w1 w2 := (Upd.refl _ w1).grownNew hg (fun q hq => by cases hq)
  have f2 : InR F w2 bx B1 bad1 := by
    obtain ⟨hf, A0, n0, c0, hA, hn0, hb0⟩ := k.form
    have hlt : bx < w1.heap.size := Nat.lt_of_lt_of_le hbx k.upd.size
    exact ⟨hg'.free hlt hf, A0, n0, c0, hg'.at hA (fun _ _ h => h), hn0, hb0.keep (fun _ h => h) (fun q _ hlt => hg'.block q hlt (fun _ h => h))⟩
  obtain ⟨A', c', rfl, hnc, hbt⟩ := Bts.owned (F := fun q => w.heap.size ≤ q) hown (fun q hq => (hown.lt q hq).1)
  refine ⟨_, B1.take n, B1.drop n, bad1, rfl, (k.upd.grownNew hg (fun q hq => by cases hq)).setCell bx 0 (fun _ => rfl) _, f2.put hF hm (hb.keep (fun _ h => h) (fun q _ hlt => hg'.block q hlt (fun _ h => h))), ⟨A', n, c', rfl, hbt.keep (fun _ h => h) (fun q hq _ => Below.heap_setCell _ _ _ _ (show q ≠ bx by omega))⟩, ?_, k.stays, fun hb0 => ?_⟩
  · simp only [Cod.okay, decide_eq_true_eq, List.length_take]; omega
  · have := k.reads hb0
    simp only [parse, many]
    generalize num B = q at this ⊢
    cases q with
    | none => exact this
    | some p =>
      obtain ⟨h1, h2, h3⟩ := this
      simp only
      rw [if_pos (by omega)]
      have e : p.1.toNat = n := by omega
      simp only [e]
      rw [← h2, if_pos hn]
      exact ⟨h1, rfl, rfl⟩
theorem InN.unbytes {F : Nat → Prop} {w w1 : World} {bx : Nat} {B B1 : List UInt8} {bad bad1 : Bool} {v : Int} (hF : ¬ F bx) (k : InN F w w1 bx B bad v B1 bad1) (hv : v < 0 ∨ 65536 < v ∨ (B1.length : Int) < v) :
    BytesPost F w bx B bad (.returned (.slice none 0 0)) (w1.setCell ⟨bx, 1, none⟩ (.bool true)) := by
  refine ⟨_, [], B1, true, rfl, k.upd.setCell bx 1 (fun _ => rfl) _, k.form.bad hF true, ⟨none, 0, 0, rfl, Bts.nil _ _ _⟩, rfl, fun _ => rfl, fun hb0 => ?_⟩
  have := k.reads hb0
  simp only [parse, many]
  generalize num B = q at this ⊢
  cases q with
  | none => trivial
  | some p =>
    obtain ⟨h1, h2, h3⟩ := this
    simp only
    by_cases hc : 0 ≤ p.1 ∧ p.1 ≤ 65536
    · rw [if_pos hc]
      simp only
      rw [if_neg (by rw [← h2]; omega)]
      trivial
    · rw [if_neg hc]
      trivial


/-- A struct is built of parts: what it comes to, told plainly. -/
theorem wpList_build_vs {P : Program} {ops : Array Oper} {rest : List Oper} {o : Oper} {a : Act} {w : World} {Q : Exit → Act → World → Prop} (hg : o.guard = none) (t : TypeId) (parts : Array (Nat × Operand)) (ho : o.op = .build t parts)
    {pl : List (Nat × Nat)} {zc : Array Value} (hs : bshape P t = some (pl, zc)) (uss : List (List Value)) (hp : Parts (pl.toArray[·]?) 0 zc.size (parts.map fun (i, x) => (i, a.eval x)).toList uss)
    (VS : List Value) (hv : uss.flatten ++ zc.toList.drop uss.flatten.length = VS) (h : wpList P ops Q rest (a.put o.dst (.agg VS.toArray)) w) : wpList P ops Q (o :: rest) a w :=
  wpList_build_parts hg t parts ho hs uss hp (by rw [hv]; exact h)

/-- How a reader of a record of the document's ends. -/
def RecEnd (s : Sch) (F : Nat → Prop) (w : World) (bx : Nat) (B : List UInt8) (bad : Bool) (e : Ending) (w' : World) : Prop :=
  ∃ (vs : List Value) (x : Ty s) (B' : List UInt8) (bad' : Bool), e = .returned (.agg vs.toArray) ∧ InP s F w w' bx B bad B' bad' vs x
def RecC (P : Program) (f : FuncId) (s : Sch) : Prop :=
  ∀ (F : Nat → Prop) (w : World) (bx : Nat) (B : List UInt8) (bad : Bool), InH F w bx B bad → (∀ k, F k → k < w.heap.size) → Calls P f #[.pointer (some ⟨bx, 0, none⟩)] w (RecEnd s F w bx B bad)
/-- How a reader of a list of the document's ends. -/
def OnePost (s : Sch) (F : Nat → Prop) (w : World) (bx : Nat) (B : List UInt8) (bad : Bool) (e : Ending) (w' : World) : Prop :=
  ∃ (u : Value) (x : Ty s) (B' : List UInt8) (bad' : Bool), e = .returned u ∧ InP s F w w' bx B bad B' bad' [u] x

theorem InX.of {F : Nat → Prop} {w : World} {bx : Nat} {B : List UInt8} {bad : Bool} (h : InH F w bx B bad) (hold : ∀ k, F k → k < w.heap.size) (n : Nat) : InX (fun k => w.heap.size ≤ k ∧ k < w.heap.size + n) F w bx :=
  ⟨h.nf, fun e => by have := h.lt; omega, h.lt, hold, fun _ e => e.1⟩
theorem InPX.old {X : Nat → Prop} {s : Sch} {F : Nat → Prop} {w w1 : World} {bx : Nat} {B B1 : List UInt8} {bad bad1 : Bool} {vs : List Value} {x : Ty s} (g : InX X F w bx) (q : InPX X s F w w1 bx B bad B1 bad1 vs x) : ∀ k, F k → k < w1.heap.size :=
  fun k hk => Nat.lt_of_lt_of_le (g.old k hk) q.upd.size
/-- While a result is made: the reader, and the result's cells. -/
structure Mk (r n : Nat) (F : Nat → Prop) (w : World) (bx : Nat) (B : List UInt8) (bad : Bool) : Prop where
  h : InH F w bx B bad
  old : ∀ k, F k → k < w.heap.size
  th : w.there r 0 n
  rlt : r < w.heap.size
  ne : r ≠ bx
theorem Mk.next {r n : Nat} {s : Sch} {F : Nat → Prop} {w w1 : World} {bx : Nat} {B B1 : List UInt8} {bad bad1 : Bool} {vs : List Value} {x : Ty s} (m : Mk r n F w bx B bad) (p : InP s F w w1 bx B bad B1 bad1 vs x) : Mk r n F w1 bx B1 bad1 where
  h := ⟨p.form, m.h.nf, Nat.lt_of_lt_of_le m.h.lt p.upd.size⟩
  old := fun k hk => Nat.lt_of_lt_of_le (m.old k hk) p.upd.size
  th := p.upd.there m.th m.rlt (fun _ => m.ne)
  rlt := Nat.lt_of_lt_of_le m.rlt p.upd.size
  ne := m.ne
theorem Mk.start {n : Nat} {F : Nat → Prop} {w : World} {bx : Nat} {B : List UInt8} {bad : Bool} (h : InH F w bx B bad) (hold : ∀ k, F k → k < w.heap.size) (cs : Array Value) (T : TypeId) (hn : n ≤ cs.size) : Mk w.heap.size n F (w.alloc (.cells cs T)) bx B bad := by
  have u : Upd (fun _ _ => False) w (w.alloc (.cells cs T)) := (Upd.refl _ w).alloc _
  refine ⟨⟨?_, h.nf, Nat.lt_of_lt_of_le h.lt u.size⟩, fun k hk => Nat.lt_of_lt_of_le (hold k hk) u.size, there_new w cs T hn, by simp, by have := h.lt; omega⟩
  obtain ⟨hf, A, m, c, hA, hn, hb⟩ := h.form
  exact ⟨u.free h.lt hf, A, m, c, u.at hA (fun _ _ h => h), hn, hb.keep (fun _ h => h) (fun q _ hlt => u.block q hlt (fun _ h => h))⟩
theorem InPX.begin {F : Nat → Prop} {w : World} {bx : Nat} {B : List UInt8} {bad : Bool} (h : InH F w bx B bad) (hold : ∀ k, F k → k < w.heap.size) (cs : Array Value) (T : TypeId) :
    InPX (fun k => w.heap.size ≤ k ∧ k < w.heap.size + 1) .unit F w (w.alloc (.cells cs T)) bx B bad B bad [] () :=
  InPX.start (InX.of h hold 1) h.form ((Upd.refl _ w).alloc _) (fun k hk => by simp; omega)

theorem lay_slice {s : Sch} {F : Nat → Prop} {w : World} {u : Value} {x : Ty (.list s)} (h : Lay (.list s) F w [u] x) : ∃ A n c, u = .slice A n c := by
  obtain ⟨A, n, c, e, _⟩ := h
  injection e with e
  exact ⟨A, n, c, e⟩
theorem lay_raw {F : Nat → Prop} {w : World} {u : Value} {x : Ty .raw} (h : Lay .raw F w [u] x) : ∃ A n c, u = .slice A n c := by
  obtain ⟨A, n, c, e, _⟩ := h
  injection e with e
  exact ⟨A, n, c, e⟩
end Cod

/- A list that is read into a field of a struct that is made; plain laws, no program in sight. -/
namespace Cod
open Go Go.RowKit

theorem At.put {w : World} {b o : Nat} {C us : List Value} (h : At w b 0 C) (pre old post : List Value) (hC : C = pre ++ old ++ post) (hl : us.length = old.length) (ho : o = pre.length) : At (w.setCells b o us) b 0 (pre ++ us ++ post) := by
  subst hC
  subst ho
  intro i v hv
  rw [Nat.zero_add]
  rw [List.append_assoc] at hv h
  rcases Nat.lt_or_ge i pre.length with h1 | h1
  · rw [List.getElem?_append_left h1] at hv
    rw [World.cell?_setCells_out b us pre.length w ⟨b, i, none⟩ (fun _ _ => .inl h1)]
    have := h i v (by rw [List.getElem?_append_left h1]; exact hv)
    rwa [Nat.zero_add] at this
  · rw [List.getElem?_append_right h1] at hv
    rcases Nat.lt_or_ge (i - pre.length) us.length with h2 | h2
    · rw [List.getElem?_append_left h2] at hv
      have := World.cell?_setCells_in b us pre.length w (fun j hj => by
        have h3 := h (pre.length + j) (old[j]'(by omega)) (by rw [List.getElem?_append_right (by omega), List.getElem?_append_left (by omega), show pre.length + j - pre.length = j by omega, List.getElem?_eq_getElem])
        rw [Nat.zero_add] at h3
        rw [h3]; rfl) (i - pre.length) h2
      rw [show pre.length + (i - pre.length) = i by omega] at this
      rw [this, ← hv, List.getElem?_eq_getElem h2]
    · rw [List.getElem?_append_right h2] at hv
      rw [World.cell?_setCells_out b us pre.length w ⟨b, i, none⟩ (fun _ _ => .inr (by show pre.length + us.length ≤ i; omega))]
      have := h i v (by
        rw [List.getElem?_append_right h1, List.getElem?_append_right (by omega), show i - pre.length - old.length = i - pre.length - us.length by omega]
        exact hv)
      rwa [Nat.zero_add] at this
theorem At.put1 {w : World} {b o : Nat} {C : List Value} {u : Value} (h : At w b 0 C) (pre : List Value) (old : Value) (post : List Value) (hC : C = pre ++ [old] ++ post) (ho : o = pre.length) : At (w.setCell ⟨b, o, none⟩ u) b 0 (pre ++ [u] ++ post) :=
  At.put (us := [u]) h pre [old] post hC rfl ho

theorem Mk.sets {r n b o : Nat} {F : Nat → Prop} {w : World} {bx : Nat} {B : List UInt8} {bad : Bool} {us : List Value} (m : Mk r n F w bx B bad) (hb : b ≠ bx) (hF : ¬ F b) : Mk r n F (w.setCells b o us) bx B bad where
  h := ⟨m.h.form.setCells hb hF, m.h.nf, by rw [setCells_size]; exact m.h.lt⟩
  old := fun k hk => by rw [setCells_size]; exact m.old k hk
  th := World.there_setCells m.th b o us
  rlt := by rw [setCells_size]; exact m.rlt
  ne := m.ne
theorem Mk.set {r n b o : Nat} {F : Nat → Prop} {w : World} {bx : Nat} {B : List UInt8} {bad : Bool} (m : Mk r n F w bx B bad) (hb : b ≠ bx) (hF : ¬ F b) (u : Value) : Mk r n F (w.setCell ⟨b, o, none⟩ u) bx B bad := m.sets (us := [u]) (o := o) hb hF

/-- The struct's block is made. -/
theorem InR.alloc {F : Nat → Prop} {w : World} {bx : Nat} {B : List UInt8} {bad : Bool} (h : InR F w bx B bad) (ob : Obj) : InR F (w.alloc ob) bx B bad := by
  have hlt := h.lt
  have u : Upd (fun _ _ => False) w (w.alloc ob) := (Upd.refl _ _).alloc _
  obtain ⟨hf, A, p, c, hA, hn, hb⟩ := h
  exact ⟨u.free hlt hf, A, p, c, u.at hA (fun _ _ h => h), hn, hb.keep (fun _ h => h) (fun q _ hlt => u.block q hlt (fun _ h => h))⟩
theorem Mk.alloc {r n : Nat} {F : Nat → Prop} {w : World} {bx : Nat} {B : List UInt8} {bad : Bool} (m : Mk r n F w bx B bad) (ob : Obj) : Mk r n F (w.alloc ob) bx B bad :=
  ⟨⟨m.h.form.alloc ob, m.h.nf, by have := m.h.lt; simp; omega⟩, fun k hk => by have := m.old k hk; simp; omega, World.there_alloc m.th ob, by have := m.rlt; simp; omega, m.ne⟩
theorem Mk.newb {r n k : Nat} {F : Nat → Prop} {w : World} {bx : Nat} {B : List UInt8} {bad : Bool} (m : Mk r n F w bx B bad) (cs : Array Value) (T : TypeId) (hk : k ≤ cs.size) : Mk w.heap.size k F (w.alloc (.cells cs T)) bx B bad :=
  ⟨(m.alloc _).h, (m.alloc _).old, there_new w cs T hk, by simp, by have := m.h.lt; omega⟩
theorem InX.add {X : Nat → Prop} {F : Nat → Prop} {w w1 : World} {bx : Nat} (g : InX X F w bx) (h : w.heap.size ≤ w1.heap.size) : InX (fun k => X k ∨ k = w1.heap.size) F w bx :=
  ⟨g.nf, fun e => e.elim g.nx (fun e => by have := g.lt; omega), g.lt, g.old, fun k e => e.elim (g.new k) (fun e => by omega)⟩
theorem InPX.allocX {X : Nat → Prop} {s : Sch} {F : Nat → Prop} {w w1 : World} {bx : Nat} {B B1 : List UInt8} {bad bad1 : Bool} {vs : List Value} {x : Ty s} (q : InPX X s F w w1 bx B bad B1 bad1 vs x) (cs : Array Value) (T : TypeId) :
    InPX (fun k => X k ∨ k = w1.heap.size) s F w (w1.alloc (.cells cs T)) bx B bad B1 bad1 vs x where
  upd := (q.upd.mono (fun _ _ _ e => e.imp id .inl)).alloc _
  hi := fun k e => e.elim (fun e => by have := q.hi k e; simp; omega) (fun e => by subst e; simp)
  form := q.form.alloc _
  lay := Lay.keep s (Lay.within s q.lay) (fun k hk => ⟨hk.1.1, fun e => e.elim hk.1.2 (fun e => by have := hk.2; omega)⟩) (fun k _ hk => Below.heap_alloc _ _ _ hk)
  okay := q.okay
  stays := q.stays
  reads := q.reads

/-- A list that is read into a field: of the struct in block jb, behind pre. -/
structure LpI (X : Nat → Prop) (s : Sch) (E : Nat) (F : Nat → Prop) (w wr : World) (bx : Nat) (B0 : List UInt8) (bad0 : Bool) (B : List UInt8) (bad : Bool) (n j : Nat) (v : Value) (cs : List Value) (xs : List (Ty s)) (r jb N : Nat) (pre post : List Value) : Prop where
  ls : LsI X s E F w wr bx B0 bad0 B bad n j v cs xs
  at_ : At wr jb 0 (pre ++ [v] ++ post)
  tr : wr.there r 0 N
  tj : wr.there jb 0 N
  xr : X r
  xj : X jb
  hN : pre.length < N

variable {X : Nat → Prop} {s : Sch} {E : Nat} {F : Nat → Prop} {w wr w1 w2 : World} {bx : Nat} {B0 B B1 : List UInt8} {bad0 bad bad1 : Bool} {n j : Nat} {v v' : Value} {cs vs : List Value} {xs : List (Ty s)} {x : Ty s} {r jb N : Nat} {pre post : List Value}

theorem LpI.start (m : InM F w w1 bx B bad n B1 bad1) (hi : ∀ k, X k → k < w.heap.size) (lt : bx < w.heap.size) (nx : ¬ X bx) (nf : ¬ F bx) (fx : ∀ k, F k → ¬ X k) (old : ∀ k, F k → k < w.heap.size) (xr : X r) (xj : X jb)
    (hA : At w jb 0 (pre ++ [.slice none 0 0] ++ post)) (tr : w.there r 0 N) (tj : w.there jb 0 N) (hN : pre.length < N) : LpI X s E F w w1 bx B bad B1 bad1 n 0 (.slice none 0 0) [] [] r jb N pre post where
  ls := .start hi lt nx nf fx old m
  at_ := m.upd.at hA (fun _ _ e => nx (e ▸ xj))
  tr := m.upd.there tr (hi r xr) (fun _ e => nx (e ▸ xr))
  tj := m.upd.there tj (hi jb xj) (fun _ e => nx (e ▸ xj))
  xr := xr
  xj := xj
  hN := hN
theorem LpI.cell (h : LpI X s E F w wr bx B0 bad0 B bad n j v cs xs r jb N pre post) : wr.cell? ⟨jb, pre.length, none⟩ = some v := by
  have := h.at_ pre.length v (by rw [List.append_assoc, List.getElem?_append_right (Nat.le_refl _)]; simp)
  rwa [Nat.zero_add] at this
theorem LpI.cellAt (h : LpI X s E F w wr bx B0 bad0 B bad n j v cs xs r jb N pre post) {t : Sch} {y : Ty t} {us : List Value} {B' B1 : List UInt8} {bad' bad1 : Bool} {wa wb : World} (p : InP t F wa wb bx B' bad' B1 bad1 us y) (hc : wa.cell? ⟨jb, pre.length, none⟩ = some v) : wb.cell? ⟨jb, pre.length, none⟩ = some v :=
  (p.upd.cell jb pre.length (World.block_lt_of_cell? wa _ hc) (fun e => h.ls.nx (e ▸ h.xj))).trans hc
theorem LpI.jlt (h : LpI X s E F w wr bx B0 bad0 B bad n j v cs xs r jb N pre post) : jb < w.heap.size := h.ls.hi jb h.xj
theorem LpI.behind (h : LpI X s E F w wr bx B0 bad0 B bad n j v cs xs r jb N pre post) (k : InP s F wr w1 bx B bad B1 bad1 vs x) {T : TypeId} (hg : (w1.alloc (.cells vs.toArray T)).grownBy w2 v.ownBlock) :
    w2.cell? ⟨jb, pre.length, none⟩ = some v ∧ w2.frozen? ⟨jb, pre.length, none⟩ = false := by
  have hl : jb < w1.heap.size := Nat.lt_of_lt_of_le h.jlt (Nat.le_trans h.ls.upd.size k.upd.size)
  have hb : w2.heap[jb]? = w1.heap[jb]? := (hg.block jb (by simp; omega) (fun e => by have := (h.ls.own.lt _ e.symm).1; have := h.jlt; omega)).trans (Below.heap_alloc _ _ _ hl)
  refine ⟨(World.cell?_of_block (a := ⟨jb, pre.length, none⟩) hb).trans (h.cellAt k h.cell), (World.frozen?_of_block (a := ⟨jb, pre.length, none⟩) hb).trans ?_⟩
  rw [k.upd.frozen jb _ (Nat.lt_of_lt_of_le h.jlt h.ls.upd.size)]
  have := (h.tj pre.length h.hN).2
  rwa [Nat.zero_add] at this

theorem there_block {w w' : World} {b n : Nat} (h : w.there b 0 n) (e : w'.heap[b]? = w.heap[b]?) : w'.there b 0 n := fun j hj => by
  rw [World.cell?_of_block (a := ⟨b, 0 + j, none⟩) e, World.frozen?_of_block (a := ⟨b, 0 + j, none⟩) e]
  exact h j hj

theorem LpI.step {T : TypeId} (h : LpI X s E F w wr bx B0 bad0 B bad n j v cs xs r jb N pre post) (hj : j < n) (k : InP s F wr w1 bx B bad B1 bad1 vs x)
    (hown : w2.ownsRow w.heap.size E (szc s) v' (xs.length + 1) (cs ++ vs)) (hg : (w1.alloc (.cells vs.toArray T)).grownBy w2 v.ownBlock) (hat : v'.ownBlock = v.ownBlock ∨ v'.ownBlock = some (w1.heap.size + 1)) :
    LpI X s E F w (w2.setCell ⟨jb, pre.length, none⟩ v') bx B0 bad0 B1 bad1 n (j + 1) v' (cs ++ vs) (xs ++ [x]) r jb N pre post := by
  have hs := Nat.le_trans h.ls.upd.size k.upd.size
  have hb : ∀ q, q < w.heap.size → w2.heap[q]? = w1.heap[q]? := fun q hq => (hg.block q (by simp; omega) (fun e => by have := (h.ls.own.lt _ e.symm).1; omega)).trans (Below.heap_alloc _ _ _ (by omega))
  have hr := h.ls.hi r h.xr
  have hjb := h.jlt
  have at1 : At w1 jb 0 (pre ++ [v] ++ post) := k.upd.at h.at_ (fun _ _ e => h.ls.nx (e ▸ h.xj))
  have at2 : At w2 jb 0 (pre ++ [v] ++ post) := fun i u hu => (World.cell?_of_block (a := ⟨jb, 0 + i, none⟩) (hb jb hjb)).trans (at1 i u hu)
  have tr1 := k.upd.there h.tr (Nat.lt_of_lt_of_le hr h.ls.upd.size) (fun _ e => h.ls.nx (e ▸ h.xr))
  have tj1 := k.upd.there h.tj (Nat.lt_of_lt_of_le hjb h.ls.upd.size) (fun _ e => h.ls.nx (e ▸ h.xj))
  exact ⟨(h.ls.step hj k hown hg hat).set h.xj v', at2.put1 pre v post rfl rfl, World.there_setCells (there_block tr1 (hb r hr)) jb pre.length [v'], World.there_setCells (there_block tj1 (hb jb hjb)) jb pre.length [v'], h.xr, h.xj, h.hN⟩

theorem LpI.done (h : LpI X s E F w wr bx B0 bad0 B bad n j v cs xs r jb N pre post) (hj : j = n) : InPX X (.list s) F w wr bx B0 bad0 B bad [v] xs := h.ls.done hj
theorem LpI.mkr (h : LpI X s E F w wr bx B0 bad0 B bad n j v cs xs r jb N pre post) : Mk r N F wr bx B bad :=
  ⟨h.ls.h, fun k hk => Nat.lt_of_lt_of_le (h.ls.old k hk) h.ls.upd.size, h.tr, Nat.lt_of_lt_of_le (h.ls.hi r h.xr) h.ls.upd.size, fun e => h.ls.nx (e ▸ h.xr)⟩
theorem LpI.mkj (h : LpI X s E F w wr bx B0 bad0 B bad n j v cs xs r jb N pre post) : Mk jb N F wr bx B bad :=
  ⟨h.ls.h, fun k hk => Nat.lt_of_lt_of_le (h.ls.old k hk) h.ls.upd.size, h.tj, Nat.lt_of_lt_of_le h.jlt h.ls.upd.size, fun e => h.ls.nx (e ▸ h.xj)⟩
theorem LpI.h (h : LpI X s E F w wr bx B0 bad0 B bad n j v cs xs r jb N pre post) : InH F wr bx B bad := h.ls.h
theorem LpI.old (h : LpI X s E F w wr bx B0 bad0 B bad n j v cs xs r jb N pre post) : ∀ k, F k → k < wr.heap.size := fun k hk => Nat.lt_of_lt_of_le (h.ls.old k hk) h.ls.upd.size
theorem InP.nextH {t : Sch} {y : Ty t} {us : List Value} {B' : List UInt8} {bad' : Bool} (h : InH F w bx B bad) (p : InP t F w w1 bx B bad B' bad' us y) : InH F w1 bx B' bad' := ⟨p.form, h.nf, Nat.lt_of_lt_of_le h.lt p.upd.size⟩
theorem InP.nextO {t : Sch} {y : Ty t} {us : List Value} {B' : List UInt8} {bad' : Bool} (h : ∀ k, F k → k < w.heap.size) (p : InP t F w w1 bx B bad B' bad' us y) : ∀ k, F k → k < w1.heap.size := fun k hk => Nat.lt_of_lt_of_le (h k hk) p.upd.size

theorem there_sub {w : World} {b o n m : Nat} (h : w.there b 0 n) (hm : o + m ≤ n) : w.there b o m := fun j hj => by
  have := h (o + j) (by omega)
  rwa [Nat.zero_add] at this
end Cod

/- The document's writer of records that may be written: plain laws, no program in sight. -/
namespace Cod
open Go Go.RowKit

/-- A writer that is handed a value: nothing that it leads to is the writer's own, and it may be written. -/
structure VaH (k e base : Nat) (s : Sch) (F : Nat → Prop) (w : World) (bf : Nat) (v : Value) (B : List UInt8) (x : Ty s) : Prop where
  form : OutK k e base w bf v B
  sep : ∀ q, F q → q < w.heap.size ∧ q ≠ bf ∧ v.ownBlock ≠ some q
  okay : Cod.okay s x = true
  len : B.length + bnd s x ≤ 70368744177664

variable {k e base : Nat} {s t : Sch} {F : Nat → Prop} {w w1 w2 : World} {bf : Nat} {v v1 v2 : Value} {B l m : List UInt8}

theorem VaH.first {x : Ty (.pair s t)} (h : VaH k e base (.pair s t) F w bf v B x) : VaH k e base s F w bf v B x.1 :=
  ⟨h.form, h.sep, (okay_pair h.okay).1, by have := h.len; simp only [bnd] at this; omega⟩
theorem VaH.next {x : Ty (.pair s t)} (h : VaH k e base (.pair s t) F w bf v B x) (p : Wr k e base w w1 bf v B (enc s x.1) v1) : VaH k e base t F w1 bf v1 (B ++ enc s x.1) x.2 :=
  ⟨p.form, fun q hq => (p.keeps (h.sep q hq)).2, (okay_pair h.okay).2, by
    have h1 := h.len
    have h2 := enc_len' (okay_pair h.okay).1
    simp only [bnd] at h1
    simp only [List.length_append]
    omega⟩
theorem VaH.lay {x : Ty s} (h : VaH k e base s F w bf v B x) (p : Wr k e base w w1 bf v B l v1) {y : Ty t} {us : List Value} (hL : Lay t F w us y) : Lay t F w1 us y :=
  Lay.keep t hL (fun _ h => h) (fun q hq _ => (p.keeps (h.sep q hq)).1)
theorem VaH.alloc {x : Ty s} (h : VaH k e base s F w bf v B x) (ob : Obj) : VaH k e base s F (w.alloc ob) bf v B x :=
  ⟨h.form.alloc ob, fun q hq => ⟨by have := (h.sep q hq).1; simp; omega, (h.sep q hq).2⟩, h.okay, h.len⟩
theorem VaH.layAlloc {x : Ty s} (h : VaH k e base s F w bf v B x) (ob : Obj) {y : Ty t} {us : List Value} (hL : Lay t F w us y) : Lay t F (w.alloc ob) us y :=
  Lay.keep t hL (fun _ h => h) (fun q hq _ => Below.heap_alloc _ _ _ (h.sep q hq).1)
theorem VaH.unit {x : Ty s} (h : VaH k e base s F w bf v B x) : Wr k e base w w bf v B (enc .unit ()) v := Wr.refl h.form
/-- A number. -/
theorem OutK.va (h : OutK k e base w bf v B) {n : Int} (hn : inR n = true) (hl : B.length + 6 ≤ 70368744177664) : VaH k e base .num (fun _ => False) w bf v B n := ⟨h, fun _ h => h.elim, hn, hl⟩

/-- us stands in vs, from o on. -/
def Sub (vs : List Value) (o : Nat) (us : List Value) : Prop := ∀ i u, us[i]? = some u → vs[o + i]? = some u
theorem Sub.trans {vs us ws : List Value} {o p : Nat} (h : Sub vs o us) (g : Sub us p ws) : Sub vs (o + p) ws := fun i u hu => by
  have := h (p + i) u (g i u hu)
  rwa [← Nat.add_assoc] at this
theorem Sub.self (vs : List Value) : Sub vs 0 vs := fun i u hu => by rwa [Nat.zero_add]
theorem Sub.at {vs us : List Value} {o b q : Nat} (h : Sub vs o us) (hA : At w b q vs) : At w b (q + o) us := fun i u hu => by
  have := hA (o + i) u (h i u hu)
  rwa [← Nat.add_assoc] at this
theorem Sub.cell {vs : List Value} {u : Value} {o b : Nat} (h : Sub vs o [u]) (hA : At w b 0 vs) : w.cell? ⟨b, o, none⟩ = some u := by
  have := (h.at hA).head
  rwa [Nat.zero_add] at this
theorem Lay.split {x : Ty (.pair s t)} {vs : List Value} (h : Lay (.pair s t) F w vs x) : ∃ us ws, Lay s F w us x.1 ∧ Lay t F w ws x.2 ∧ Sub vs 0 us ∧ Sub vs (szc s) ws := by
  obtain ⟨us, ws, rfl, h1, h2⟩ := h
  have hl := Lay.len s h1
  refine ⟨us, ws, h1, h2, fun i u hu => ?_, fun i u hu => ?_⟩
  · rw [Nat.zero_add, List.getElem?_append_left (List.getElem?_eq_some_iff.1 hu).1]
    exact hu
  · rw [List.getElem?_append_right (by omega), ← hl, Nat.add_sub_cancel_left]
    exact hu
theorem Lay.num {x : Int} {us : List Value} (h : Lay .num F w us x) : us = [.int .i64 x] := h
theorem Lay.flag {x : Bool} {us : List Value} (h : Lay .flag F w us x) : us = [.bool x] := h
theorem Lay.slice {x : List (Ty s)} {us : List Value} (h : Lay (.list s) F w us x) : ∃ A c, us = [.slice A x.length c] ∧ x.length ≤ c + x.length := by
  obtain ⟨A, n, c, rfl, rfl, _⟩ := h
  exact ⟨A, c, rfl, by omega⟩
theorem Lay.rawv {x : List UInt8} {us : List Value} (h : Lay .raw F w us x) : ∃ A n c, us = [.slice A n c] ∧ x.length = n := by
  obtain ⟨A, n, c, rfl, hb⟩ := h
  exact ⟨A, n, c, rfl, hb.1⟩

/-- What stands in the box is kept. -/
theorem Wr.atBox {b : Nat} {vs : List Value} (p : Wr k e base w w1 bf v B l v1) (h : At w b 0 vs) (h1 : b ≠ bf) (h2 : v.ownBlock ≠ some b) : At w1 b 0 vs := p.upd.at h (fun _ _ => by
  rintro (e | e)
  · exact h1 e
  · exact h2 e)
theorem Wr.ownBox {b : Nat} (p : Wr k e base w w1 bf v B l v1) (hb : b < w.heap.size) (h2 : v.ownBlock ≠ some b) : v1.ownBlock ≠ some b ∧ b < w1.heap.size := by
  refine ⟨?_, Nat.lt_of_lt_of_le hb p.upd.size⟩
  rcases p.own with e | ⟨g, e, hg⟩
  · rw [e]; exact h2
  · rw [e]; intro e'; injection e' with e'; omega

/-- The box: a value that lies in a block of its own. -/
structure Box (w : World) (bf : Nat) (v : Value) (b : Nat) (vs : List Value) : Prop where
  at_ : At w b 0 vs
  ne : b ≠ bf
  nv : v.ownBlock ≠ some b
  lt : b < w.heap.size
theorem Box.new (h : OutK k e base w bf v B) (vs : List Value) (T : TypeId) : Box (w.alloc (.cells vs.toArray T)) bf v w.heap.size vs :=
  ⟨At.new w vs.toArray T, by have := h.lt; omega, fun e' => by have := (h.row.lt _ e').2; omega, by simp⟩
theorem Box.next {b : Nat} {vs : List Value} (x : Box w bf v b vs) (p : Wr k e base w w1 bf v B l v1) : Box w1 bf v1 b vs :=
  ⟨p.atBox x.at_ x.ne x.nv, x.ne, (p.ownBox x.lt x.nv).1, (p.ownBox x.lt x.nv).2⟩

def VaC (P : Program) (f : FuncId) (s : Sch) : Prop :=
  ∀ (base : Nat) (F : Nat → Prop) (w : World) (bf : Nat) (v : Value) (B : List UInt8) (vs : List Value) (x : Ty s), VaH 1 5 base s F w bf v B x → Lay s F w vs x →
    Calls P f #[.pointer (some ⟨bf, 0, none⟩), .agg vs.toArray] w (WoEnd 1 5 base w bf v B (enc s x))
/-- The same, of what is one cell. -/
def VaC1 (P : Program) (f : FuncId) (s : Sch) : Prop :=
  ∀ (base : Nat) (F : Nat → Prop) (w : World) (bf : Nat) (v : Value) (B : List UInt8) (u : Value) (x : Ty s), VaH 1 5 base s F w bf v B x → Lay s F w [u] x →
    Calls P f #[.pointer (some ⟨bf, 0, none⟩), u] w (WoEnd 1 5 base w bf v B (enc s x))

/-- The element at a place of a list that is written. -/
theorem VaH.itemAt {x : List (Ty s)} {A : Option Addr} {c j : Nat} (h : VaH k e base (.list s) F w bf v B x) (hL : Lay (.list s) F w [.slice A x.length c] x) (hj : j < x.length) (p : Wr k e base w w1 bf v B (encJ s x j) v1) :
    ∃ b' o' ws, A = some ⟨b', o', none⟩ ∧ ws.length = szc s ∧ At w1 b' (o' + j * szc s) ws ∧ b' ≠ bf ∧ v1.ownBlock ≠ some b' ∧ b' < w1.heap.size ∧ Lay s F w1 ws x[j] ∧ VaH k e base s F w1 bf v1 (B ++ encJ s x j) x[j] := by
  obtain ⟨b', o', c', ws, hv, hF, hlt, hws, hAt, hLi⟩ := Lay.item hL j hj
  injection hv with hv
  injection hv with e1 _ _
  have hk := p.keeps (h.sep b' hF)
  refine ⟨b', o', ws, e1, hws, fun i u hu => (World.cell?_of_block hk.1).trans (hAt i u hu), hk.2.2.1, hk.2.2.2, hk.2.1, h.lay p hLi, p.form, fun q hq => (p.keeps (h.sep q hq)).2, (okay_list h.okay).2 _ (List.getElem_mem hj), ?_⟩
  have := encJ_bnd h.okay hj h.len
  simp only [List.length_append]
  omega

theorem add128 (u : Nat) : (128 + (u : Int) % 128) % 256 = ((UInt8.ofNat (128 + u % 128)).toNat : Int) := by
  simp
theorem add128' (u : Nat) : 128 + (u : Int) % 128 = ((UInt8.ofNat (128 + u % 128)).toNat : Int) := by
  simp; omega

/-- A row of cells is kept. -/
theorem atRow {b o : Nat} {vs : List Value} (p : Wr k e base w w1 bf v B l v1) (h : At w b o vs) (h1 : b ≠ bf) (h2 : v.ownBlock ≠ some b) : At w1 b o vs := p.upd.at h (fun _ _ => by
  rintro (e | e)
  · exact h1 e
  · exact h2 e)
end Cod

/- An element's address in a region that leaves its order open; plain laws, no program in sight. -/
set_option linter.unusedSimpArgs false
namespace Cod
open Go Go.RowKit
variable {P : Program}
theorem exec_index {o : Oper} {a : Act} {w : World} {t e : TypeId} {x y : Operand} (ho : o.op = .indexAddr t x y) {b i n c j sz : Nat} (hx : a.eval x = .slice (some ⟨b, i, none⟩) n c) (hy : a.eval y = .int .i64 (j : Int)) (hj : j < n)
    (hu : P.underlying t = some (.slice e)) (hs : (P.info? e).map (·.size) = some sz) : (execOp a.eval o).run P w = .ok (.value (.pointer (some ⟨b, i + j * sz, none⟩))) w := by
  obtain ⟨ie, hie, hsz⟩ := Option.map_eq_some_iff.1 hs
  have hj' : (j : Int) < (n : Int) := by omega
  unfold execOp
  simp [ho, hx, hy, Instr.indexAt, asIntOf, Sem.run_bind, run_underlying hu, Go.sizeOf, typeInfo, hie, hsz, addr_add, Result.andThen, hj, hj']
end Cod

/- The document's answers, whole: plain laws, no program in sight. -/
namespace Cod
open Go Go.RowKit

/-- The document's own writing, as it begins. -/
theorem VaH.start {s : Sch} {F : Nat → Prop} {w : World} {vs : List Value} {x : Ty s} (hF : ∀ k, F k → k < w.heap.size) (ho : Cod.okay s x = true) (hm : mx s ≤ 70368744177664) (T T' : TypeId) :
    VaH 1 5 (w.heap.size + 2) s F ((w.alloc (.cells vs.toArray T)).alloc (.cells #[.slice none 0 0, .bool false] T')) (w.heap.size + 1) (.slice none 0 0) [] x := by
  have e1 : w.heap.size + 1 = (w.alloc (.cells vs.toArray T)).heap.size := by simp
  refine ⟨?_, fun q hq => ⟨by have := hF q hq; simp; omega, by have := hF q hq; omega, by simp [Value.ownBlock]⟩, ho, by have := bnd_mx s x ho; simp; omega⟩
  rw [e1]
  exact OutK.start 1 5 _ rfl (by simp)

theorem Wr.putR {s : Sch} {w w' : World} {vs : List Value} {x : Ty s} {T T' : TypeId} {cs : Array Value} {v' : Value} (p : Wr 1 5 (w.heap.size + 2) ((w.alloc (.cells vs.toArray T)).alloc (.cells cs T')) w' (w.heap.size + 1) (.slice none 0 0) [] (enc s x) v') :
    ∃ A n c, v' = .slice A n c ∧ PutPost (enc s x) w (.returned (.tuple #[.slice A n c, .int .i64 0])) w' := by
  have hf := p.form.row
  simp only [List.nil_append] at hf
  obtain ⟨A, c, rfl, hn, hb⟩ := Bts.owned (F := fun k => w.heap.size ≤ k) (n := (enc s x).length) hf (fun q hq => by have := (hf.lt q hq).1; omega)
  refine ⟨A, _, c, rfl, A, _, c, rfl, hn, Upw.toUpd (((Upd.refl _ w).alloc (.cells vs.toArray T)).alloc (.cells cs T')) p.upd (fun b o e => ?_), hb⟩
  rcases e with e | e
  · omega
  · simp [Value.ownBlock] at e

/-- The document's answer. -/
def RefPost (s : Sch) (w : World) (B : List UInt8) (e : Ending) (w' : World) : Prop :=
  ∃ (vs : List Value) (ok : Bool), e = .returned (.tuple #[.agg vs.toArray, .bool ok]) ∧ Upd (fun _ _ => False) w w' ∧ vs.length = szc s ∧ (∀ v ∈ vs, One v) ∧ (ok = true ↔ ∃ y, parse s B = some (y, []))

theorem InP.ref {s : Sch} {F : Nat → Prop} {w w' : World} {bx : Nat} {B B' : List UInt8} {bad' : Bool} {vs : List Value} {x : Ty s} (p : InP s F w w' bx B false B' bad' vs x) :
    (bad' = false ∧ B' = [] ∧ enc s x = B) ↔ ∃ y, parse s B = some (y, []) := by
  have := p.reads rfl
  constructor
  · rintro ⟨h1, h2, h3⟩
    generalize parse s B = q at this ⊢
    cases q with
    | none => rw [h1] at this; cases this
    | some q => obtain ⟨_, h4, _⟩ := this; exact ⟨q.1, by rw [← h2, h4]⟩
  · rintro ⟨y, hy⟩
    rw [hy] at this
    obtain ⟨h1, h2, h3⟩ := this
    exact ⟨h1, h2, by rw [h3]; exact (parse_whole hy).1⟩

/-- Yes or no, and nothing else. -/
def Says (p : Prop) (w : World) (e : Ending) (w' : World) : Prop := ∃ t : Bool, e = .returned (.bool t) ∧ Upd (fun _ _ => False) w w' ∧ (t = true ↔ p)

theorem Bts.byte {F : Nat → Prop} {w : World} {A : Option Addr} {n j : Nat} {l : List UInt8} (h : Bts F w A n l) (hj : j < n) : ∃ b o, A = some ⟨b, o, none⟩ ∧ ∃ hl : j < l.length, w.cell? ⟨b, o + j, none⟩ = some (.int .u8 ((l[j]).toNat : Int)) := by
  obtain ⟨b, o, rfl, hF, hA⟩ := h.2.2 (by omega)
  have hl : j < l.length := by rw [h.1]; exact hj
  exact ⟨b, o, rfl, hl, hA j _ (by rw [List.getElem?_map, List.getElem?_eq_getElem hl]; rfl)⟩
/-- The reader, as it begins. -/
theorem InH.start {F : Nat → Prop} {w : World} {A : Option Addr} {n c : Nat} {B : List UInt8} (hb : Bts F w A n B) (hn : n ≤ c) (hF : ∀ k, F k → k < w.heap.size) (z0 : Array Value) (T0 T1 : TypeId) :
    InH F ((w.alloc (.cells z0 T0)).alloc (.cells #[.slice A n c, .bool false] T1)) (w.heap.size + 1) B false ∧ ∀ k, F k → k < ((w.alloc (.cells z0 T0)).alloc (.cells #[.slice A n c, .bool false] T1)).heap.size := by
  have e1 : w.heap.size + 1 = (w.alloc (.cells z0 T0)).heap.size := by simp
  have u : Upd (fun _ _ => False) w ((w.alloc (.cells z0 T0)).alloc (.cells #[.slice A n c, .bool false] T1)) := ((Upd.refl _ w).alloc _).alloc _
  refine ⟨⟨⟨?_, A, n, c, ?_, hn, hb.keep (fun _ h => h) (fun q _ hlt => u.block q hlt (fun _ h => h))⟩, fun h => by have := hF _ h; omega, by simp⟩, fun k hk => by have := hF k hk; simp; omega⟩
  · rw [e1]; exact Free.new _ _ _ _
  · rw [e1]; exact At.new _ _ _

theorem Upd.news {T : Nat → Nat → Prop} {w w' : World} (h : Upd T w w') (hT : ∀ b o, T b o → w.heap.size ≤ b) : Upd (fun _ _ => False) w w' :=
  ⟨h.os, h.tape, h.output, h.size, fun b o hb _ => h.cell b o hb (fun e => by have := hT b o e; omega), h.frozen, fun b hb _ => h.block b hb (fun o e => by have := hT b o e; omega)⟩
theorem RefPost.of {s : Sch} {w w' : World} {B : List UInt8} {vs us : List Value} {ok : Bool} {T : Nat → Nat → Prop} (h : Upd T w w') (hT : ∀ b o, T b o → w.heap.size ≤ b) (hl : vs.length = szc s) (h1 : ∀ v ∈ vs, One v) (hok : ok = true ↔ ∃ y, parse s B = some (y, [])) :
    RefPost s w B (.returned (.tuple #[.agg vs.toArray, .bool ok])) (w'.setCells w.heap.size 0 us) :=
  ⟨vs, ok, rfl, (h.news hT).setCells _ us 0 (fun h => absurd h (by omega)), hl, h1, hok⟩

/-- Bytes that are put together, from w on. -/
structure FrS (w w1 : World) (v : Value) (B : List UInt8) : Prop where
  row : w1.ownsRow w.heap.size 5 1 v B.length (B.map u8)
  upd : Upd (fun _ _ => False) w w1
theorem FrS.append {w w1 w0 w2 : World} {v v' : Value} {B l : List UInt8} {n : Nat} {us : List Value} (h : FrS w w1 v B) (h0 : Upd (fun _ _ => False) w1 w0) (hus : us = B.map u8 ++ l.map u8) (hn : n = B.length + l.length)
    (hown : w2.ownsRow w.heap.size 5 1 v' n us) (hg : w0.grownBy w2 v.ownBlock) : FrS w w2 v' (B ++ l) := by
  subst hus
  subst hn
  exact ⟨by rw [List.length_append, List.map_append]; exact hown, (h.upd.trans h0).grownNew hg (fun q hq => (h.row.lt q hq).1)⟩
theorem FrS.upds {w w1 w2 : World} {v : Value} {B : List UInt8} (h : FrS w w1 v B) (u : Upd (fun _ _ => False) w1 w2) : FrS w w2 v B := by
  refine ⟨⟨h.row.1, ?_⟩, h.upd.trans u⟩
  rcases h.row.2 with hn | ⟨q, cap, cur, rfl, hq, hh, rest⟩
  · exact .inl hn
  · refine .inr ⟨q, cap, cur, rfl, hq, ?_, rest⟩
    rw [u.block q (Array.getElem?_eq_some_iff.1 hh).1 (fun _ h => h)]
    exact hh
theorem Bts.new (w : World) (cs : Array Value) (T : TypeId) (l : List UInt8) {n : Nat} (hn : l.length = n) (hm : n ≤ 1000000) (hc : cs.toList = l.map u8) : Bts (fun _ => True) (w.alloc (.cells cs T)) (some ⟨w.heap.size, 0, none⟩) n l :=
  ⟨hn, by omega, fun _ => ⟨_, _, rfl, trivial, hc ▸ At.new w cs T⟩⟩
theorem FrS.bts {w w1 : World} {v : Value} {B : List UInt8} (h : FrS w w1 v B) : ∃ A c, v = .slice A B.length c ∧ B.length ≤ c ∧ Bts (fun k => w.heap.size ≤ k) w1 A B.length B := Bts.owned h.row (fun q hq => (h.row.lt q hq).1)
end Cod

/- A record that nobody has filled: how it is written, and read again; plain laws, no program in sight. -/
namespace Cod
open Go Go.RowKit

def zl : Sch → Nat
  | .num => 1
  | .flag => 1
  | .raw => 1
  | .list _ => 1
  | .unit => 0
  | .pair a b => zl a + zl b
theorem encN_zero : encN 0 = [0] := by
  unfold encN zig
  rw [if_neg (by omega)]
  exact vint_end (by omega)
theorem num_zero (r : List UInt8) : num ((0 : UInt8) :: r) = some (0, r) := rfl
theorem many_zero (m : Int) (hm : 0 ≤ m) (r : List UInt8) : many m ((0 : UInt8) :: r) = some (0, r) := by
  unfold many
  rw [num_zero]
  simp only
  rw [if_pos ⟨Int.le_refl 0, hm⟩]
  rfl
theorem enc_zero : ∀ s : Sch, enc s (zerov s) = List.replicate (zl s) 0
  | .num => encN_zero
  | .flag => encN_zero
  | .raw => by
    show encN ((([] : List UInt8).length : Nat) : Int) ++ [] = _
    rw [List.append_nil]
    exact encN_zero
  | .list s => by
    show encN ((([] : List (Ty s)).length : Nat) : Int) ++ (([] : List (Ty s)).map (enc s)).flatten = _
    simp only [List.map_nil, List.flatten_nil, List.append_nil]
    exact encN_zero
  | .unit => rfl
  | .pair a b => by
    show enc a (zerov a) ++ enc b (zerov b) = _
    rw [enc_zero a, enc_zero b]
    simp [zl]
theorem parse_zero : ∀ (s : Sch) (r : List UInt8), parse s (List.replicate (zl s) 0 ++ r) = some (zerov s, r)
  | .num, r => num_zero r
  | .flag, r => by
    show (match num ((0 : UInt8) :: r) with | some (n, r) => if n = 0 then some (false, r) else if n = 1 then some (true, r) else none | none => none) = _
    rw [num_zero]
    rfl
  | .raw, r => by
    show (match many 65536 ((0 : UInt8) :: r) with | some (n, r) => if n ≤ r.length then some (r.take n, r.drop n) else none | none => none) = _
    rw [many_zero _ (by omega)]
    simp [zerov]
  | .list s, r => by
    show (match many 64 ((0 : UInt8) :: r) with | some (n, r) => times (parse s) n r | none => none) = _
    rw [many_zero _ (by omega)]
    rfl
  | .unit, r => rfl
  | .pair a b, r => by
    have h1 := parse_zero a (List.replicate (zl b) 0 ++ r)
    have h2 := parse_zero b r
    rw [← List.append_assoc, List.replicate_append_replicate] at h1
    show (match parse a (List.replicate (zl a + zl b) 0 ++ r) with | some (x, r) => (match parse b r with | some (y, r') => some ((x, y), r') | none => none) | none => none) = _
    rw [h1]
    simp only
    rw [h2]
    rfl
end Cod
