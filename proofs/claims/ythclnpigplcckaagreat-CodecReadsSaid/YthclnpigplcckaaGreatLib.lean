/- Laws of the walker. -/
import Derived.WalkKit
import Derived.Deep.Draws
import Derived.Laws.BitsAllLaws
import Derived.Laws.DeepNot64
import Derived.Great.BuildSlice
import Derived.OrdersHeld
import Derived.StillTail
set_option linter.unusedSimpArgs false
set_option linter.unusedVariables false

/- Worlds, regions of cells, and what is kept of them: plain laws on the model's memory, no program in sight. -/
namespace Cod
open Go Go.RowKit
/-- What a record is made of. -/
inductive Sch where
  | num | flag | raw
  | list (s : Sch)
  | unit
  | pair (a b : Sch)

/-- What it holds. -/
@[reducible] def Ty : Sch → Type
  | .num => Int
  | .flag => Bool
  | .raw => List UInt8
  | .list s => List (Ty s)
  | .unit => Unit
  | .pair a b => Ty a × Ty b

/-! ### Numbers -/
def zig (n : Int) : Nat := if n < 0 then (-2 * n - 1).toNat else (2 * n).toNat
def unz (u : Nat) : Int := if u % 2 = 1 then -(((u + 1) / 2 : Nat) : Int) else ((u / 2 : Nat) : Int)
def inR (n : Int) : Bool := decide (-1099511627776 ≤ n) && decide (n ≤ 1099511627776)

theorem zig_unz (u : Nat) : zig (unz u) = u := by
  unfold zig unz
  split <;> split <;> omega

/-- The bytes of a number, seven bits each, the lowest first. -/
def vint (u : Nat) : List UInt8 :=
  if u < 128 then [UInt8.ofNat u] else UInt8.ofNat (128 + u % 128) :: vint (u / 128)
termination_by u
decreasing_by omega

def rd : Nat → List UInt8 → Option (Nat × List UInt8)
  | 0, _ => none
  | _ + 1, [] => none
  | k + 1, c :: r =>
    if c.toNat < 128 then some (c.toNat, r)
    else match rd k r with
      | some (u, r') => if u = 0 then none else some (c.toNat - 128 + 128 * u, r')
      | none => none

theorem rd_vint : ∀ (k : Nat) (b r : List UInt8) (u : Nat), rd k b = some (u, r) → b = vint u ++ r := by
  intro k
  induction k with
  | zero => intro b r u h; cases h
  | succ k ih =>
    intro b r u h
    cases b with
    | nil => cases h
    | cons c t =>
      simp only [rd] at h
      split at h
      · rename_i hc
        injection h with h
        obtain ⟨rfl, rfl⟩ := Prod.mk.inj h
        rw [vint, if_pos hc]
        simp
      · rename_i hc
        split at h
        · rename_i u' r' he
          split at h
          · cases h
          · rename_i h0
            injection h with h
            obtain ⟨rfl, rfl⟩ := Prod.mk.inj h
            have hb := ih _ _ _ he
            have hlt : c.toNat < 256 := c.toNat_lt
            rw [vint, if_neg (by omega)]
            rw [show (c.toNat - 128 + 128 * u') / 128 = u' by omega, show 128 + (c.toNat - 128 + 128 * u') % 128 = c.toNat by omega, hb]
            simp
        · cases h

def num (b : List UInt8) : Option (Int × List UInt8) :=
  match rd 6 b with
  | some (u, r) => if inR (unz u) then some (unz u, r) else none
  | none => none
def encN (n : Int) : List UInt8 := vint (zig n)

theorem num_enc {b r : List UInt8} {n : Int} (h : num b = some (n, r)) : b = encN n ++ r ∧ inR n = true := by
  unfold num at h
  split at h
  · rename_i u r' he
    split at h
    · rename_i hr
      injection h with h
      obtain ⟨rfl, rfl⟩ := Prod.mk.inj h
      exact ⟨by rw [encN, zig_unz]; exact rd_vint _ _ _ _ he, hr⟩
    · cases h
  · cases h

/-! ### Reading: what the document says, plainly -/
def many (most : Int) (b : List UInt8) : Option (Nat × List UInt8) :=
  match num b with
  | some (n, r) => if 0 ≤ n ∧ n ≤ most then some (n.toNat, r) else none
  | none => none

def times {α : Type} (p : List UInt8 → Option (α × List UInt8)) : Nat → List UInt8 → Option (List α × List UInt8)
  | 0, b => some ([], b)
  | n + 1, b => match p b with
    | some (x, r) => match times p n r with
      | some (l, r') => some (x :: l, r')
      | none => none
    | none => none

def parse : (s : Sch) → List UInt8 → Option (Ty s × List UInt8)
  | .num, b => num b
  | .flag, b => match num b with
    | some (n, r) => if n = 0 then some (false, r) else if n = 1 then some (true, r) else none
    | none => none
  | .raw, b => match many 65536 b with
    | some (n, r) => if n ≤ r.length then some (r.take n, r.drop n) else none
    | none => none
  | .list s, b => match many 64 b with
    | some (n, r) => times (parse s) n r
    | none => none
  | .unit, b => some ((), b)
  | .pair s t, b => match parse s b with
    | some (x, r) => match parse t r with
      | some (y, r') => some ((x, y), r')
      | none => none
    | none => none

/-! ### Writing -/
def enc : (s : Sch) → Ty s → List UInt8
  | .num, n => encN n
  | .flag, b => encN (if b then 1 else 0)
  | .raw, l => encN l.length ++ l
  | .list s, l => encN l.length ++ (l.map (enc s)).flatten
  | .unit, _ => []
  | .pair s t, (x, y) => enc s x ++ enc t y

def okay : (s : Sch) → Ty s → Bool
  | .num, n => inR n
  | .flag, _ => true
  | .raw, l => decide (l.length ≤ 65536)
  | .list s, l => decide (l.length ≤ 64) && l.all (okay s)
  | .unit, _ => true
  | .pair s t, (x, y) => okay s x && okay t y

theorem many_enc {m : Int} {b r : List UInt8} {n : Nat} (h : many m b = some (n, r)) : b = encN n ++ r ∧ (n : Int) ≤ m := by
  unfold many at h
  split at h
  · rename_i k r' he
    split at h
    · rename_i hr
      injection h with h
      obtain ⟨rfl, rfl⟩ := Prod.mk.inj h
      have := num_enc he
      rw [show ((k.toNat : Nat) : Int) = k by omega]
      exact ⟨this.1, hr.2⟩
    · cases h
  · cases h

theorem times_enc {α : Type} {p : List UInt8 → Option (α × List UInt8)} {e : α → List UInt8} {ok : α → Bool}
    (hp : ∀ b x r, p b = some (x, r) → b = e x ++ r ∧ ok x = true) :
    ∀ n b l r, times p n b = some (l, r) → b = (l.map e).flatten ++ r ∧ l.all ok = true ∧ l.length = n := by
  intro n
  induction n with
  | zero => intro b l r h; simp only [times] at h; injection h with h; obtain ⟨rfl, rfl⟩ := Prod.mk.inj h; simp
  | succ n ih =>
    intro b l r h
    simp only [times] at h
    split at h
    · rename_i x r' hx
      split at h
      · rename_i l' r'' hl
        injection h with h
        obtain ⟨rfl, rfl⟩ := Prod.mk.inj h
        have h1 := hp _ _ _ hx
        have h2 := ih _ _ _ hl
        refine ⟨?_, ?_, ?_⟩
        · rw [h1.1, h2.1]; simp
        · simp [h1.2, h2.2.1]
        · simp [h2.2.2]
      · cases h
    · cases h

theorem parse_enc : ∀ (s : Sch) (b r : List UInt8) (x : Ty s), parse s b = some (x, r) → b = enc s x ++ r ∧ okay s x = true := by
  intro s
  induction s with
  | num => intro b r x h; exact num_enc h
  | flag =>
    intro b r x h
    simp only [parse] at h
    split at h
    · rename_i n r' he
      have := num_enc he
      split at h
      · rename_i h0
        injection h with h
        obtain ⟨rfl, rfl⟩ := Prod.mk.inj h
        subst h0
        exact ⟨this.1, rfl⟩
      · split at h
        · rename_i h1
          injection h with h
          obtain ⟨rfl, rfl⟩ := Prod.mk.inj h
          subst h1
          exact ⟨this.1, rfl⟩
        · cases h
    · cases h
  | raw =>
    intro b r x h
    simp only [parse] at h
    split at h
    · rename_i n r' he
      split at h
      · rename_i hl
        injection h with h
        obtain ⟨rfl, rfl⟩ := Prod.mk.inj h
        have := many_enc he
        have hlen : (r'.take n).length = n := by simp [hl]
        refine ⟨?_, ?_⟩
        · rw [this.1]
          simp only [enc, hlen]
          simp
        · simp only [okay, hlen]; simp; omega
      · cases h
    · cases h
  | list s ih =>
    intro b r x h
    simp only [parse] at h
    split at h
    · rename_i n r' he
      have h1 := many_enc he
      have h2 := times_enc (fun b x r => ih b r x) _ _ _ _ h
      refine ⟨?_, ?_⟩
      · simp only [enc]; rw [h1.1, h2.1, h2.2.2]; simp
      · simp only [okay, h2.2.1, h2.2.2]; simp; omega
    · cases h
  | unit => intro b r x h; simp only [parse] at h; injection h with h; obtain ⟨rfl, rfl⟩ := Prod.mk.inj h; exact ⟨by simp [enc], rfl⟩
  | pair s t ihs iht =>
    intro b r x h
    simp only [parse] at h
    split at h
    · rename_i y r' hy
      split at h
      · rename_i z r'' hz
        injection h with h
        obtain ⟨rfl, rfl⟩ := Prod.mk.inj h
        have h1 := ihs _ _ _ hy
        have h2 := iht _ _ _ hz
        refine ⟨?_, by simp [okay, h1.2, h2.2]⟩
        simp only [enc]; rw [h1.1, h2.1]; simp
      · cases h
    · cases h

/-- Read to its end, the bytes are what is written of what was read. -/
theorem parse_whole {s : Sch} {b : List UInt8} {x : Ty s} (h : parse s b = some (x, [])) : enc s x = b ∧ okay s x = true := by
  have := parse_enc s b [] x h
  exact ⟨by rw [this.1]; simp, this.2⟩

/-- The reading of a number, byte by byte: the first i bytes go on, and come to acc. -/
def Acc (B : List UInt8) (i acc : Nat) : Prop :=
  i ≤ B.length ∧ acc < 128 ^ i ∧ ∀ k, rd (i + k) B = match rd k (B.drop i) with
    | some (u, r) => if 0 < i ∧ u = 0 then none else some (acc + 128 ^ i * u, r)
    | none => none

theorem Acc.zero (B : List UInt8) : Acc B 0 0 := by
  refine ⟨Nat.zero_le _, by simp, fun k => ?_⟩
  simp only [Nat.zero_add, List.drop_zero]
  cases h : rd k B with
  | none => simp
  | some p => obtain ⟨u, r⟩ := p; simp

theorem Acc.more {B : List UInt8} {i acc : Nat} (h : Acc B i acc) (hi : i < B.length) (hc : 128 ≤ (B[i]).toNat) : Acc B (i + 1) (acc + 128 ^ i * ((B[i]).toNat - 128)) := by
  obtain ⟨h1, h2, h3⟩ := h
  have hlt : (B[i]).toNat < 256 := (B[i]).toNat_lt
  have hp : 0 < 128 ^ i := Nat.pos_of_ne_zero (by simp)
  refine ⟨by omega, ?_, fun k => ?_⟩
  · rw [Nat.pow_succ]
    have : 128 ^ i * ((B[i]).toNat - 128) ≤ 128 ^ i * 127 := Nat.mul_le_mul_left _ (by omega)
    omega
  · rw [show i + 1 + k = i + (k + 1) by omega, h3]
    have hd : B.drop i = B[i] :: B.drop (i + 1) := List.drop_eq_getElem_cons hi
    rw [hd]
    simp only [rd]
    rw [if_neg (by omega)]
    cases hr : rd k (B.drop (i + 1)) with
    | none => simp
    | some p =>
      obtain ⟨u, r⟩ := p
      simp only
      by_cases hu : u = 0
      · simp [hu]
      · have : ¬ (B[i].toNat - 128 + 128 * u = 0) := by omega
        simp only [hu, this, and_false, if_false, and_true, Option.some.injEq, Prod.mk.injEq]
        rw [Nat.pow_succ, Nat.mul_add, Nat.mul_assoc]
        omega

theorem Acc.ends {B : List UInt8} {i acc : Nat} (h : Acc B i acc) (hi : i < B.length) (h6 : i < 6) (hc : (B[i]).toNat < 128) :
    rd 6 B = if 0 < i ∧ (B[i]).toNat = 0 then none else some (acc + 128 ^ i * (B[i]).toNat, B.drop (i + 1)) := by
  obtain ⟨h1, h2, h3⟩ := h
  have hd : B.drop i = B[i] :: B.drop (i + 1) := List.drop_eq_getElem_cons hi
  have := h3 (6 - i)
  rw [show i + (6 - i) = 6 by omega] at this
  rw [this, hd, show 6 - i = (5 - i) + 1 by omega]
  simp only [rd]
  rw [if_pos hc]

theorem Acc.short {B : List UInt8} {i acc : Nat} (h : Acc B i acc) (hi : i = 6 ∨ i ≤ 6 ∧ i = B.length) : rd 6 B = none := by
  obtain ⟨h1, h2, h3⟩ := h
  rcases hi with rfl | ⟨h6, rfl⟩
  · have := h3 0
    simpa [rd] using this
  · have := h3 (6 - B.length)
    rw [show B.length + (6 - B.length) = 6 by omega] at this
    rw [this]
    simp
    cases hk : 6 - B.length <;> simp [rd]

/-! ### What a call may turn -/
/-- w' is w, but for the cells that T names, and for new blocks. -/
structure Upd (T : Nat → Nat → Prop) (w w' : World) : Prop where
  os : w'.os = w.os
  tape : w'.tape = w.tape
  output : w'.output = w.output
  size : w.heap.size ≤ w'.heap.size
  cell : ∀ b o, b < w.heap.size → ¬ T b o → w'.cell? ⟨b, o, none⟩ = w.cell? ⟨b, o, none⟩
  frozen : ∀ b o, b < w.heap.size → w'.frozen? ⟨b, o, none⟩ = w.frozen? ⟨b, o, none⟩
  block : ∀ b, b < w.heap.size → (∀ o, ¬ T b o) → w'.heap[b]? = w.heap[b]?

theorem Upd.refl (T : Nat → Nat → Prop) (w : World) : Upd T w w := ⟨rfl, rfl, rfl, Nat.le_refl _, fun _ _ _ _ => rfl, fun _ _ _ => rfl, fun _ _ _ => rfl⟩

theorem Upd.trans {T : Nat → Nat → Prop} {a b c : World} (h : Upd T a b) (k : Upd T b c) : Upd T a c :=
  ⟨k.os.trans h.os, k.tape.trans h.tape, k.output.trans h.output, Nat.le_trans h.size k.size,
    fun x o hx hT => (k.cell x o (Nat.lt_of_lt_of_le hx h.size) hT).trans (h.cell x o hx hT),
    fun x o hx => (k.frozen x o (Nat.lt_of_lt_of_le hx h.size)).trans (h.frozen x o hx),
    fun x hx hT => (k.block x (Nat.lt_of_lt_of_le hx h.size) hT).trans (h.block x hx hT)⟩

/-- What the second may turn of the first's world is named by the first, too. -/
theorem Upd.then {T T' : Nat → Nat → Prop} {a b c : World} (h : Upd T a b) (k : Upd T' b c) (hT : ∀ x o, x < a.heap.size → T' x o → T x o) : Upd T a c :=
  ⟨k.os.trans h.os, k.tape.trans h.tape, k.output.trans h.output, Nat.le_trans h.size k.size,
    fun x o hx hn => (k.cell x o (Nat.lt_of_lt_of_le hx h.size) (fun hq => hn (hT x o hx hq))).trans (h.cell x o hx hn),
    fun x o hx => (k.frozen x o (Nat.lt_of_lt_of_le hx h.size)).trans (h.frozen x o hx),
    fun x hx hn => (k.block x (Nat.lt_of_lt_of_le hx h.size) (fun o hq => hn o (hT x o hx hq))).trans (h.block x hx hn)⟩

theorem Upd.mono {T T' : Nat → Nat → Prop} {a b : World} (h : Upd T a b) (hT : ∀ x o, x < a.heap.size → T x o → T' x o) : Upd T' a b :=
  (Upd.refl T' a).then h hT

theorem Upd.drewN {T : Nat → Nat → Prop} {a b : World} (h : Upd T a b) (n : Nat) : Upd T a (b.drewN n) := h.trans ⟨rfl, rfl, rfl, Nat.le_refl _, fun _ _ _ _ => rfl, fun _ _ _ => rfl, fun _ _ _ => rfl⟩
theorem Upd.drew {T : Nat → Nat → Prop} {a b : World} (h : Upd T a b) : Upd T a b.drew := h.drewN 1

theorem Upd.alloc {T : Nat → Nat → Prop} {a b : World} (h : Upd T a b) (o : Obj) : Upd T a (b.alloc o) :=
  h.trans ⟨rfl, rfl, rfl, by simp, fun x i hx _ => World.cell?_alloc_lt _ _ _ hx, fun x i hx => World.frozen?_alloc_old _ _ _ (Nat.ne_of_lt hx),
    fun x hx _ => Below.heap_alloc _ _ _ hx⟩

theorem Upd.setCell {T : Nat → Nat → Prop} {a b : World} (h : Upd T a b) (x i : Nat) (hT : x < a.heap.size → T x i) (v : Value) : Upd T a (b.setCell ⟨x, i, none⟩ v) :=
  h.then (T' := fun y j => y = x ∧ j = i) ⟨rfl, rfl, rfl, by simp,
      fun y j _ hn => World.cell?_setCell_other _ _ _ _ (fun e => hn (by injection e with e1 e2; exact ⟨e1.symm, e2.symm⟩)),
      fun y j _ => World.frozen?_setCell _ _ _ _,
      fun y _ hn => Below.heap_setCell _ _ _ _ (fun e => hn i ⟨e, rfl⟩)⟩
    (fun y j hy ⟨h1, h2⟩ => by subst h1; subst h2; exact hT hy)

theorem Upd.grown {T : Nat → Nat → Prop} {a b c : World} (h : Upd T a b) {row : Option Nat} (hg : b.grownBy c row) (hr : ∀ k, row = some k → k < a.heap.size → ∀ o, T k o)
    (hf : ∀ k, row = some k → ∀ o, c.frozen? ⟨k, o, none⟩ = b.frozen? ⟨k, o, none⟩) : Upd T a c := by
  refine h.then (T' := fun y _ => row = some y) ⟨hg.os, hg.tape, hg.output, hg.size, ?_, ?_, ?_⟩ (fun y o hy e => hr y e hy o)
  · intro y o hy hn
    exact World.cell?_of_block (hg.block y hy (fun e => hn e.symm))
  · intro y o hy
    by_cases e : row = some y
    · exact hf y e o
    · exact World.frozen?_of_block (hg.block y hy (fun e' => e e'.symm))
  · intro y hy hn
    exact hg.block y hy (fun e => hn 0 e.symm)

theorem Upd.below {T : Nat → Nat → Prop} {w w' : World} {B : Nat} (h : Upd T w w') (hB : B ≤ w.heap.size) (hT : ∀ b o, T b o → B ≤ b) : Below B w w' :=
  ⟨h.os, h.tape, h.output, h.size, fun k hk => h.block k (by omega) (fun o ht => by have := hT k o ht; omega)⟩

/-! ### A row of cells -/
/-- From cell o of block b on stand these values. -/
def At (w : World) (b o : Nat) (vs : List Value) : Prop := ∀ i v, vs[i]? = some v → w.cell? ⟨b, o + i, none⟩ = some v
/-- They may be written. -/
def Free (w : World) (b o n : Nat) : Prop := ∀ i, i < n → w.frozen? ⟨b, o + i, none⟩ = false

theorem At.get {w : World} {b o : Nat} {vs : List Value} (h : At w b o vs) (i : Nat) {v : Value} (hv : vs[i]? = some v) : w.cell? ⟨b, o + i, none⟩ = some v := h i v hv
theorem At.lt {w : World} {b o : Nat} {vs : List Value} (h : At w b o vs) (hp : 0 < vs.length) : b < w.heap.size :=
  World.block_lt_of_cell? w ⟨b, o + 0, none⟩ (h 0 _ (List.getElem?_eq_getElem hp))

theorem At.left {w : World} {b o : Nat} {us vs : List Value} (h : At w b o (us ++ vs)) : At w b o us := fun i v hv =>
  h i v (by rw [List.getElem?_append_left (List.getElem?_eq_some_iff.1 hv).1]; exact hv)
theorem At.right {w : World} {b o n : Nat} {us vs : List Value} (h : At w b o (us ++ vs)) (hn : us.length = n) : At w b (o + n) vs := fun i v hv => by
  have := h (n + i) v (by rw [List.getElem?_append_right (by omega)]; simpa [hn] using hv)
  rwa [← Nat.add_assoc] at this
theorem At.append {w : World} {b o n : Nat} {us vs : List Value} (h : At w b o us) (hn : us.length = n) (k : At w b (o + n) vs) : At w b o (us ++ vs) := fun i v hv => by
  rcases Nat.lt_or_ge i us.length with hi | hi
  · rw [List.getElem?_append_left hi] at hv
    exact h i v hv
  · rw [List.getElem?_append_right hi] at hv
    have := k (i - us.length) v hv
    rwa [show o + n + (i - us.length) = o + i by omega] at this
theorem At.nil (w : World) (b o : Nat) : At w b o [] := fun i v hv => by simp at hv
theorem At.one {w : World} {b o : Nat} {v : Value} (h : w.cell? ⟨b, o, none⟩ = some v) : At w b o [v] := fun i u hu => by
  match i, hu with
  | 0, hu => simp at hu; subst hu; exact h
theorem At.head {w : World} {b o : Nat} {v : Value} {vs : List Value} (h : At w b o (v :: vs)) : w.cell? ⟨b, o, none⟩ = some v := h 0 v rfl
theorem At.tail {w : World} {b o : Nat} {v : Value} {vs : List Value} (h : At w b o (v :: vs)) : At w b (o + 1) vs := At.right (us := [v]) h rfl
theorem At.cons {w : World} {b o : Nat} {v : Value} {vs : List Value} (h : w.cell? ⟨b, o, none⟩ = some v) (k : At w b (o + 1) vs) : At w b o (v :: vs) := At.append (At.one h) rfl k
theorem Free.left {w : World} {b o n m : Nat} (h : Free w b o n) (hm : m ≤ n) : Free w b o m := fun i hi => h i (by omega)
theorem Free.right {w : World} {b o n m k : Nat} (h : Free w b o n) (hm : m + k ≤ n) : Free w b (o + m) k := fun i hi => by rw [Nat.add_assoc]; exact h (m + i) (by omega)
theorem Free.head {w : World} {b o n : Nat} (h : Free w b o n) (hn : 0 < n) : w.frozen? ⟨b, o, none⟩ = false := h 0 hn

theorem Upd.at {T : Nat → Nat → Prop} {w w' : World} (h : Upd T w w') {b o : Nat} {vs : List Value} (hA : At w b o vs) (hT : ∀ i, i < vs.length → ¬ T b (o + i)) : At w' b o vs := fun i v hv =>
  (h.cell b (o + i) (World.block_lt_of_cell? w _ (hA i v hv)) (hT i (List.getElem?_eq_some_iff.1 hv).1)).trans (hA i v hv)
theorem Upd.free {T : Nat → Nat → Prop} {w w' : World} (h : Upd T w w') {b o n : Nat} (hb : b < w.heap.size) (hF : Free w b o n) : Free w' b o n := fun i hi => (h.frozen b (o + i) hb).trans (hF i hi)

theorem At.new (w : World) (cs : Array Value) (t : TypeId) : At (w.alloc (.cells cs t)) w.heap.size 0 cs.toList := fun i v hv => by
  rw [Nat.zero_add, World.cell?_alloc_new]
  simpa using hv
theorem Free.new (w : World) (cs : Array Value) (t : TypeId) (n : Nat) : Free (w.alloc (.cells cs t)) w.heap.size 0 n := fun _ _ => World.frozen?_alloc_new _ _ _ _

/-- A cell that is written with what it holds: nothing turns. -/
theorem setCell_self {w : World} {a : Addr} {v : Value} (h : w.cell? a = some v) : w.setCell a v = w := by
  have hb := World.block_lt_of_cell? w a h
  unfold World.cell? at h
  have e : (w.setCell a v).heap = w.heap := by
    unfold World.setCell
    apply Array.ext
    · simp
    · intro i h1 h2
      rw [Array.getElem_modify]
      split
      · rename_i hi
        subst hi
        rw [Array.getElem?_eq_getElem hb] at h
        split at h
        · rename_i c t f hc
          injection hc with hc
          rw [hc]
          simp only
          split at h
          · cases h
          · rename_i hs
            rw [if_neg hs]
            congr 1
            apply Array.ext
            · simp
            · intro j h3 h4
              rw [Array.getElem_setIfInBounds]
              split
              · rename_i hj
                subst hj
                rw [Array.getElem?_eq_getElem h4] at h
                injection h with h
                exact h.symm
              · rfl
        · cases h
      · rfl
  have e' : w.setCell a v = { w with heap := (w.setCell a v).heap } := rfl
  rw [e', e]

/-! ### What is laid in memory for a record -/
/-- The element at a place. -/
abbrev nth {α : Type} (l : List α) (i : Nat) : Option α := l[i]?

def szc : Sch → Nat
  | .num => 1
  | .flag => 1
  | .raw => 1
  | .list _ => 1
  | .unit => 0
  | .pair a b => szc a + szc b
/-- The cells of a record that nobody has written. -/
def zeroc : Sch → List Value
  | .num => [.int .i64 0]
  | .flag => [.bool false]
  | .raw => [.slice none 0 0]
  | .list _ => [.slice none 0 0]
  | .unit => []
  | .pair a b => zeroc a ++ zeroc b
/-- What such a record holds. -/
def zerov : (s : Sch) → Ty s
  | .num => (0 : Int)
  | .flag => false
  | .raw => []
  | .list _ => []
  | .unit => ()
  | .pair a b => (zerov a, zerov b)

def u8 (c : UInt8) : Value := .int .u8 (c.toNat : Int)

/-- A slice whose elements are these bytes; they lie in a block of F. -/
def Bts (F : Nat → Prop) (w : World) (A : Option Addr) (n : Nat) (l : List UInt8) : Prop :=
  l.length = n ∧ n ≤ 9223372036854775807 ∧ (0 < n → ∃ b o, A = some ⟨b, o, none⟩ ∧ F b ∧ At w b o (l.map u8))

/-- What is laid in memory: cells and what they lead to, in blocks of F. -/
def Lay : (s : Sch) → (F : Nat → Prop) → World → List Value → Ty s → Prop
  | .num, _, _, vs, n => vs = [.int .i64 n]
  | .flag, _, _, vs, b => vs = [.bool b]
  | .raw, F, w, vs, l => ∃ A n c, vs = [.slice A n c] ∧ Bts F w A n l
  | .list s, F, w, vs, l => ∃ A n c, vs = [.slice A n c] ∧ l.length = n ∧ n ≤ 9223372036854775807 ∧ (0 < n → ∃ b o, A = some ⟨b, o, none⟩ ∧ F b ∧ b < w.heap.size ∧
      ∃ wss : List (List Value), wss.length = n ∧ At w b o wss.flatten ∧ ∀ (i : Nat) (ws : List Value) (x : Ty s), wss[i]? = some ws → nth (α := Ty s) l i = some x → Lay s F w ws x)
  | .unit, _, _, vs, _ => vs = []
  | .pair a b, F, w, vs, x => ∃ u v, vs = u ++ v ∧ Lay a F w u x.1 ∧ Lay b F w v x.2

theorem lt_of_kept {w w' : World} {b : Nat} (h : b < w.heap.size) (e : w'.heap[b]? = w.heap[b]?) : b < w'.heap.size := by
  rw [Array.getElem?_eq_getElem h] at e
  exact (Array.getElem?_eq_some_iff.1 e).1

theorem Bts.keep {F F' : Nat → Prop} {w w' : World} {A : Option Addr} {n : Nat} {l : List UInt8} (h : Bts F w A n l) (hF : ∀ b, F b → F' b) (hw : ∀ b, F b → b < w.heap.size → w'.heap[b]? = w.heap[b]?) : Bts F' w' A n l := by
  refine ⟨h.1, h.2.1, fun hn => ?_⟩
  obtain ⟨b, o, rfl, hb, hA⟩ := h.2.2 hn
  refine ⟨b, o, rfl, hF b hb, fun i v hv => ?_⟩
  have := hA i v hv
  rw [← this]
  exact World.cell?_of_block (hw b hb (World.block_lt_of_cell? w _ this))

theorem Bts.nil (F : Nat → Prop) (w : World) (A : Option Addr) : Bts F w A 0 [] := ⟨rfl, by omega, fun h => absurd h (by omega)⟩

theorem Lay.keep : ∀ (s : Sch) {F F' : Nat → Prop} {w w' : World} {vs : List Value} {x : Ty s}, Lay s F w vs x → (∀ b, F b → F' b) → (∀ b, F b → b < w.heap.size → w'.heap[b]? = w.heap[b]?) → Lay s F' w' vs x := by
  intro s
  induction s with
  | num => intro F F' w w' vs x h _ _; simpa only [Lay] using h
  | flag => intro F F' w w' vs x h _ _; simpa only [Lay] using h
  | raw =>
    intro F F' w w' vs x h hF hw
    obtain ⟨A, n, c, e, hb⟩ := h
    exact ⟨A, n, c, e, hb.keep hF hw⟩
  | list s ih =>
    intro F F' w w' vs x h hF hw
    obtain ⟨A, n, c, e, hl, hm, hp⟩ := h
    refine ⟨A, n, c, e, hl, hm, fun hn => ?_⟩
    obtain ⟨b, o, rfl, hb, hlt, wss, hwl, hA, hL⟩ := hp hn
    refine ⟨b, o, rfl, hF b hb, lt_of_kept hlt (hw b hb hlt), wss, hwl, fun i v hv => ?_, fun i ws x h1 h2 => ih (hL i ws x h1 h2) hF hw⟩
    have := hA i v hv
    rw [← this]
    exact World.cell?_of_block (hw b hb (World.block_lt_of_cell? w _ this))
  | unit => intro F F' w w' vs x h _ _; simpa only [Lay] using h
  | pair a b iha ihb =>
    intro F F' w w' vs x h hF hw
    obtain ⟨u, v, e, h1, h2⟩ := h
    exact ⟨u, v, e, iha h1 hF hw, ihb h2 hF hw⟩

/-- What is laid lies in blocks that there are. -/
theorem Lay.within : ∀ (s : Sch) {F : Nat → Prop} {w : World} {vs : List Value} {x : Ty s}, Lay s F w vs x → Lay s (fun k => F k ∧ k < w.heap.size) w vs x := by
  intro s
  induction s with
  | num => intro F w vs x h; simpa only [Lay] using h
  | flag => intro F w vs x h; simpa only [Lay] using h
  | raw =>
    intro F w vs x h
    obtain ⟨A, n, c, e, h1, h2, h3⟩ := h
    refine ⟨A, n, c, e, h1, h2, fun hn => ?_⟩
    obtain ⟨b, o, rfl, hb, hA⟩ := h3 hn
    exact ⟨b, o, rfl, ⟨hb, hA.lt (by rw [List.length_map]; omega)⟩, hA⟩
  | list s ih =>
    intro F w vs x h
    obtain ⟨A, n, c, e, hl, hm, hp⟩ := h
    refine ⟨A, n, c, e, hl, hm, fun hn => ?_⟩
    obtain ⟨b, o, rfl, hb, hlt, wss, hwl, hA, hL⟩ := hp hn
    exact ⟨b, o, rfl, ⟨hb, hlt⟩, hlt, wss, hwl, hA, fun i ws x h1 h2 => ih (hL i ws x h1 h2)⟩
  | unit => intro F w vs x h; simpa only [Lay] using h
  | pair a b iha ihb =>
    intro F w vs x h
    obtain ⟨u, v, e, h1, h2⟩ := h
    exact ⟨u, v, e, iha h1, ihb h2⟩

theorem Lay.len : ∀ (s : Sch) {F : Nat → Prop} {w : World} {vs : List Value} {x : Ty s}, Lay s F w vs x → vs.length = szc s := by
  intro s
  induction s with
  | num => intro F w vs x h; simp only [Lay] at h; rw [h]; rfl
  | flag => intro F w vs x h; simp only [Lay] at h; rw [h]; rfl
  | raw => intro F w vs x h; obtain ⟨A, n, c, e, _⟩ := h; rw [e]; rfl
  | list s _ => intro F w vs x h; obtain ⟨A, n, c, e, _⟩ := h; rw [e]; rfl
  | unit => intro F w vs x h; simp only [Lay] at h; rw [h]; rfl
  | pair a b iha ihb =>
    intro F w vs x h
    obtain ⟨u, v, e, h1, h2⟩ := h
    rw [e, List.length_append, iha h1, ihb h2]; rfl

/-- No struct, no row of results: what one cell may hold. -/
def One (v : Value) : Prop := v.oneCell' = true

theorem Lay.one : ∀ (s : Sch) {F : Nat → Prop} {w : World} {vs : List Value} {x : Ty s}, Lay s F w vs x → ∀ v ∈ vs, One v := by
  intro s
  induction s with
  | num => intro F w vs x h v hv; simp only [Lay] at h; rw [h] at hv; simp at hv; subst hv; rfl
  | flag => intro F w vs x h v hv; simp only [Lay] at h; rw [h] at hv; simp at hv; subst hv; rfl
  | raw => intro F w vs x h v hv; obtain ⟨A, n, c, e, _⟩ := h; rw [e] at hv; simp at hv; subst hv; rfl
  | list s _ => intro F w vs x h v hv; obtain ⟨A, n, c, e, _⟩ := h; rw [e] at hv; simp at hv; subst hv; rfl
  | unit => intro F w vs x h v hv; simp only [Lay] at h; rw [h] at hv; simp at hv
  | pair a b iha ihb =>
    intro F w vs x h v hv
    obtain ⟨u, v', e, h1, h2⟩ := h
    rw [e] at hv
    rcases List.mem_append.1 hv with hv | hv
    · exact iha h1 v hv
    · exact ihb h2 v hv

theorem zeroc_len : ∀ s : Sch, (zeroc s).length = szc s := by
  intro s
  induction s with
  | pair a b iha ihb => simp [zeroc, szc, iha, ihb]
  | _ => rfl

theorem Lay.zero : ∀ (s : Sch) (F : Nat → Prop) (w : World), Lay s F w (zeroc s) (zerov s) := by
  intro s
  induction s with
  | num => intro F w; simp only [Lay, zeroc, zerov]
  | flag => intro F w; simp only [Lay, zeroc, zerov]
  | raw => intro F w; exact ⟨none, 0, 0, rfl, Bts.nil F w none⟩
  | list s _ => intro F w; exact ⟨none, 0, 0, rfl, rfl, by omega, fun h => absurd h (by omega)⟩
  | unit => intro F w; simp only [Lay, zeroc]
  | pair a b iha ihb => intro F w; exact ⟨zeroc a, zeroc b, rfl, iha F w, ihb F w⟩

theorem okay_zero : ∀ s : Sch, okay s (zerov s) = true := by
  intro s
  induction s with
  | pair a b iha ihb => simp [zerov, okay, iha, ihb]
  | _ => rfl

/-! ### The reader -/
/-- A form that reads: the bytes that are left, and whether it is bad. -/
def FormR (F : Nat → Prop) (w : World) (bf : Nat) (B : List UInt8) (bad : Bool) : Prop :=
  Free w bf 0 3 ∧ ∃ A n c, At w bf 0 [.slice A n c, .bool true, .bool bad] ∧ n ≤ c ∧ Bts F w A n B

/-- What a reader of form s may turn. -/
def TR (bf b o n : Nat) : Nat → Nat → Prop := fun b' o' => b' = bf ∨ (b' = b ∧ o ≤ o' ∧ o' < o + n)

/-- What a reader of form s does: from w to w', from the bytes B to B'. -/
structure RdP (s : Sch) (F : Nat → Prop) (w w' : World) (bf b o : Nat) (B : List UInt8) (bad : Bool) (B' : List UInt8) (bad' : Bool) : Prop where
  upd : Upd (TR bf b o (szc s)) w w'
  form : FormR F w' bf B' bad'
  stays : bad = true → bad' = true
  cells : ∃ vs x, At w' b o vs ∧ Lay s (fun k => w.heap.size ≤ k) w' vs x ∧
    (bad = false → match parse s B with
      | some (y, r) => bad' = false ∧ B' = r ∧ x = y
      | none => bad' = true)

/-- What must hold ahead of a reader. -/
structure RdH (s : Sch) (F : Nat → Prop) (w : World) (bf b o : Nat) (B : List UInt8) (bad : Bool) : Prop where
  form : FormR F w bf B bad
  at_ : At w b o (zeroc s)
  free : Free w b o (szc s)
  nbf : ¬ F bf
  nb : ¬ F b
  ne : b ≠ bf
  lt : b < w.heap.size
  lf : bf < w.heap.size
  old : ∀ k, F k → k < w.heap.size

/-- How a reader ends. -/
def RdEnd (s : Sch) (F : Nat → Prop) (w : World) (bf b o : Nat) (B : List UInt8) (bad : Bool) (e : Ending) (w' : World) : Prop :=
  e = .returned (.tuple #[]) ∧ ∃ B' bad', RdP s F w w' bf b o B bad B' bad'
/-- The contract of a reader. -/
def RdC (P : Program) (f : FuncId) (s : Sch) : Prop :=
  ∀ (F : Nat → Prop) (w : World) (bf b o : Nat) (B : List UInt8) (bad : Bool), RdH s F w bf b o B bad →
    Calls P f #[.pointer (some ⟨bf, 0, none⟩), .pointer (some ⟨b, o, none⟩)] w (RdEnd s F w bf b o B bad)

/-- The first reader's end is the second one's begin. -/
theorem RdP.next {s t : Sch} {F : Nat → Prop} {w w' : World} {bf b o : Nat} {B B' : List UInt8} {bad bad' : Bool}
    (h : RdH (.pair s t) F w bf b o B bad) (k : RdP s F w w' bf b o B bad B' bad') : RdH t F w' bf b (o + szc s) B' bad' where
  form := k.form
  at_ := k.upd.at (h.at_.right (zeroc_len s)) (fun i _ => by
    rintro (e | ⟨_, _, e⟩)
    · exact h.ne e
    · omega)
  free := k.upd.free h.lt (h.free.right (by simp [szc]))
  nbf := h.nbf
  nb := h.nb
  ne := h.ne
  lt := Nat.lt_of_lt_of_le h.lt k.upd.size
  lf := Nat.lt_of_lt_of_le h.lf k.upd.size
  old := fun j hj => Nat.lt_of_lt_of_le (h.old j hj) k.upd.size

theorem RdH.first {s t : Sch} {F : Nat → Prop} {w : World} {bf b o : Nat} {B : List UInt8} {bad : Bool} (h : RdH (.pair s t) F w bf b o B bad) : RdH s F w bf b o B bad where
  form := h.form
  at_ := h.at_.left
  free := h.free.left (by simp [szc])
  nbf := h.nbf
  nb := h.nb
  ne := h.ne
  lt := h.lt
  lf := h.lf
  old := h.old

/-- One reader behind the other. -/
theorem RdP.both {s t : Sch} {F : Nat → Prop} {w w1 w2 : World} {bf b o : Nat} {B B1 B2 : List UInt8} {bad bad1 bad2 : Bool} (hne : b ≠ bf) (hb : b < w.heap.size) (hf : bf < w.heap.size)
    (h : RdP s F w w1 bf b o B bad B1 bad1) (k : RdP t F w1 w2 bf b (o + szc s) B1 bad1 B2 bad2) : RdP (.pair s t) F w w2 bf b o B bad B2 bad2 where
  upd := (h.upd.mono (fun x i _ e => by
    rcases e with e | ⟨e1, e2, e3⟩
    · exact .inl e
    · exact .inr ⟨e1, e2, by simp only [szc]; omega⟩)).then k.upd
    (fun x i _ e => by
      rcases e with e | ⟨e1, e2, e3⟩
      · exact .inl e
      · exact .inr ⟨e1, by omega, by simp only [szc]; omega⟩)
  form := k.form
  stays := fun hb => k.stays (h.stays hb)
  cells := by
    obtain ⟨us, x, hAu, hLu, hpu⟩ := h.cells
    obtain ⟨vs, y, hAv, hLv, hpv⟩ := k.cells
    have hu := Lay.len s hLu
    have hAu' : At w2 b o us := k.upd.at hAu (fun i hi => by
      rintro (e | ⟨_, e, _⟩)
      · exact hne e
      · omega)
    refine ⟨us ++ vs, (x, y), hAu'.append hu hAv, ⟨us, vs, rfl, ?_, ?_⟩, ?_⟩
    · refine Lay.keep s hLu (fun _ h => h) (fun k' hk' hlt => k.upd.block k' hlt (fun o' => ?_))
      rintro (e | ⟨e, _, _⟩) <;> omega
    · exact Lay.keep t hLv (fun k' hk' => Nat.le_trans h.upd.size hk') (fun _ _ _ => rfl)
    · intro hbad
      have h1 := hpu hbad
      simp only [parse]
      generalize parse s B = q at h1 ⊢
      cases q with
      | none => exact k.stays h1
      | some p =>
        obtain ⟨rfl, rfl, rfl⟩ := h1
        have h2 := hpv rfl
        simp only
        generalize parse t p.2 = q2 at h2 ⊢
        cases q2 with
        | none => exact h2
        | some p2 => exact ⟨h2.1, h2.2.1, by rw [h2.2.2]⟩

theorem FormR.upd {F : Nat → Prop} {w w' : World} {bf : Nat} {B : List UInt8} {bad : Bool} {T : Nat → Nat → Prop} (h : FormR F w bf B bad) (k : Upd T w w') (h1 : ∀ o, ¬ T bf o) (h2 : ∀ j o, F j → ¬ T j o) : FormR F w' bf B bad := by
  obtain ⟨hf, A, n, c, hA, hn, hb⟩ := h
  have hlt : bf < w.heap.size := hA.lt (by simp)
  exact ⟨k.free hlt hf, A, n, c, k.at hA (fun i _ => h1 _), hn, hb.keep (fun _ h => h) (fun j hj hlt => k.block j hlt (fun o => h2 j o hj))⟩

/-- A new block is read into. -/
theorem RdH.new {s t : Sch} {F : Nat → Prop} {w : World} {bf b o : Nat} {B : List UInt8} {bad : Bool} (h : RdH t F w bf b o B bad) (cs : Array Value) (T : TypeId) (hc : cs.toList = zeroc s) :
    RdH s F (w.alloc (.cells cs T)) bf w.heap.size 0 B bad where
  form := h.form.upd ((Upd.refl (fun _ _ => False) w).alloc _) (fun _ h => h) (fun _ _ _ h => h)
  at_ := hc ▸ At.new w cs T
  free := Free.new w cs T _
  nbf := h.nbf
  nb := fun e => absurd (h.old _ e) (by omega)
  ne := by have := h.lf; omega
  lt := by simp
  lf := by have := h.lf; simp; omega
  old := fun k hk => by have := h.old k hk; simp; omega
/-! ### What a writer comes to -/
def wrN (n : Int) (st : List UInt8 × Bool) : List UInt8 × Bool := if inR n then (st.1 ++ encN n, st.2) else (st.1, true)
def wrM (n most : Nat) (st : List UInt8 × Bool) : List UInt8 × Bool := if n ≤ most then wrN n st else ((wrN n st).1, true)
def wrL {α : Type} (f : α → List UInt8 × Bool → List UInt8 × Bool) : List α → List UInt8 × Bool → List UInt8 × Bool
  | [], st => st
  | x :: l, st => if st.2 then st else wrL f l (f x st)
def wr : (s : Sch) → Ty s → List UInt8 × Bool → List UInt8 × Bool
  | .num, n, st => wrN n st
  | .flag, b, st => wrN (if b then 1 else 0) st
  | .raw, l, st => ((wrM l.length 65536 st).1 ++ l, (wrM l.length 65536 st).2)
  | .list s, l, st => wrL (wr s) l (wrM l.length 64 st)
  | .unit, _, st => st
  | .pair a b, x, st => wr b x.2 (wr a x.1 st)

theorem inR_small {n : Nat} (h : n ≤ 1099511627776) : inR (n : Int) = true := by
  unfold inR
  simp
  omega

theorem wrL_okay {α : Type} {f : α → List UInt8 × Bool → List UInt8 × Bool} {e : α → List UInt8} (l : List α) :
    ∀ (B : List UInt8), (∀ x ∈ l, ∀ B, f x (B, false) = (B ++ e x, false)) → wrL f l (B, false) = (B ++ (l.map e).flatten, false) := by
  induction l with
  | nil => intro B _; simp [wrL]
  | cons x l ih =>
    intro B h
    simp only [wrL]
    rw [h x (List.mem_cons_self ..), if_neg (by simp), ih _ (fun y hy => h y (List.mem_cons_of_mem _ hy))]
    simp

theorem wr_okay : ∀ (s : Sch) (x : Ty s) (B : List UInt8), okay s x = true → wr s x (B, false) = (B ++ enc s x, false) := by
  intro s
  induction s with
  | num => intro x B h; simp only [wr, wrN, okay] at *; rw [if_pos h]; rfl
  | flag => intro x B _; cases x <;> rfl
  | raw =>
    intro x B h
    simp only [okay, decide_eq_true_eq] at h
    simp only [wr, wrM, wrN, h, if_true, inR_small (show x.length ≤ 1099511627776 by omega), enc]
    simp
  | list s ih =>
    intro x B h
    simp only [okay, Bool.and_eq_true, decide_eq_true_eq, List.all_eq_true] at h
    simp only [wr, wrM, wrN, h.1, if_true, inR_small (show x.length ≤ 1099511627776 by omega), enc]
    rw [wrL_okay (e := enc s) x _ (fun y hy B => ih y B (h.2 y hy))]
    simp
  | unit => intro x B _; simp [wr, enc]
  | pair a b iha ihb =>
    intro x B h
    simp only [okay, Bool.and_eq_true] at h
    simp only [wr]
    rw [iha _ _ h.1, ihb _ _ h.2]
    simp [enc]

theorem vint_len : ∀ (k u : Nat), u < 128 ^ (k + 1) → (vint u).length ≤ k + 1 := by
  intro k
  induction k with
  | zero => intro u h; rw [vint, if_pos (by omega)]; simp
  | succ k ih =>
    intro u h
    rw [vint]
    split
    · simp
    · have := ih (u / 128) (by rw [Nat.pow_succ] at h; omega)
      simp
      omega
theorem encN_len {n : Int} (h : inR n = true) : (encN n).length ≤ 6 := by
  refine vint_len 5 _ ?_
  unfold inR at h
  simp at h
  unfold zig
  split <;> omega

/-- How much longer a record lets the bytes grow, at most. -/
def bnd : (s : Sch) → Ty s → Nat
  | .num, _ => 6
  | .flag, _ => 6
  | .raw, l => 6 + l.length
  | .list s, l => 6 + (l.map (bnd s)).sum
  | .unit, _ => 0
  | .pair a b, x => bnd a x.1 + bnd b x.2

theorem wrN_len (n : Int) (st : List UInt8 × Bool) : (wrN n st).1.length ≤ st.1.length + 6 ∧ st.1.length ≤ (wrN n st).1.length := by
  unfold wrN
  split
  · rename_i h
    have := encN_len h
    simp only [List.length_append]
    omega
  · simp
theorem wrM_len (n m : Nat) (st : List UInt8 × Bool) : (wrM n m st).1.length ≤ st.1.length + 6 ∧ st.1.length ≤ (wrM n m st).1.length := by
  unfold wrM
  split
  · exact wrN_len n st
  · exact wrN_len n st
theorem wrL_len {α : Type} {f : α → List UInt8 × Bool → List UInt8 × Bool} {g : α → Nat} (hf : ∀ x st, (f x st).1.length ≤ st.1.length + g x ∧ st.1.length ≤ (f x st).1.length) (l : List α) :
    ∀ st, (wrL f l st).1.length ≤ st.1.length + (l.map g).sum ∧ st.1.length ≤ (wrL f l st).1.length := by
  induction l with
  | nil => intro st; simp [wrL]
  | cons x l ih =>
    intro st
    simp only [wrL]
    split
    · simp
    · have h1 := hf x st
      have h2 := ih (f x st)
      simp only [List.map_cons, List.sum_cons]
      omega
theorem wr_len : ∀ (s : Sch) (x : Ty s) (st : List UInt8 × Bool), (wr s x st).1.length ≤ st.1.length + bnd s x ∧ st.1.length ≤ (wr s x st).1.length := by
  intro s
  induction s with
  | num => intro x st; exact wrN_len _ _
  | flag => intro x st; exact wrN_len _ _
  | raw => intro x st; have := wrM_len x.length 65536 st; simp only [wr, bnd, List.length_append]; omega
  | list s ih =>
    intro x st
    have h1 := wrM_len x.length 64 st
    have h2 := wrL_len (fun y st => ih y st) x (wrM x.length 64 st)
    simp only [wr, bnd]
    omega
  | unit => intro x st; simp [wr, bnd]
  | pair a b iha ihb =>
    intro x st
    have h1 := iha x.1 st
    have h2 := ihb x.2 (wr a x.1 st)
    simp only [wr, bnd]
    omega

/-- What is bad stays bad. -/
theorem wrN_bad (n : Int) (st : List UInt8 × Bool) (h : st.2 = true) : (wrN n st).2 = true := by unfold wrN; split <;> simp [h]
theorem wrM_bad (n m : Nat) (st : List UInt8 × Bool) (h : st.2 = true) : (wrM n m st).2 = true := by unfold wrM; split <;> simp [wrN_bad, h]

/-! ### The writer -/
/-- A form that writes: the bytes so far, and whether it is bad. Its bytes are a row of its own, of type e, in a block from base on. -/
def FormW (e base : Nat) (w : World) (bf : Nat) (v : Value) (B : List UInt8) (bad : Bool) : Prop :=
  Free w bf 0 3 ∧ At w bf 0 [v, .bool false, .bool bad] ∧ w.ownsRow base e 1 v B.length (B.map u8) ∧ bf < base ∧ base ≤ w.heap.size

/-- What a writer may turn. -/
def TW (bf : Nat) (v : Value) : Nat → Nat → Prop := fun b _ => b = bf ∨ v.ownBlock = some b

structure WrH (e base : Nat) (s : Sch) (F : Nat → Prop) (w : World) (bf b o : Nat) (v : Value) (B : List UInt8) (bad : Bool) (vs : List Value) (x : Ty s) : Prop where
  form : FormW e base w bf v B bad
  at_ : At w b o vs
  free : Free w b o (szc s)
  lay : Lay s F w vs x
  sep : ∀ k, F k → k < w.heap.size ∧ k ≠ bf ∧ v.ownBlock ≠ some k
  ne : b ≠ bf
  nv : v.ownBlock ≠ some b
  lt : b < w.heap.size
  len : B.length + bnd s x ≤ 70368744177664

structure WrP (e base : Nat) (s : Sch) (w w' : World) (bf : Nat) (v : Value) (B : List UInt8) (bad : Bool) (x : Ty s) (v' : Value) : Prop where
  upd : Upd (TW bf v) w w'
  form : FormW e base w' bf v' (wr s x (B, bad)).1 (wr s x (B, bad)).2
  own : v'.ownBlock = v.ownBlock ∨ ∃ g, v'.ownBlock = some g ∧ w.heap.size ≤ g

/-- How a writer ends. -/
def WrEnd (e base : Nat) (s : Sch) (w : World) (bf : Nat) (v : Value) (B : List UInt8) (bad : Bool) (x : Ty s) (e' : Ending) (w' : World) : Prop :=
  e' = .returned (.tuple #[]) ∧ ∃ v', WrP e base s w w' bf v B bad x v'
/-- The contract of a writer. -/
def WrC (P : Program) (e : Nat) (f : FuncId) (s : Sch) : Prop :=
  ∀ (base : Nat) (F : Nat → Prop) (w : World) (bf b o : Nat) (v : Value) (B : List UInt8) (bad : Bool) (vs : List Value) (x : Ty s), WrH e base s F w bf b o v B bad vs x →
    Calls P f #[.pointer (some ⟨bf, 0, none⟩), .pointer (some ⟨b, o, none⟩)] w (WrEnd e base s w bf v B bad x)

theorem WrH.first {e base : Nat} {s t : Sch} {F : Nat → Prop} {w : World} {bf b o : Nat} {v : Value} {B : List UInt8} {bad : Bool} {vs : List Value} {x : Ty (.pair s t)} (h : WrH e base (.pair s t) F w bf b o v B bad vs x) :
    ∃ us vs', vs = us ++ vs' ∧ us.length = szc s ∧ WrH e base s F w bf b o v B bad us x.1 := by
  obtain ⟨us, vs', rfl, h1, h2⟩ := h.lay
  exact ⟨us, vs', rfl, Lay.len s h1, h.form, h.at_.left, h.free.left (by simp [szc]), h1, h.sep, h.ne, h.nv, h.lt, by have := h.len; simp only [bnd] at this; omega⟩

theorem WrP.next {e base : Nat} {s t : Sch} {F : Nat → Prop} {w w' : World} {bf b o : Nat} {v v' : Value} {B : List UInt8} {bad : Bool} {vs : List Value} {x : Ty (.pair s t)}
    (h : WrH e base (.pair s t) F w bf b o v B bad vs x) (k : WrP e base s w w' bf v B bad x.1 v') :
    ∃ ws, WrH e base t F w' bf b (o + szc s) v' (wr s x.1 (B, bad)).1 (wr s x.1 (B, bad)).2 ws x.2 := by
  obtain ⟨us, ws, rfl, h1, h2⟩ := h.lay
  have hk : ∀ k, F k → w'.heap[k]? = w.heap[k]? := fun j hj => k.upd.block j (h.sep j hj).1 (fun _ => by
    rintro (e | e)
    · exact (h.sep j hj).2.1 e
    · exact (h.sep j hj).2.2 e)
  refine ⟨ws, k.form, k.upd.at (h.at_.right (Lay.len s h1)) (fun i _ => ?_), k.upd.free h.lt (h.free.right (by simp [szc])), Lay.keep t h2 (fun _ h => h) (fun j hj _ => hk j hj), ?_, h.ne, ?_, Nat.lt_of_lt_of_le h.lt k.upd.size, ?_⟩
  · rintro (e | e)
    · exact h.ne e
    · exact h.nv e
  · intro j hj
    obtain ⟨h3, h4, h5⟩ := h.sep j hj
    refine ⟨Nat.lt_of_lt_of_le h3 k.upd.size, h4, ?_⟩
    rcases k.own with e | ⟨g, e, hg⟩
    · rw [e]; exact h5
    · rw [e]; intro e'; injection e' with e'; omega
  · rcases k.own with e | ⟨g, e, hg⟩
    · rw [e]; exact h.nv
    · rw [e]; intro e'; injection e' with e'; have := h.lt; omega
  · have h3 := h.len
    have h4 := (wr_len s x.1 (B, bad)).1
    simp only [bnd] at h3
    simp only at h4
    omega

theorem WrP.both {e base : Nat} {s t : Sch} {w w1 w2 : World} {bf : Nat} {v v1 v2 : Value} {B : List UInt8} {bad : Bool} {x : Ty (.pair s t)}
    (h : WrP e base s w w1 bf v B bad x.1 v1) (k : WrP e base t w1 w2 bf v1 (wr s x.1 (B, bad)).1 (wr s x.1 (B, bad)).2 x.2 v2) : WrP e base (.pair s t) w w2 bf v B bad x v2 where
  upd := h.upd.then k.upd (fun y o hy => by
    rintro (e | e)
    · exact .inl e
    · rcases h.own with e' | ⟨g, e', hg⟩
      · exact .inr (e' ▸ e)
      · rw [e'] at e; injection e with e; omega)
  form := by simpa only [wr] using k.form
  own := by
    rcases k.own with e | ⟨g, e, hg⟩
    · rcases h.own with e' | ⟨g, e', hg⟩
      · exact .inl (e.trans e')
      · exact .inr ⟨g, e.trans e', hg⟩
    · exact .inr ⟨g, e, Nat.le_trans h.upd.size hg⟩
/-! ### The document's reader -/
/-- A reader In: the bytes that are left, and whether it is bad. -/
def InR (F : Nat → Prop) (w : World) (bx : Nat) (B : List UInt8) (bad : Bool) : Prop :=
  Free w bx 0 2 ∧ ∃ A n c, At w bx 0 [.slice A n c, .bool bad] ∧ n ≤ c ∧ Bts F w A n B

/-- What reading a record of form s comes to. -/
structure InP (s : Sch) (F : Nat → Prop) (w w' : World) (bx : Nat) (B : List UInt8) (bad : Bool) (B' : List UInt8) (bad' : Bool) (vs : List Value) (x : Ty s) : Prop where
  upd : Upd (fun b _ => b = bx) w w'
  form : InR F w' bx B' bad'
  lay : Lay s (fun k => w.heap.size ≤ k) w' vs x
  okay : okay s x = true
  stays : bad = true → bad' = true
  reads : bad = false → match parse s B with
    | some (y, r) => bad' = false ∧ B' = r ∧ x = y
    | none => bad' = true

structure InH (F : Nat → Prop) (w : World) (bx : Nat) (B : List UInt8) (bad : Bool) : Prop where
  form : InR F w bx B bad
  nf : ¬ F bx
  lt : bx < w.heap.size

theorem InP.next {s : Sch} {F : Nat → Prop} {w w' : World} {bx : Nat} {B B' : List UInt8} {bad bad' : Bool} {vs : List Value} {x : Ty s} (h : InH F w bx B bad) (k : InP s F w w' bx B bad B' bad' vs x) : InH F w' bx B' bad' :=
  ⟨k.form, h.nf, Nat.lt_of_lt_of_le h.lt k.upd.size⟩

theorem InP.both {s t : Sch} {F : Nat → Prop} {w w1 w2 : World} {bx : Nat} {B B1 B2 : List UInt8} {bad bad1 bad2 : Bool} {us vs : List Value} {x : Ty s} {y : Ty t} (hx : bx < w.heap.size)
    (h : InP s F w w1 bx B bad B1 bad1 us x) (k : InP t F w1 w2 bx B1 bad1 B2 bad2 vs y) : InP (.pair s t) F w w2 bx B bad B2 bad2 (us ++ vs) (x, y) where
  upd := h.upd.trans k.upd
  form := k.form
  lay := ⟨us, vs, rfl, Lay.keep s h.lay (fun _ h => h) (fun j hj hlt => k.upd.block j hlt (fun _ e => by omega)), Lay.keep t k.lay (fun j hj => Nat.le_trans h.upd.size hj) (fun _ _ _ => rfl)⟩
  okay := by simp [Cod.okay, h.okay, k.okay]
  stays := fun hb => k.stays (h.stays hb)
  reads := fun hb => by
    have h1 := h.reads hb
    simp only [parse]
    split at h1
    · rename_i x' r hx'
      obtain ⟨rfl, rfl, rfl⟩ := h1
      have h2 := k.reads rfl
      split at h2
      · exact ⟨h2.1, h2.2.1, by rw [h2.2.2]⟩
      · exact h2
    · exact k.stays h1

theorem InP.unit {F : Nat → Prop} {w : World} {bx : Nat} {B : List UInt8} {bad : Bool} (h : InR F w bx B bad) : InP .unit F w w bx B bad B bad [] () where
  upd := Upd.refl _ _
  form := h
  lay := rfl
  okay := rfl
  stays := fun h => h
  reads := fun h => ⟨h, rfl, rfl⟩

/-- How a reader of the document's ends. -/
def InEnd (s : Sch) (F : Nat → Prop) (w : World) (bx : Nat) (B : List UInt8) (bad : Bool) (val : List Value → Value) (e : Ending) (w' : World) : Prop :=
  ∃ vs x B' bad', e = .returned (val vs) ∧ InP s F w w' bx B bad B' bad' vs x
/-- Whoever reads a record, as a value. -/
def InC (P : Program) (f : FuncId) (s : Sch) (val : List Value → Value) : Prop :=
  ∀ (F : Nat → Prop) (w : World) (bx : Nat) (B : List UInt8) (bad : Bool), InH F w bx B bad →
    Calls P f #[.pointer (some ⟨bx, 0, none⟩)] w (InEnd s F w bx B bad val)

/-! ### The document's writer: of what may be written -/
def OutW (e base : Nat) (w : World) (bf : Nat) (v : Value) (B : List UInt8) : Prop :=
  Free w bf 0 2 ∧ At w bf 0 [v, .bool false] ∧ w.ownsRow base e 1 v B.length (B.map u8) ∧ bf < base ∧ base ≤ w.heap.size

structure OuH (e base : Nat) (s : Sch) (F : Nat → Prop) (w : World) (bf : Nat) (v : Value) (B : List UInt8) (vs : List Value) (x : Ty s) : Prop where
  form : OutW e base w bf v B
  lay : Lay s F w vs x
  sep : ∀ k, F k → k < w.heap.size ∧ k ≠ bf ∧ v.ownBlock ≠ some k
  okay : Cod.okay s x = true
  len : B.length + bnd s x ≤ 70368744177664

structure OuP (e base : Nat) (s : Sch) (w w' : World) (bf : Nat) (v : Value) (B : List UInt8) (x : Ty s) (v' : Value) : Prop where
  upd : Upd (TW bf v) w w'
  form : OutW e base w' bf v' (B ++ enc s x)
  own : v'.ownBlock = v.ownBlock ∨ ∃ g, v'.ownBlock = some g ∧ w.heap.size ≤ g

/-- How a writer of the document's ends. -/
def OuEnd (e base : Nat) (s : Sch) (w : World) (bf : Nat) (v : Value) (B : List UInt8) (x : Ty s) (e' : Ending) (w' : World) : Prop :=
  e' = .returned (.tuple #[]) ∧ ∃ v', OuP e base s w w' bf v B x v'
def OuC (P : Program) (e : Nat) (f : FuncId) (s : Sch) (val : List Value → Value) : Prop :=
  ∀ (base : Nat) (F : Nat → Prop) (w : World) (bf : Nat) (v : Value) (B : List UInt8) (vs : List Value) (x : Ty s), OuH e base s F w bf v B vs x →
    Calls P f #[.pointer (some ⟨bf, 0, none⟩), val vs] w (OuEnd e base s w bf v B x)

theorem enc_len : ∀ (s : Sch) (x : Ty s), Cod.okay s x = true → (enc s x).length ≤ bnd s x := by
  intro s x h
  have h1 := wr_okay s x [] h
  have h2 := (wr_len s x ([], false)).1
  rw [h1] at h2
  simpa using h2

theorem OuP.next {e base : Nat} {s t : Sch} {F : Nat → Prop} {w w' : World} {bf : Nat} {v v' : Value} {B : List UInt8} {us vs : List Value} {x : Ty s} {y : Ty t}
    (h : OuH e base s F w bf v B us x) (hl : Lay t F w vs y) (ho : Cod.okay t y = true) (hlen : B.length + bnd s x + bnd t y ≤ 70368744177664)
    (k : OuP e base s w w' bf v B x v') : OuH e base t F w' bf v' (B ++ enc s x) vs y := by
  have hk : ∀ k, F k → w'.heap[k]? = w.heap[k]? := fun j hj => k.upd.block j (h.sep j hj).1 (fun _ => by
    rintro (e | e)
    · exact (h.sep j hj).2.1 e
    · exact (h.sep j hj).2.2 e)
  refine ⟨k.form, Lay.keep t hl (fun _ h => h) (fun j hj _ => hk j hj), ?_, ho, ?_⟩
  · intro j hj
    obtain ⟨h3, h4, h5⟩ := h.sep j hj
    refine ⟨Nat.lt_of_lt_of_le h3 k.upd.size, h4, ?_⟩
    rcases k.own with e | ⟨g, e, hg⟩
    · rw [e]; exact h5
    · rw [e]; intro e'; injection e' with e'; omega
  · have h4 := enc_len s x h.okay
    simp only [List.length_append]
    omega

theorem OuP.both {e base : Nat} {s t : Sch} {w w1 w2 : World} {bf : Nat} {v v1 v2 : Value} {B : List UInt8} {x : Ty s} {y : Ty t}
    (h : OuP e base s w w1 bf v B x v1) (k : OuP e base t w1 w2 bf v1 (B ++ enc s x) y v2) : OuP e base (.pair s t) w w2 bf v B (x, y) v2 where
  upd := h.upd.then k.upd (fun y o hy => by
    rintro (e | e)
    · exact .inl e
    · rcases h.own with e' | ⟨g, e', hg⟩
      · exact .inr (e' ▸ e)
      · rw [e'] at e; injection e with e; omega)
  form := by simpa only [enc, List.append_assoc] using k.form
  own := by
    rcases k.own with e | ⟨g, e, hg⟩
    · rcases h.own with e' | ⟨g, e', hg⟩
      · exact .inl (e.trans e')
      · exact .inr ⟨g, e.trans e', hg⟩
    · exact .inr ⟨g, e, Nat.le_trans h.upd.size hg⟩
/-! ### Lists, element by element -/
/-- Of n elements k have been read: xs; B is left. -/
def Some_ {α : Type} (p : List UInt8 → Option (α × List UInt8)) (n : Nat) (B0 : List UInt8) (k : Nat) (xs : List α) (B : List UInt8) : Prop :=
  k ≤ n ∧ xs.length = k ∧ times p n B0 = match times p (n - k) B with
    | some (l, r) => some (xs ++ l, r)
    | none => none

theorem Some_.zero {α : Type} (p : List UInt8 → Option (α × List UInt8)) (n : Nat) (B : List UInt8) : Some_ p n B 0 [] B := by
  refine ⟨Nat.zero_le _, rfl, ?_⟩
  simp only [Nat.sub_zero, List.nil_append]
  cases times p n B with
  | none => rfl
  | some q => obtain ⟨l, r⟩ := q; rfl

theorem Some_.more {α : Type} {p : List UInt8 → Option (α × List UInt8)} {n : Nat} {B0 : List UInt8} {k : Nat} {xs : List α} {B : List UInt8} (h : Some_ p n B0 k xs B) (hk : k < n) {x : α} {r : List UInt8}
    (hp : p B = some (x, r)) : Some_ p n B0 (k + 1) (xs ++ [x]) r := by
  obtain ⟨h1, h2, h3⟩ := h
  refine ⟨hk, by simp [h2], ?_⟩
  rw [h3, show n - k = (n - (k + 1)) + 1 by omega]
  simp only [times, hp]
  cases times p (n - (k + 1)) r with
  | none => rfl
  | some q => obtain ⟨l, r'⟩ := q; simp

theorem Some_.fails {α : Type} {p : List UInt8 → Option (α × List UInt8)} {n : Nat} {B0 : List UInt8} {k : Nat} {xs : List α} {B : List UInt8} (h : Some_ p n B0 k xs B) (hk : k < n)
    (hp : p B = none) : times p n B0 = none := by
  rw [h.2.2, show n - k = (n - (k + 1)) + 1 by omega]
  simp only [times, hp]

theorem Some_.done {α : Type} {p : List UInt8 → Option (α × List UInt8)} {n : Nat} {B0 : List UInt8} {xs : List α} {B : List UInt8} (h : Some_ p n B0 n xs B) : times p n B0 = some (xs, B) := by
  rw [h.2.2, Nat.sub_self]
  simp [times]

/-- The elements so far, as they lie: cells one behind the other, and what they lead to. -/
def Elems (s : Sch) (F : Nat → Prop) (w : World) (cs : List Value) (xs : List (Ty s)) : Prop :=
  ∃ wss : List (List Value), wss.length = xs.length ∧ cs = wss.flatten ∧ ∀ (i : Nat) (ws : List Value) (x : Ty s), wss[i]? = some ws → nth (α := Ty s) xs i = some x → Lay s F w ws x

theorem Elems.nil (s : Sch) (F : Nat → Prop) (w : World) : Elems s F w [] [] := ⟨[], rfl, rfl, fun i ws x h => by simp at h⟩

theorem Elems.snoc {s : Sch} {F : Nat → Prop} {w : World} {cs vs : List Value} {xs : List (Ty s)} {x : Ty s} (h : Elems s F w cs xs) (hx : Lay s F w vs x) : Elems s F w (cs ++ vs) (xs ++ [x]) := by
  obtain ⟨wss, h1, h2, h3⟩ := h
  refine ⟨wss ++ [vs], by simp [h1], by simp [h2], fun i ws y hw hy => ?_⟩
  unfold nth at *
  rcases Nat.lt_or_ge i wss.length with hi | hi
  · rw [List.getElem?_append_left hi] at hw
    rw [List.getElem?_append_left (by omega)] at hy
    exact h3 i ws y hw hy
  · have hi' : i = wss.length := by
      have := (List.getElem?_eq_some_iff.1 hw).1
      simp at this
      omega
    subst hi'
    simp at hw
    rw [h1] at hy
    simp at hy
    subst hw
    subst hy
    exact hx

theorem Elems.keep {s : Sch} {F F' : Nat → Prop} {w w' : World} {cs : List Value} {xs : List (Ty s)} (h : Elems s F w cs xs) (hF : ∀ b, F b → F' b) (hw : ∀ b, F b → b < w.heap.size → w'.heap[b]? = w.heap[b]?) : Elems s F' w' cs xs := by
  obtain ⟨wss, h1, h2, h3⟩ := h
  exact ⟨wss, h1, h2, fun i ws x h4 h5 => Lay.keep s (h3 i ws x h4 h5) hF hw⟩

theorem Elems.within {s : Sch} {F : Nat → Prop} {w : World} {cs : List Value} {xs : List (Ty s)} (h : Elems s F w cs xs) : Elems s (fun k => F k ∧ k < w.heap.size) w cs xs := by
  obtain ⟨wss, h1, h2, h3⟩ := h
  exact ⟨wss, h1, h2, fun i ws x h4 h5 => Lay.within s (h3 i ws x h4 h5)⟩

theorem flatten_len {n : Nat} : ∀ (wss : List (List Value)), (∀ ws ∈ wss, ws.length = n) → wss.flatten.length = wss.length * n := by
  intro wss
  induction wss with
  | nil => intro _; simp
  | cons ws wss ih =>
    intro h
    simp only [List.flatten_cons, List.length_append, List.length_cons, ih (fun x hx => h x (List.mem_cons_of_mem _ hx)), h ws (List.mem_cons_self ..)]
    rw [Nat.add_mul]
    omega

theorem Elems.len {s : Sch} {F : Nat → Prop} {w : World} {cs : List Value} {xs : List (Ty s)} (h : Elems s F w cs xs) : cs.length = xs.length * szc s := by
  obtain ⟨wss, h1, rfl, h3⟩ := h
  rw [← h1]
  refine flatten_len wss (fun ws hw => ?_)
  obtain ⟨i, hi, rfl⟩ := List.getElem_of_mem hw
  exact Lay.len s (h3 i _ (xs[i]'(by omega)) (List.getElem?_eq_getElem hi) (List.getElem?_eq_getElem (by omega)))

/-- An owned row of such elements is a list that is laid. -/
theorem Lay.owned {s : Sch} {F : Nat → Prop} {w : World} {base e : Nat} {v : Value} {cs : List Value} {xs : List (Ty s)} (h : w.ownsRow base e (szc s) v xs.length cs) (hE : Elems s F w cs xs)
    (hF : ∀ k, v.ownBlock = some k → F k) : Lay (.list s) F w [v] xs := by
  obtain ⟨wss, h1, rfl, h3⟩ := hE
  rcases h.2 with ⟨rfl, h0⟩ | ⟨g, cap, cur, rfl, hg, hh, hnc, hcm, hcs, ht⟩
  · have : xs = [] := List.eq_nil_of_length_eq_zero h0
    subst this
    exact ⟨none, 0, 0, rfl, rfl, by omega, fun h => absurd h (by omega)⟩
  · refine ⟨_, _, _, rfl, rfl, ?_, fun _ => ⟨g, 0, rfl, hF g rfl, (Array.getElem?_eq_some_iff.1 hh).1, wss, h1, ?_, h3⟩⟩
    · unfold maxLen at hcm; omega
    · intro i v hv
      rw [Nat.zero_add]
      have := h.cells (g := g) rfl i v hv
      rwa [show (⟨g, 0, none⟩ : Addr).add i = ⟨g, i, none⟩ by unfold Addr.add; split <;> simp_all] at this

/-- The element at a place of a list that is laid. -/
theorem flatten_at {n : Nat} : ∀ (wss : List (List Value)) (i : Nat), (∀ ws ∈ wss, ws.length = n) → (hi : i < wss.length) → ∀ (j : Nat) (v : Value), (wss[i])[j]? = some v → wss.flatten[i * n + j]? = some v := by
  intro wss
  induction wss with
  | nil => intro i _ hi; simp at hi
  | cons ws wss ih =>
    intro i h hi j v hv
    have hw : ws.length = n := h ws (List.mem_cons_self ..)
    cases i with
    | zero =>
      simp only [List.getElem_cons_zero] at hv
      simp only [List.flatten_cons, Nat.zero_mul, Nat.zero_add]
      rw [List.getElem?_append_left (List.getElem?_eq_some_iff.1 hv).1]
      exact hv
    | succ i =>
      simp only [List.getElem_cons_succ] at hv
      simp only [List.flatten_cons]
      rw [List.getElem?_append_right (by rw [hw, Nat.add_mul]; omega)]
      have := ih i (fun x hx => h x (List.mem_cons_of_mem _ hx)) (by simpa using hi) j v hv
      rw [← this]
      congr 1
      rw [hw, Nat.add_mul]
      omega

theorem Lay.item {s : Sch} {F : Nat → Prop} {w : World} {vs : List Value} {xs : List (Ty s)} (h : Lay (.list s) F w vs xs) (i : Nat) (hi : i < xs.length) :
    ∃ b o c ws, vs = [.slice (some ⟨b, o, none⟩) xs.length c] ∧ F b ∧ b < w.heap.size ∧ ws.length = szc s ∧ At w b (o + i * szc s) ws ∧ Lay s F w ws xs[i] := by
  obtain ⟨A, n, c, rfl, rfl, hm, hp⟩ := h
  obtain ⟨b, o, rfl, hb, hlt, wss, hwl, hA, hL⟩ := hp (by omega)
  have hall : ∀ ws ∈ wss, ws.length = szc s := fun ws hw => by
    obtain ⟨j, hj, rfl⟩ := List.getElem_of_mem hw
    exact Lay.len s (hL j _ (xs[j]'(by omega)) (List.getElem?_eq_getElem hj) (List.getElem?_eq_getElem (by omega)))
  have hiw : i < wss.length := by omega
  refine ⟨b, o, c, wss[i], rfl, hb, hlt, hall _ (List.getElem_mem hiw), fun j v hv => ?_, hL i _ _ (List.getElem?_eq_getElem hiw) (List.getElem?_eq_getElem hi)⟩
  have := hA (i * szc s + j) v (flatten_at wss i hall hiw j v hv)
  rwa [← Nat.add_assoc] at this
/-! ### Bits -/
theorem and127 (x : Nat) (hx : x < 256) : bits .and .u8 (x : Int) 127 = ((x % 128 : Nat) : Int) := by
  have h := u8_and_nat x 127 hx (by omega)
  rw [show ((127 : Nat) : Int) = 127 from rfl] at h
  rw [h, Nat.and_two_pow_sub_one_eq_mod x 7]
theorem or_step (acc x k : Nat) (hk : k < 6) (ha : acc < 128 ^ k) (hx : x < 256) :
    bits .or .u64 (acc : Int) (IntKind.u64.wrap (IntKind.u64.wrap (bits .and .u8 (x : Int) 127) * 2 ^ (7 * k))) = ((acc + 128 ^ k * (x % 128) : Nat) : Int) := by
  have hp : (128 : Nat) ^ k = 2 ^ (7 * k) := by rw [Nat.pow_mul]
  have h35 : (2 : Nat) ^ (7 * k) ≤ 2 ^ 35 := Nat.pow_le_pow_right (by omega) (by omega)
  have hm : (x % 128) * 2 ^ (7 * k) ≤ 127 * 2 ^ (7 * k) := Nat.mul_le_mul_right _ (by omega)
  rw [and127 x hx, show IntKind.u64.wrap ((x % 128 : Nat) : Int) = ((x % 128 : Nat) : Int) by rw [IntKind.wrap_u64]; omega]
  rw [show (((x % 128 : Nat) : Int) * 2 ^ (7 * k)) = (((x % 128) * 2 ^ (7 * k) : Nat) : Int) by simp]
  rw [IntKind.wrap_u64, show (((x % 128) * 2 ^ (7 * k) : Nat) : Int) % 18446744073709551616 = (((x % 128) * 2 ^ (7 * k) : Nat) : Int) by omega]
  rw [u64_or_nat _ _ (by rw [hp] at ha; omega) (by omega), Nat.or_comm, nat_join (7 * k) _ _ (by simp) (by rw [← hp]; exact ha), hp]
  congr 1
  rw [Nat.mul_comm]
  omega
theorem and1 (u : Nat) (hu : u < 18446744073709551616) : bits .and .u64 (u : Int) 1 = ((u % 2 : Nat) : Int) := by
  have h := u64_and_nat u 1 hu (by omega)
  rw [show ((1 : Nat) : Int) = 1 from rfl] at h
  rw [h, nat_mask1]

/-! ### What reading a number comes to -/
def Reads1 (B : List UInt8) (bad : Bool) (v : Int) (B' : List UInt8) (bad' : Bool) : Prop := bad = false → match num B with
    | some (n, r) => bad' = false ∧ B' = r ∧ v = n
    | none => bad' = true
structure RdN (F : Nat → Prop) (w w' : World) (bf : Nat) (B : List UInt8) (bad : Bool) (v : Int) (B' : List UInt8) (bad' : Bool) : Prop where
  upd : Upd (fun b _ => b = bf) w w'
  form : FormR F w' bf B' bad'
  stays : bad = true → bad' = true
  reads : Reads1 B bad v B' bad'
def ReadPost (F : Nat → Prop) (w : World) (bf : Nat) (B : List UInt8) (bad : Bool) (e : Ending) (w' : World) : Prop :=
  ∃ v B' bad', e = .returned (.int .i64 v) ∧ RdN F w w' bf B bad v B' bad'

theorem setCell_at {w : World} {b o : Nat} {vs : List Value} (h : At w b o vs) (i : Nat) (hi : i < vs.length) (v : Value) : At (w.setCell ⟨b, o + i, none⟩ v) b o (vs.set i v) := fun j u hu => by
  by_cases e : i = j
  · subst e
    rw [List.getElem?_set_self hi] at hu
    injection hu with hu
    subst hu
    exact World.cell?_setCell_same _ _ _ (h i _ (List.getElem?_eq_getElem hi))
  · rw [List.getElem?_set_ne e] at hu
    rw [World.cell?_setCell_other _ _ _ _ (fun e' => e (by injection e' with _ e'; omega))]
    exact h j u hu
theorem Free.setCell {w : World} {b o n : Nat} (h : Free w b o n) (a : Addr) (v : Value) : Free (w.setCell a v) b o n := fun i hi => (World.frozen?_setCell _ _ _ _).trans (h i hi)

theorem FormR.lt {F : Nat → Prop} {w : World} {bf : Nat} {B : List UInt8} {bad : Bool} (h : FormR F w bf B bad) : bf < w.heap.size := by
  obtain ⟨_, A, n, c, hA, _⟩ := h
  exact hA.lt (by simp)

/-- The bytes are told anew. -/
theorem FormR.put {F : Nat → Prop} {w : World} {bf : Nat} {B B' : List UInt8} {bad : Bool} (h : FormR F w bf B bad) (hF : ¬ F bf) {A : Option Addr} {n c : Nat} (hn : n ≤ c) (hb : Bts F w A n B') :
    FormR F (w.setCell ⟨bf, 0, none⟩ (.slice A n c)) bf B' bad := by
  obtain ⟨hf, A0, n0, c0, hA, _, _⟩ := h
  refine ⟨hf.setCell _ _, A, n, c, setCell_at hA 0 (by simp) _, hn, hb.keep (fun _ h => h) (fun b hb' _ => Below.heap_setCell _ _ _ _ (fun e => hF ?_))⟩
  have e : b = bf := e
  exact e ▸ hb'
theorem FormR.bad {F : Nat → Prop} {w : World} {bf : Nat} {B : List UInt8} {bad : Bool} (h : FormR F w bf B bad) (hF : ¬ F bf) (t : Bool) :
    FormR F (w.setCell ⟨bf, 2, none⟩ (.bool t)) bf B t := by
  obtain ⟨hf, A, n, c, hA, hn, hb⟩ := h
  refine ⟨hf.setCell _ _, A, n, c, ?_, hn, hb.keep (fun _ h => h) (fun b hb' _ => Below.heap_setCell _ _ _ _ (fun e => hF ?_))⟩
  · have := setCell_at hA 2 (by simp) (.bool t)
    simpa using this
  · have e : b = bf := e
    exact e ▸ hb'

theorem Bts.drop {F : Nat → Prop} {w : World} {b o n c : Nat} {l : List UInt8} (h : Bts F w (some ⟨b, o, none⟩) n l) (k : Nat) (hk : k < n) (hc : n ≤ c) :
    Bts F w (if c = k + 1 then some ⟨b, o, none⟩ else some ⟨b, o + (k + 1), none⟩) (n - (k + 1)) (l.drop (k + 1)) := by
  refine ⟨by rw [List.length_drop, h.1], by have := h.2.1; omega, fun hp => ?_⟩
  obtain ⟨b', o', e, hF, hA⟩ := h.2.2 (by omega)
  injection e with e
  injection e with e1 e2
  subst e1
  subst e2
  rw [if_neg (by omega)]
  refine ⟨b, o + (k + 1), rfl, hF, ?_⟩
  have e : l.map u8 = (l.take (k + 1)).map u8 ++ (l.drop (k + 1)).map u8 := by rw [← List.map_append, List.take_append_drop]
  rw [e] at hA
  exact hA.right (by rw [List.length_map, List.length_take, h.1]; omega)

/-- One more byte: all that the reader has to know of it. -/
structure Last (B : List UInt8) (k acc x U : Nat) : Prop where
  hacc : Acc B k acc
  k6 : k < 6
  kl : k < B.length
  hx : x = (B[k]).toNat
  lo : x < 128
  hU : U = acc + 128 ^ k * (x % 128)

theorem Last.good {B : List UInt8} {k acc x U : Nat} (h : Last B k acc x U) (h0 : ¬ (0 < k ∧ x = 0)) (hr : inR (unz U) = true) : num B = some (unz U, B.drop (k + 1)) := by
  have := h.hacc.ends h.kl h.k6 (by rw [← h.hx]; exact h.lo)
  rw [← h.hx, if_neg h0] at this
  have hU := h.hU
  rw [Nat.mod_eq_of_lt h.lo] at hU
  rw [← hU] at this
  unfold num
  rw [this]
  simp only [hr, if_true]
theorem Last.none {B : List UInt8} {k acc x U : Nat} (h : Last B k acc x U) (h0 : (0 < k ∧ x = 0) ∨ inR (unz U) = false) : num B = none := by
  have := h.hacc.ends h.kl h.k6 (by rw [← h.hx]; exact h.lo)
  rw [← h.hx] at this
  have hU := h.hU
  rw [Nat.mod_eq_of_lt h.lo] at hU
  unfold num
  rw [this]
  split
  · rename_i hc
    split at hc
    · cases hc
    · rename_i h1
      injection hc with hc
      obtain ⟨rfl, rfl⟩ := Prod.mk.inj hc
      rw [← hU] at *
      rcases h0 with h0 | h0
      · exact absurd h0 h1
      · rw [if_neg (by simp [h0])]
  · rfl
theorem inR_iff (n : Int) : inR n = true ↔ (-1099511627776 ≤ n ∧ n ≤ 1099511627776) := by unfold inR; simp
theorem inR_no {n : Int} (h : n < -1099511627776 ∨ 1099511627776 < n) : inR n = false := by
  cases e : inR n with
  | false => rfl
  | true => have := (inR_iff n).1 e; omega
theorem unz_odd {U : Nat} (h : U % 2 = 1) : unz U = -1 - (U : Int) / 2 := by unfold unz; rw [if_pos h]; omega
theorem unz_even {U : Nat} (h : ¬ U % 2 = 1) : unz U = (U : Int) / 2 := by unfold unz; rw [if_neg h]; omega
theorem Last.small {B : List UInt8} {k acc x : Nat} (h : Acc B k acc) (hk : k < 6) : acc + 128 ^ k * (x % 128) < 4398046511104 := by
  have h1 := h.2.1
  have h2 : 128 ^ k * (x % 128) ≤ 128 ^ k * 127 := Nat.mul_le_mul_left _ (by omega)
  have h3 : (128 : Nat) ^ k ≤ 128 ^ 5 := Nat.pow_le_pow_right (by omega) (by omega)
  omega

section
variable {F : Nat → Prop} {w : World} {bf bd od c : Nat} {B : List UInt8} {bad : Bool} {k acc x U : Nat}
theorem read_good (hf : FormR F w bf B bad) (hF : ¬ F bf) (hb : Bts F w (some ⟨bd, od, none⟩) B.length B) (hc : B.length ≤ c) (h : Last B k acc x U) (h0 : ¬ (0 < k ∧ x = 0)) {v : Int} (hv : v = unz U)
    (hr : -1099511627776 ≤ v ∧ v ≤ 1099511627776) {A : Option Addr} {n m : Nat} (hA : A = if c = k + 1 then some ⟨bd, od, none⟩ else some ⟨bd, od + (k + 1), none⟩) (hn : n = B.length - (k + 1)) (hm : m = c - (k + 1)) :
    ReadPost F w bf B bad (.returned (.int .i64 v)) (w.setCell ⟨bf, 0, none⟩ (.slice A n m)) := by
  subst hn; subst hm; subst hA; subst hv
  have hk := h.kl
  have := h.good h0 ((inR_iff _).2 hr)
  exact ⟨_, B.drop (k + 1), bad, rfl, (Upd.refl (fun b _ => b = bf) w).setCell _ _ (fun _ => rfl) _, hf.put hF (by omega) (hb.drop k hk hc), fun h => h, fun h => by rw [this]; exact ⟨h, rfl, rfl⟩⟩
theorem read_bad (hf : FormR F w bf B bad) (hF : ¬ F bf) (hb : Bts F w (some ⟨bd, od, none⟩) B.length B) (hc : B.length ≤ c) (h : Last B k acc x U) (h0 : (0 < k ∧ x = 0) ∨ unz U < -1099511627776 ∨ 1099511627776 < unz U)
    {A : Option Addr} {n m : Nat} (hA : A = if c = k + 1 then some ⟨bd, od, none⟩ else some ⟨bd, od + (k + 1), none⟩) (hn : n = B.length - (k + 1)) (hm : m = c - (k + 1)) :
    ReadPost F w bf B bad (.returned (.int .i64 0)) ((w.setCell ⟨bf, 0, none⟩ (.slice A n m)).setCell ⟨bf, 2, none⟩ (.bool true)) := by
  subst hn; subst hm; subst hA
  have hk := h.kl
  have := h.none (h0.imp id inR_no)
  exact ⟨_, B.drop (k + 1), true, rfl, ((Upd.refl (fun b _ => b = bf) w).setCell _ _ (fun _ => rfl) _).setCell _ _ (fun _ => rfl) _, (hf.put hF (by omega) (hb.drop k hk hc)).bad hF true, fun _ => rfl, fun _ => by rw [this]⟩
theorem read_short (hf : FormR F w bf B bad) (hF : ¬ F bf) (h : Acc B k acc) (hk : k = 6 ∨ k ≤ 6 ∧ k = B.length) :
    ReadPost F w bf B bad (.returned (.int .i64 0)) (w.setCell ⟨bf, 2, none⟩ (.bool true)) := by
  have : num B = none := by unfold num; rw [h.short hk]
  exact ⟨_, B, true, rfl, (Upd.refl (fun b _ => b = bf) w).setCell _ _ (fun _ => rfl) _, hf.bad hF true, fun _ => rfl, fun _ => by rw [this]⟩
end

/-- A number that was read is put in its place. -/
theorem RdP.ofRead {F : Nat → Prop} {w w1 : World} {bf b o : Nat} {B B' : List UInt8} {bad bad' : Bool} {v : Int} (h : RdH .num F w bf b o B bad) (k : RdN F w w1 bf B bad v B' bad') :
    RdP .num F w (w1.setCell ⟨b, o, none⟩ (.int .i64 v)) bf b o B bad B' bad' where
  upd := (k.upd.mono (fun x i _ e => .inl e)).setCell b o (fun _ => .inr ⟨rfl, Nat.le_refl _, by simp [szc]⟩) _
  form := by
    obtain ⟨hf, A, n, c, hA, hn, hb⟩ := k.form
    refine ⟨hf.setCell _ _, A, n, c, ?_, hn, hb.keep (fun _ h => h) (fun x hx _ => Below.heap_setCell _ _ _ _ (fun e => h.nb ?_))⟩
    · intro i u hu
      rw [World.cell?_setCell_other _ _ _ _ (fun e => h.ne (by injection e))]
      exact hA i u hu
    · have e : x = b := e
      exact e ▸ hx
  stays := k.stays
  cells := by
    have hc : w1.cell? ⟨b, o, none⟩ = some (.int .i64 0) := (k.upd.cell b o h.lt h.ne).trans (h.at_ 0 _ rfl)
    refine ⟨[.int .i64 v], v, At.one (World.cell?_setCell_same _ _ _ hc), by simp only [Lay], fun hbad => ?_⟩
    have := k.reads hbad
    simp only [parse]
    generalize num B = q at this ⊢
    cases q with
    | none => exact this
    | some p => exact this
theorem RdH.cell {F : Nat → Prop} {w w1 : World} {bf b o : Nat} {B B' : List UInt8} {bad bad' : Bool} {v : Int} (h : RdH .num F w bf b o B bad) (k : RdN F w w1 bf B bad v B' bad') :
    w1.cell? ⟨b, o, none⟩ = some (.int .i64 0) ∧ w1.frozen? ⟨b, o, none⟩ = false :=
  ⟨(k.upd.cell b o h.lt h.ne).trans (h.at_ 0 _ rfl), (k.upd.frozen b o h.lt).trans (h.free 0 (by simp [szc]))⟩
theorem FormR.cells {F : Nat → Prop} {w : World} {bf : Nat} {B : List UInt8} {bad : Bool} (h : FormR F w bf B bad) :
    ∃ A n c, w.cell? ⟨bf, 0, none⟩ = some (.slice A n c) ∧ w.cell? ⟨bf, 1, none⟩ = some (.bool true) ∧ w.cell? ⟨bf, 2, none⟩ = some (.bool bad) ∧
      w.frozen? ⟨bf, 0, none⟩ = false ∧ w.frozen? ⟨bf, 1, none⟩ = false ∧ w.frozen? ⟨bf, 2, none⟩ = false ∧ n ≤ c ∧ Bts F w A n B := by
  obtain ⟨hf, A, n, c, hA, hn, hb⟩ := h
  exact ⟨A, n, c, by simpa using hA 0 _ rfl, by simpa using hA 1 _ rfl, by simpa using hA 2 _ rfl, by simpa using hf 0 (by omega), by simpa using hf 1 (by omega), by simpa using hf 2 (by omega), hn, hb⟩

/-! ### A flag; how many -/
theorem TR.mono {bf n b' : Nat} {w : World} (hb : w.heap.size ≤ b') : ∀ x i, x < w.heap.size → TR bf b' 0 n x i → x = bf := fun x i hx e => by
  rcases e with e | ⟨e, _⟩
  · exact e
  · omega

theorem RdP.newCell {F : Nat → Prop} {w w1 : World} {bf bn : Nat} {B B' : List UInt8} {bad bad' : Bool} (k : RdP .num F w w1 bf bn 0 B bad B' bad') :
    ∃ v : Int, w1.cell? ⟨bn, 0, none⟩ = some (.int .i64 v) ∧ Reads1 B bad v B' bad' := by
  obtain ⟨vs, x, hA, hL, hp⟩ := k.cells
  simp only [Lay] at hL
  subst hL
  refine ⟨x, hA.head, fun hb => ?_⟩
  have := hp hb
  simp only [parse] at this
  generalize num B = q at this ⊢
  cases q with
  | none => exact this
  | some p => exact this

theorem RdP.ofFlag {F : Nat → Prop} {w w1 : World} {bf b o : Nat} {B B' : List UInt8} {bad bad' : Bool} {v : Int} {cs : Array Value} {T : TypeId} (h : RdH .flag F w bf b o B bad)
    (k : RdP .num F (w.alloc (.cells cs T)) w1 bf w.heap.size 0 B bad B' bad')
    (hv : Reads1 B bad v B' bad') {t u : Bool} (ht : t = true ↔ bad' = true ∨ v < 0 ∨ 1 < v) (hu : u = true ↔ v = 1) :
    RdP .flag F w ((w1.setCell ⟨bf, 2, none⟩ (.bool t)).setCell ⟨b, o, none⟩ (.bool u)) bf b o B bad B' t where
  upd := by
    have h1 : Upd (TR bf b o 1) w w1 := ((Upd.refl (TR bf b o 1) w).alloc (.cells cs T)).then k.upd (fun x i hx e => by
      rcases e with e | ⟨e, _⟩
      · exact .inl e
      · omega)
    exact (h1.setCell _ _ (fun _ => .inl rfl) _).setCell _ _ (fun _ => .inr ⟨rfl, Nat.le_refl _, by simp⟩) _
  form := by
    have h1 : FormR F (w1.setCell ⟨bf, 2, none⟩ (.bool t)) bf B' t := k.form.bad h.nbf t
    exact h1.upd (T := fun x i => x = b ∧ i = o) ((Upd.refl _ _).setCell _ _ (fun _ => ⟨rfl, rfl⟩) _) (fun _ e => h.ne e.1.symm) (fun j _ hj e => h.nb (e.1 ▸ hj))
  stays := fun hb => ht.2 (.inl (k.stays hb))
  cells := by
    have hc0 : w1.cell? ⟨b, o, none⟩ = some (.bool false) :=
      (k.upd.cell b o (by have := h.lt; simp; omega) (by
        rintro (e | ⟨e, _⟩)
        · exact h.ne e
        · have := h.lt; omega)).trans ((World.cell?_alloc_lt _ _ _ h.lt).trans (h.at_ 0 _ rfl))
    have hc : (w1.setCell ⟨bf, 2, none⟩ (.bool t)).cell? ⟨b, o, none⟩ = some (.bool false) := (World.cell?_setCell_other _ _ _ _ (fun e => h.ne (by injection e with e; exact e.symm))).trans hc0
    refine ⟨[.bool u], u, At.one (World.cell?_setCell_same _ _ _ hc), by simp only [Lay], fun hbad => ?_⟩
    have := hv hbad
    simp only [parse]
    generalize num B = q at this ⊢
    cases q with
    | none => exact ht.2 (.inl this)
    | some p =>
      obtain ⟨h1, rfl, rfl⟩ := this
      subst h1
      simp only
      by_cases e0 : p.1 = 0
      · rw [if_pos e0]
        refine ⟨?_, rfl, ?_⟩
        · cases t with
          | false => rfl
          | true => have := ht.1 rfl; simp at this; omega
        · cases u with
          | false => rfl
          | true => have := hu.1 rfl; omega
      · rw [if_neg e0]
        by_cases e1 : p.1 = 1
        · rw [if_pos e1]
          refine ⟨?_, rfl, hu.2 e1⟩
          cases t with
          | false => rfl
          | true => have := ht.1 rfl; simp at this; omega
        · rw [if_neg e1]
          exact ht.2 (.inr (by omega))

/-- How many: what is read. -/
structure RdM (most : Int) (F : Nat → Prop) (w w' : World) (bf : Nat) (B : List UInt8) (bad : Bool) (n : Nat) (B' : List UInt8) (bad' : Bool) : Prop where
  upd : Upd (fun b _ => b = bf) w w'
  form : FormR F w' bf B' bad'
  stays : bad = true → bad' = true
  le : (n : Int) ≤ most
  reads : bad = false → match many most B with
    | some (k, r) => bad' = false ∧ B' = r ∧ n = k
    | none => bad' = true
def ManyPost (most : Int) (F : Nat → Prop) (w : World) (bf : Nat) (B : List UInt8) (bad : Bool) (e : Ending) (w' : World) : Prop :=
  ∃ (n : Nat) (B' : List UInt8) (bad' : Bool), e = .returned (.int .i64 (n : Int)) ∧ RdM most F w w' bf B bad n B' bad'

theorem RdM.good {most : Int} {F : Nat → Prop} {w w1 : World} {bf : Nat} {B B' : List UInt8} {bad bad' : Bool} {v : Int} {cs : Array Value} {T : TypeId} (_hF : ¬ F bf)
    (k : RdP .num F (w.alloc (.cells cs T)) w1 bf w.heap.size 0 B bad B' bad')
    (hv : Reads1 B bad v B' bad') (h0 : 0 ≤ v) (h1 : v ≤ most) : ManyPost most F w bf B bad (.returned (.int .i64 v)) w1 := by
  refine ⟨v.toNat, B', bad', by rw [show ((v.toNat : Nat) : Int) = v by omega], ((Upd.refl _ w).alloc (.cells cs T)).then k.upd (fun x i hx e => TR.mono (Nat.le_refl _) x i hx e), k.form, k.stays, by omega, fun hb => ?_⟩
  have := hv hb
  unfold many
  generalize num B = q at this ⊢
  cases q with
  | none => exact this
  | some p =>
    obtain ⟨h2, h3, rfl⟩ := this
    simp only
    rw [if_pos ⟨h0, h1⟩]
    exact ⟨h2, h3, rfl⟩
theorem RdM.bad {most : Int} {F : Nat → Prop} {w w1 : World} {bf : Nat} {B B' : List UInt8} {bad bad' : Bool} {v : Int} {cs : Array Value} {T : TypeId} (hF : ¬ F bf) (hm : 0 ≤ most)
    (k : RdP .num F (w.alloc (.cells cs T)) w1 bf w.heap.size 0 B bad B' bad')
    (hv : Reads1 B bad v B' bad') (h0 : v < 0 ∨ most < v) : ManyPost most F w bf B bad (.returned (.int .i64 0)) (w1.setCell ⟨bf, 2, none⟩ (.bool true)) := by
  refine ⟨0, B', true, rfl, (((Upd.refl (fun b _ => b = bf) w).alloc (.cells cs T)).then k.upd (fun x i hx e => TR.mono (Nat.le_refl _) x i hx e)).setCell _ _ (fun _ => rfl) _, k.form.bad hF true, fun _ => rfl, by omega, fun hb => ?_⟩
  have := hv hb
  unfold many
  generalize num B = q at this ⊢
  cases q with
  | none => rfl
  | some p =>
    obtain ⟨h2, h3, rfl⟩ := this
    simp only
    rw [if_neg (by omega)]
    trivial

/-! ### Numbers one behind the other -/
def numsL : Nat → Sch
  | 0 => .unit
  | k + 1 => .pair (numsL k) .num
theorem szc_numsL : ∀ k, szc (numsL k) = k := by
  intro k
  induction k with
  | zero => rfl
  | succ k ih => simp [numsL, szc, ih]
theorem zeroc_numsL : ∀ k, zeroc (numsL k) = List.replicate k (.int .i64 0) := by
  intro k
  induction k with
  | zero => rfl
  | succ k ih => simp only [numsL, zeroc, ih]; rw [List.replicate_succ']
def ptrs (b o k : Nat) : List Value := (List.range k).map fun i => .pointer (some ⟨b, o + i, none⟩)
theorem ptrs_at {b o k i : Nat} (h : i < k) : (ptrs b o k)[i]? = some (.pointer (some ⟨b, o + i, none⟩)) := by
  unfold ptrs
  rw [List.getElem?_map, List.getElem?_range h]
  rfl

theorem RdP.unit {s : Sch} {F : Nat → Prop} {w : World} {bf b o : Nat} {B : List UInt8} {bad : Bool} (h : RdH s F w bf b o B bad) : RdP .unit F w w bf b o B bad B bad where
  upd := Upd.refl _ _
  form := h.form
  stays := fun h => h
  cells := ⟨[], (), At.nil w b o, rfl, fun h => ⟨h, rfl, rfl⟩⟩

theorem RdH.numAt {k j : Nat} {F : Nat → Prop} {w w' : World} {bf b o : Nat} {B B' : List UInt8} {bad bad' : Bool} (h : RdH (numsL k) F w bf b o B bad) (hj : j < k) (p : RdP (numsL j) F w w' bf b o B bad B' bad') :
    RdH .num F w' bf b (o + j) B' bad' where
  form := p.form
  at_ := by
    refine At.one ?_
    have h1 := h.at_ j (.int .i64 0) (by rw [zeroc_numsL, List.getElem?_replicate, if_pos hj])
    exact (p.upd.cell b (o + j) h.lt (by
      rintro (e | ⟨_, _, e⟩)
      · exact h.ne e
      · rw [szc_numsL] at e; omega)).trans h1
  free := p.upd.free h.lt (h.free.right (by rw [szc_numsL]; simp only [szc]; omega))
  nbf := h.nbf
  nb := h.nb
  ne := h.ne
  lt := Nat.lt_of_lt_of_le h.lt p.upd.size
  lf := Nat.lt_of_lt_of_le h.lf p.upd.size
  old := fun j hj => Nat.lt_of_lt_of_le (h.old j hj) p.upd.size

theorem RdP.numAt {j : Nat} {F : Nat → Prop} {w w1 w2 : World} {bf b o : Nat} {B B1 B2 : List UInt8} {bad bad1 bad2 : Bool} {s : Sch} (h : RdH s F w bf b o B bad)
    (p : RdP (numsL j) F w w1 bf b o B bad B1 bad1) (q : RdP .num F w1 w2 bf b (o + j) B1 bad1 B2 bad2) : RdP (numsL (j + 1)) F w w2 bf b o B bad B2 bad2 := by
  have e : o + szc (numsL j) = o + j := by rw [szc_numsL]
  exact RdP.both h.ne h.lt h.lf p (by rw [e]; exact q)

/-! ### Steps of a record -/
theorem RdH.alloc {s : Sch} {F : Nat → Prop} {w : World} {bf b o : Nat} {B : List UInt8} {bad : Bool} (h : RdH s F w bf b o B bad) (ob : Obj) : RdH s F (w.alloc ob) bf b o B bad where
  form := h.form.upd ((Upd.refl (fun _ _ => False) w).alloc _) (fun _ h => h) (fun _ _ _ h => h)
  at_ := ((Upd.refl (fun _ _ => False) w).alloc ob).at h.at_ (fun _ _ h => h)
  free := ((Upd.refl (fun _ _ => False) w).alloc ob).free h.lt h.free
  nbf := h.nbf
  nb := h.nb
  ne := h.ne
  lt := by have := h.lt; simp; omega
  lf := by have := h.lf; simp; omega
  old := fun k hk => by have := h.old k hk; simp; omega
theorem RdP.ofAlloc {s : Sch} {F : Nat → Prop} {w w' : World} {bf b o : Nat} {B B' : List UInt8} {bad bad' : Bool} {ob : Obj} (h : RdP s F (w.alloc ob) w' bf b o B bad B' bad') : RdP s F w w' bf b o B bad B' bad' where
  upd := ((Upd.refl _ w).alloc ob).trans h.upd
  form := h.form
  stays := h.stays
  cells := by
    obtain ⟨vs, x, hA, hL, hp⟩ := h.cells
    exact ⟨vs, x, hA, Lay.keep s hL (fun k hk => by simp at hk; omega) (fun _ _ _ => rfl), hp⟩
theorem Upd.ofDrew {T : Nat → Nat → Prop} {w w' : World} (h : Upd T w.drew w') : Upd T w w' := ⟨h.os, h.tape, h.output, h.size, h.cell, h.frozen, h.block⟩
theorem RdP.ofDrew {s : Sch} {F : Nat → Prop} {w w' : World} {bf b o : Nat} {B B' : List UInt8} {bad bad' : Bool} (h : RdP s F w.drew w' bf b o B bad B' bad') : RdP s F w w' bf b o B bad B' bad' where
  upd := h.upd.ofDrew
  form := h.form
  stays := h.stays
  cells := h.cells
theorem RdH.drew {s : Sch} {F : Nat → Prop} {w : World} {bf b o : Nat} {B : List UInt8} {bad : Bool} (h : RdH s F w bf b o B bad) : RdH s F w.drew bf b o B bad where
  form := h.form
  at_ := h.at_
  free := h.free
  nbf := h.nbf
  nb := h.nb
  ne := h.ne
  lt := h.lt
  lf := h.lf
  old := h.old

/-! ### Structs in memory: loaded, laid, stored; at whatever place -/
theorem addr_add (b o i : Nat) : (⟨b, o, none⟩ : Addr).add i = ⟨b, o + i, none⟩ := by unfold Addr.add; split <;> simp_all

def aggD : TypeDesc → Bool
  | .struct _ => true
  | .array _ _ => true
  | _ => false
section
variable {P : Program}
theorem run_loadVar_at {w : World} {ty : TypeId} {b o : Nat} {vs : List Value} {d : TypeDesc} (hu : P.underlying ty = some d) (hd : aggD d = true)
    (hi : (P.info? ty).map (·.size) = some vs.length) (hA : At w b o vs) : (loadVar ty ⟨b, o, none⟩).run P w = .ok (.agg vs.toArray) w := by
  have hl : (loadCells ⟨b, o, none⟩ vs.length).run P w = .ok vs.toArray w := run_loadCells_list (P := P) w ⟨b, o, none⟩ vs (fun j v hv => by rw [addr_add]; exact hA j v hv)
  cases hq : P.info? ty with
  | none => simp [hq] at hi
  | some i =>
    have hs : i.size = vs.length := by simpa [hq] using hi
    have hagg : (isAgg ty).run P w = .ok true w := by
      unfold isAgg
      rw [Sem.run_bind, run_underlying hu w]
      cases d <;> simp_all [aggD]
    simp [loadVar, Sem.run_bind, hagg, Go.sizeOf, typeInfo, hq, hs, hl]

theorem wpList_load_at {ops : Array Oper} {rest : List Oper} {o : Oper} {a : Act} {w : World} {Q : Exit → Act → World → Prop} (hgd : o.guard = none) (ty : TypeId) (x : Operand) (ho : o.op = .load ty x)
    {b i : Nat} (hx : a.eval x = .pointer (some ⟨b, i, none⟩)) {vs : List Value} {d : TypeDesc} (hu : P.underlying ty = some d) (hd : aggD d = true)
    (hi : (P.info? ty).map (·.size) = some vs.length) (hA : At w b i vs)
    (h : wpList P ops Q rest (a.put o.dst (.agg vs.toArray)) w) : wpList P ops Q (o :: rest) a w :=
  wpList_plain hgd fun _ hK => by
    unfold Oper.wp execOp
    simp only [ho, hx, Instr.loadAt, Instr.sureAddr, Sem.run_bind, Sem.run_pure, Result.andThen_ok, run_loadVar_at hu hd hi hA]
    exact hK _ _ h

theorem fill_one {n : Nat} (_hn : 0 < n) (vs : List Value) (hv : vs.length = n) (zs : Array Value) (hz : zs.size = n) :
    Instr.fill (fun i => some (i * n, n)) zs [(0, .agg vs.toArray)] = some vs.toArray := by
  simp only [Instr.fill, Value.cells, Nat.zero_mul, Nat.zero_add]
  rw [if_neg (by simp; omega)]
  congr 1
  have key : ∀ (us : List Value) (k : Nat) (A : Array Value), k + us.length = A.size → (us.zipIdx k).foldl (fun cs (c, j) => cs.setIfInBounds j c) A = (A.toList.take k ++ us).toArray := by
    intro us
    induction us with
    | nil => intro k A h; simp at h; subst h; simp only [List.zipIdx_nil, List.foldl_nil, List.append_nil]; rw [List.take_of_length_le (by simp)]
    | cons u us ih =>
      intro k A h
      simp only [List.zipIdx_cons, List.foldl_cons]
      rw [ih (k + 1) _ (by simp at h ⊢; omega)]
      congr 1
      apply List.ext_getElem?
      intro j
      simp only [List.length_cons] at h
      rcases Nat.lt_trichotomy j k with hj | hj | hj
      · rw [List.getElem?_append_left (by simp; omega), List.getElem?_append_left (by simp; omega), List.getElem?_take, List.getElem?_take, if_pos (by omega), if_pos hj]
        simp only [Array.getElem?_toList, Array.getElem?_setIfInBounds]
        rw [if_neg (by omega)]
      · subst hj
        rw [List.getElem?_append_left (by simp; omega), List.getElem?_append_right (by simp; omega), List.getElem?_take, if_pos (by omega)]
        simp only [Array.getElem?_toList, Array.getElem?_setIfInBounds]
        rw [if_pos trivial, if_pos (by omega)]
        simp only [List.length_take, Array.length_toList]
        rw [Nat.min_eq_left (by omega), Nat.sub_self]
        rfl
      · obtain ⟨m, rfl⟩ : ∃ m, j = k + 1 + m := ⟨j - (k + 1), by omega⟩
        rw [List.getElem?_append_right (by simp; omega), List.getElem?_append_right (by simp; omega)]
        simp only [List.length_take, Array.length_toList, Array.size_setIfInBounds]
        rw [Nat.min_eq_left (by omega), Nat.min_eq_left (by omega)]
        rw [show k + 1 + m - (k + 1) = m by omega, show k + 1 + m - k = m + 1 by omega]
        simp
  have := key vs 0 zs (by omega)
  simp only [List.take_zero, List.nil_append] at this
  have e : vs.toArray.zipIdx = (vs.zipIdx 0).toArray := by simp
  rw [e, List.foldl_toArray]
  exact this

theorem wpList_build_one {ops : Array Oper} {rest : List Oper} {o : Oper} {a : Act} {w : World} {Q : Exit → Act → World → Prop} (hg : o.guard = none) (t e : TypeId) (x : Operand) (ho : o.op = .buildSlice t 1 #[(0, x)])
    {vs : List Value} (hx : a.eval x = .agg vs.toArray) {n : Nat} (hn : 0 < n) (hn2 : n ≤ 1000000) (hv : vs.length = n) (hu : P.underlying t = some (.slice e)) (hi : (P.info? e).map (fun i => (i.zero.isSome, i.size)) = some (true, n))
    (h : wpList P ops Q rest (a.put o.dst (.slice (some ⟨w.heap.size, 0, none⟩) 1 1)) (w.alloc (.cells vs.toArray e))) : wpList P ops Q (o :: rest) a w := by
  obtain ⟨i, hie, h2⟩ := Option.map_eq_some_iff.1 hi
  simp only [Prod.mk.injEq, Option.isSome_iff_exists] at h2
  obtain ⟨⟨z, hz⟩, hs⟩ := h2
  subst hs
  refine wpList_buildSlice hg t e 1 #[(0, x)] ho vs.toArray i z hu hie hz (by omega) (by omega) ?_ h
  simp only [List.map_toArray, List.map_cons, List.map_nil, hx]
  exact fill_one hn vs hv _ (by simp)
end
section
variable {P : Program}
theorem exec_load_agg {o : Oper} {a : Act} {w : World} {ty : TypeId} {x : Operand} (ho : o.op = .load ty x) {b i : Nat} (hx : a.eval x = .pointer (some ⟨b, i, none⟩)) {vs : List Value} {d : TypeDesc} (hu : P.underlying ty = some d)
    (hd : aggD d = true) (hi : (P.info? ty).map (·.size) = some vs.length) (hA : At w b i vs) : (execOp a.eval o).run P w = .ok (.value (.agg vs.toArray)) w := by
  unfold execOp
  simp only [ho, hx, Instr.loadAt, Instr.sureAddr, Sem.run_bind, Sem.run_pure, Result.andThen_ok, run_loadVar_at hu hd hi hA]
theorem run_loadVar_one {w : World} {ty : TypeId} {b o : Nat} {v : Value} {d : TypeDesc} (hu : P.underlying ty = some d) (hd : aggD d = false) (hc : w.cell? ⟨b, o, none⟩ = some v) : (loadVar ty ⟨b, o, none⟩).run P w = .ok v w := by
  have hagg : (isAgg ty).run P w = .ok false w := by
    unfold isAgg
    rw [Sem.run_bind, run_underlying hu w]
    cases d <;> simp_all [aggD]
  simp [loadVar, Sem.run_bind, hagg, run_load, hc]
theorem exec_load_one {o : Oper} {a : Act} {w : World} {ty : TypeId} {x : Operand} (ho : o.op = .load ty x) {b i : Nat} (hx : a.eval x = .pointer (some ⟨b, i, none⟩)) {v : Value} {d : TypeDesc} (hu : P.underlying ty = some d)
    (hd : aggD d = false) (hc : w.cell? ⟨b, i, none⟩ = some v) : (execOp a.eval o).run P w = .ok (.value v) w := by
  unfold execOp
  simp only [ho, hx, Instr.loadAt, Instr.sureAddr, Sem.run_bind, Sem.run_pure, Result.andThen_ok, run_loadVar_one hu hd hc]
end

/-! ### A list that is read -/
theorem Upd.grownNew {T : Nat → Nat → Prop} {a b c : World} (h : Upd T a b) {row : Option Nat} (hg : b.grownBy c row) (hr : ∀ k, row = some k → a.heap.size ≤ k) : Upd T a c := by
  have hb : ∀ k, k < a.heap.size → c.heap[k]? = b.heap[k]? := fun k hk => hg.block k (Nat.lt_of_lt_of_le hk h.size) (fun e => by have := hr k e.symm; omega)
  exact ⟨hg.os.trans h.os, hg.tape.trans h.tape, hg.output.trans h.output, Nat.le_trans h.size hg.size,
    fun x o hx hT => (World.cell?_of_block (hb x hx)).trans (h.cell x o hx hT), fun x o hx => (World.frozen?_of_block (hb x hx)).trans (h.frozen x o hx), fun x hx hT => (hb x hx).trans (h.block x hx hT)⟩

def LsReads (s : Sch) (B0 : List UInt8) (bad0 : Bool) (n : Nat) (xs : List (Ty s)) (B : List UInt8) (bad : Bool) : Prop :=
  bad0 = false → match many 64 B0 with
    | none => bad = true
    | some (m, r) => m = n ∧ (bad = false ∧ Some_ (parse s) n r xs.length xs B ∨ bad = true ∧ times (parse s) n r = none)

structure LsR (s : Sch) (E : Nat) (F : Nat → Prop) (w wr : World) (bf b o : Nat) (B0 : List UInt8) (bad0 : Bool) (B : List UInt8) (bad : Bool) (n j : Nat) (v : Value) (cs : List Value) (xs : List (Ty s)) : Prop where
  upd : Upd (TR bf b o 1) w wr
  form : FormR F wr bf B bad
  stays : bad0 = true → bad = true
  cell : wr.cell? ⟨b, o, none⟩ = some v
  own : wr.ownsRow w.heap.size E (szc s) v xs.length cs
  len : xs.length = j
  elems : Elems s (fun k => w.heap.size ≤ k ∧ k < wr.heap.size ∧ v.ownBlock ≠ some k) wr cs xs
  reads : LsReads s B0 bad0 n xs B bad

theorem LsR.start {s : Sch} {E : Nat} {F : Nat → Prop} {w w1 : World} {bf b o : Nat} {B B1 : List UInt8} {bad bad1 : Bool} {n : Nat} (h : RdH (.list s) F w bf b o B bad) (m : RdM 64 F w w1 bf B bad n B1 bad1) :
    LsR s E F w w1 bf b o B bad B1 bad1 n 0 (.slice none 0 0) [] [] where
  upd := m.upd.mono (fun x i _ e => .inl e)
  form := m.form
  stays := m.stays
  cell := (m.upd.cell b o h.lt h.ne).trans (h.at_ 0 _ rfl)
  own := World.ownsRow_nil _ _ _ _
  len := rfl
  elems := Elems.nil _ _ _
  reads := fun hb => by
    have := m.reads hb
    generalize many 64 B = q at this ⊢
    cases q with
    | none => exact this
    | some p =>
      obtain ⟨h1, h2, h3⟩ := this
      subst h2
      exact ⟨h3.symm, .inl ⟨h1, by rw [h3]; exact Some_.zero _ _ _⟩⟩

theorem LsR.done {s : Sch} {E : Nat} {F : Nat → Prop} {w wr : World} {bf b o : Nat} {B0 B : List UInt8} {bad0 bad : Bool} {n j : Nat} {v : Value} {cs : List Value} {xs : List (Ty s)}
    (h : LsR s E F w wr bf b o B0 bad0 B bad n j v cs xs) (hj : j = n ∨ bad = true) : RdP (.list s) F w wr bf b o B0 bad0 B bad where
  upd := h.upd
  form := h.form
  stays := h.stays
  cells := by
    refine ⟨[v], xs, At.one h.cell, Lay.owned h.own (h.elems.keep (fun _ h => h.1) (fun _ _ _ => rfl)) (fun k hk => (h.own.lt k hk).1), fun hb => ?_⟩
    have := h.reads hb
    simp only [parse]
    generalize many 64 B0 = q at this ⊢
    cases q with
    | none => exact this
    | some p =>
      obtain ⟨h1, h2⟩ := this
      simp only
      rw [h1]
      rcases h2 with ⟨h2, h3⟩ | ⟨h2, h3⟩
      · have hn : xs.length = n := by
          rcases hj with hj | hj
          · rw [h.len, hj]
          · rw [h2] at hj; cases hj
        rw [hn] at h3
        rw [h3.done]
        exact ⟨h2, rfl, rfl⟩
      · rw [h3]
        exact h2

/-- What the element's reader must find. -/
theorem LsR.item {s : Sch} {E : Nat} {F : Nat → Prop} {w wr : World} {bf b o : Nat} {B0 B : List UInt8} {bad0 bad : Bool} {n j : Nat} {v : Value} {cs : List Value} {xs : List (Ty s)}
    (h : LsR s E F w wr bf b o B0 bad0 B bad n j v cs xs) (g : RdH (.list s) F w bf b o B0 bad0) (zs : Array Value) (T : TypeId) (hz : zs.toList = zeroc s) :
    RdH s F (wr.alloc (.cells zs T)) bf wr.heap.size 0 B bad where
  form := h.form.upd ((Upd.refl (fun _ _ => False) wr).alloc _) (fun _ h => h) (fun _ _ _ h => h)
  at_ := hz ▸ At.new wr zs T
  free := Free.new wr zs T _
  nbf := g.nbf
  nb := fun e => by have := g.old _ e; have := h.upd.size; omega
  ne := by have := g.lf; have := h.upd.size; omega
  lt := by simp
  lf := by have := g.lf; have := h.upd.size; simp; omega
  old := fun k hk => by have := g.old k hk; have := h.upd.size; simp; omega

theorem LsR.step {s : Sch} {E : Nat} {F : Nat → Prop} {w wr w1 w2 : World} {bf b o : Nat} {B0 B B' : List UInt8} {bad0 bad' : Bool} {n j : Nat} {v v' : Value} {cs vs : List Value} {xs : List (Ty s)} {x : Ty s} {zs : Array Value} {T T' : TypeId}
    (h : LsR s E F w wr bf b o B0 bad0 B false n j v cs xs) (g : RdH (.list s) F w bf b o B0 bad0) (hj : j < n)
    (k : RdP s F (wr.alloc (.cells zs T)) w1 bf wr.heap.size 0 B false B' bad') (hL : Lay s (fun q => (wr.alloc (.cells zs T)).heap.size ≤ q) w1 vs x)
    (hp : match parse s B with
      | some (y, r) => bad' = false ∧ B' = r ∧ x = y
      | none => bad' = true)
    (hown : w2.ownsRow w.heap.size E (szc s) v' (xs.length + 1) (cs ++ vs)) (hg : (w1.alloc (.cells vs.toArray T')).grownBy w2 v.ownBlock)
    (hat : v'.ownBlock = v.ownBlock ∨ v'.ownBlock = some (w1.alloc (.cells vs.toArray T')).heap.size) :
    LsR s E F w (w2.setCell ⟨b, o, none⟩ v') bf b o B0 bad0 B' bad' n (j + 1) v' (cs ++ vs) (xs ++ [x]) := by
  have hs1 := h.upd.size
  have hs2 := k.upd.size
  have hs3 := hg.size
  simp only [World.size_alloc] at hs2 hs3
  have hb := g.lt
  have hf := g.lf
  have hvb : ∀ q, v.ownBlock = some q → w.heap.size ≤ q ∧ q < wr.heap.size := fun q hq => h.own.lt q hq
  have u1 : Upd (TR bf b o 1) w w1 := (h.upd.alloc (.cells zs T)).then k.upd (fun y i hy e => by
    rcases e with e | ⟨e, _⟩
    · exact .inl e
    · omega)
  have u2 : Upd (TR bf b o 1) w w2 := (u1.alloc (.cells vs.toArray T')).grownNew hg (fun q hq => (hvb q hq).1)
  have hblk : ∀ q, q < w1.heap.size → v.ownBlock ≠ some q → w2.heap[q]? = w1.heap[q]? := fun q hq hne =>
    (hg.block q (by simp; omega) (fun e => hne e.symm)).trans (Below.heap_alloc _ _ _ hq)
  have hset : ∀ q, q ≠ b → (w2.setCell ⟨b, o, none⟩ v').heap[q]? = w2.heap[q]? := fun q hq => Below.heap_setCell _ _ _ _ hq
  have hsz : (w2.setCell ⟨b, o, none⟩ v').heap.size = w2.heap.size := by simp
  have hnew : ∀ q, q < w1.heap.size → v.ownBlock ≠ some q → v'.ownBlock ≠ some q := fun q hq hne => by
    rcases hat with e | e
    · rw [e]; exact hne
    · rw [e]; intro e'; injection e' with e'; simp at e'; omega
  refine ⟨u2.setCell b o (fun _ => .inr ⟨rfl, Nat.le_refl _, by omega⟩) _, ?_, ?_, ?_, ?_, ?_, ?_, ?_⟩
  · -- the form
    have f1 : FormR F w2 bf B' bad' := by
      obtain ⟨hfr, A, n', c, hA, hn, hbt⟩ := k.form
      have hbf1 : bf < w1.heap.size := by omega
      have hbf : w2.heap[bf]? = w1.heap[bf]? := hblk bf hbf1 (fun e => by have := hvb bf e; omega)
      refine ⟨fun i hi => (World.frozen?_of_block hbf).trans (hfr i hi), A, n', c, fun i u hu => (World.cell?_of_block hbf).trans (hA i u hu), hn, hbt.keep (fun _ h => h) (fun q hq hlt => hblk q hlt (fun e => ?_))⟩
      have := hvb q e
      have := g.old q hq
      omega
    exact f1.upd (T := fun y i => y = b ∧ i = o) ((Upd.refl _ _).setCell _ _ (fun _ => ⟨rfl, rfl⟩) _) (fun _ e => g.ne e.1.symm) (fun q _ hq e => g.nb (e.1 ▸ hq))
  · intro hb0; have := h.stays hb0; cases this
  · have hc0 : w2.cell? ⟨b, o, none⟩ = some v := by
      have e1 : w2.heap[b]? = w1.heap[b]? := hblk b (by omega) (fun e => by have := hvb b e; omega)
      have e2 : w1.cell? ⟨b, o, none⟩ = (wr.alloc (.cells zs T)).cell? ⟨b, o, none⟩ := k.upd.cell b o (by simp; omega) (by
        rintro (e | ⟨e, _⟩)
        · exact g.ne e
        · omega)
      have e3 : w2.cell? ⟨b, o, none⟩ = w1.cell? ⟨b, o, none⟩ := World.cell?_of_block (a := ⟨b, o, none⟩) e1
      rw [e3, e2, World.cell?_alloc_lt _ _ _ (show b < wr.heap.size by omega)]
      exact h.cell
    exact World.cell?_setCell_same _ _ _ hc0
  · rw [show (xs ++ [x]).length = xs.length + 1 by simp]
    exact ownsRow_setCell_below hown hb v'
  · simp [h.len]
  · refine Elems.snoc (h.elems.keep (fun q hq => ?_) (fun q hq hlt => ?_)) (Lay.keep s (Lay.within s hL) (fun q hq => ?_) (fun q hq hlt => ?_))
    · exact ⟨hq.1, by rw [hsz]; omega, hnew q (by omega) hq.2.2⟩
    · have e1 : w1.heap[q]? = (wr.alloc (.cells zs T)).heap[q]? := k.upd.block q (by simp; omega) (fun i => by
        rintro (e | ⟨e, _⟩) <;> omega)
      rw [hset q (by omega), hblk q (by omega) hq.2.2, e1]
      exact Below.heap_alloc _ _ _ hq.2.1
    · have h1 := hq.1
      simp only [World.size_alloc] at h1
      exact ⟨by omega, by rw [hsz]; omega, hnew q hq.2 (fun e => by have := hvb q e; omega)⟩
    · have h1 := hq.1
      simp only [World.size_alloc] at h1
      rw [hset q (by omega)]
      exact hblk q hlt (fun e => by have := hvb q e; omega)
  · intro hb0
    have := h.reads hb0
    generalize many 64 B0 = q at this ⊢
    cases q with
    | none => cases this
    | some p =>
      obtain ⟨h1, h2⟩ := this
      refine ⟨h1, ?_⟩
      rcases h2 with ⟨_, h3⟩ | ⟨h2, _⟩
      · have hjn : xs.length < n := by rw [h.len]; exact hj
        cases hq : parse s B with
        | none =>
          rw [hq] at hp
          exact .inr ⟨hp, h3.fails hjn hq⟩
        | some y =>
          rw [hq] at hp
          obtain ⟨hp1, hp2, hp3⟩ := hp
          refine .inl ⟨hp1, ?_⟩
          rw [show (xs ++ [x]).length = xs.length + 1 by simp, hp2, hp3]
          exact h3.more hjn hq
      · cases h2

theorem own_form {w : World} {base n : Nat} {e : TypeId} {size : Nat} {v : Value} {xs : List Value} (h : w.ownsRow base e size v n xs) : ∃ A c, v = .slice A n c := by
  rcases h.2 with ⟨rfl, rfl⟩ | ⟨g, cap, cur, rfl, _⟩
  · exact ⟨none, 0, rfl⟩
  · exact ⟨_, cap, rfl⟩

/-- Behind the element's reader: what the append must find. -/
theorem LsR.ownAt {s : Sch} {E : Nat} {F : Nat → Prop} {w wr w1 : World} {bf b o : Nat} {B0 B B' : List UInt8} {bad0 bad bad' : Bool} {n j : Nat} {v : Value} {cs : List Value} {xs : List (Ty s)} {zs : Array Value} {T : TypeId}
    (h : LsR s E F w wr bf b o B0 bad0 B bad n j v cs xs) (g : RdH (.list s) F w bf b o B0 bad0) (k : RdP s F (wr.alloc (.cells zs T)) w1 bf wr.heap.size 0 B bad B' bad') :
    w1.ownsRow w.heap.size E (szc s) v xs.length cs ∧ w1.cell? ⟨b, o, none⟩ = some v ∧ w1.frozen? ⟨b, o, none⟩ = false ∧ wr.heap.size + 1 ≤ w1.heap.size ∧ w.heap.size ≤ wr.heap.size := by
  have hs1 := h.upd.size
  have hs2 := k.upd.size
  simp only [World.size_alloc] at hs2
  have hb := g.lt
  have hf := g.lf
  have hvb : ∀ q, v.ownBlock = some q → w.heap.size ≤ q ∧ q < wr.heap.size := fun q hq => h.own.lt q hq
  have hne : ¬ TR bf wr.heap.size 0 (szc s) b o := by
    rintro (e | ⟨e, _⟩)
    · exact g.ne e
    · omega
  refine ⟨⟨h.own.1, ?_⟩, ?_, ?_, hs2, hs1⟩
  · rcases h.own.2 with hn | ⟨q, cap, cur, rfl, hq, hh, rest⟩
    · exact .inl hn
    · refine .inr ⟨q, cap, cur, rfl, hq, ?_, rest⟩
      have hql := (hvb q rfl).2
      rw [k.upd.block q (by simp; omega) (fun i => by rintro (e | ⟨e, _⟩) <;> omega), Below.heap_alloc _ _ _ hql]
      exact hh
  · rw [k.upd.cell b o (by simp; omega) hne, World.cell?_alloc_lt _ _ _ (show b < wr.heap.size by omega)]
    exact h.cell
  · rw [k.upd.frozen b o (by simp; omega), World.frozen?_alloc_old _ _ _ (by simp; omega), h.upd.frozen b o hb]
    have := g.free 0 (by simp [szc])
    simpa using this

/-- Behind the append: what the store must find. -/
theorem append_other {E sz : Nat} {w1 w2 : World} {vs : List Value} {v : Value} {b o base n : Nat} {cs : List Value} {u : Value} (hown : w1.ownsRow base E sz v n cs) (hg : (w1.alloc (.cells vs.toArray E)).grownBy w2 v.ownBlock) (hb : b < base)
    (hc : w1.cell? ⟨b, o, none⟩ = some u) (hf : w1.frozen? ⟨b, o, none⟩ = false) : w2.cell? ⟨b, o, none⟩ = some u ∧ w2.frozen? ⟨b, o, none⟩ = false := by
  have hlt : b < w1.heap.size := World.block_lt_of_cell? w1 _ hc
  have e : w2.heap[b]? = w1.heap[b]? := (hg.block b (by simp; omega) (fun e => by have := (hown.lt b e.symm).1; omega)).trans (Below.heap_alloc _ _ _ hlt)
  exact ⟨(World.cell?_of_block (a := ⟨b, o, none⟩) e).trans hc, (World.frozen?_of_block (a := ⟨b, o, none⟩) e).trans hf⟩

/-! ### Regions that leave their order open: what is held may hang on what has come up -/
section
variable {P : Program} {ops : Array Oper} {Q : Exit → Act → World → Prop} {md : Region.Mode} {S : Array Bool → World → Prop}

/-- Whoever has come up waited for those that it waits for. -/
structure ClosedL (md : Region.Mode) (ops : Array Oper) (L : Array Bool) : Prop where
  size : L.size = ops.size
  closed : ∀ j oj, ops[j]? = some oj → L.getD j false = true → ∀ e ∈ oj.after, Region.binds md e = true → L.getD e.on false = true
theorem ClosedL.set {i : Nat} {L : Array Bool} (inv : ClosedL md ops L) (hi : i ∈ Region.ready md ops L) : ClosedL md ops (L.setIfInBounds i true) := by
  obtain ⟨_, oi, hoi, hall⟩ := mem_ready.1 hi
  refine ⟨by simp [inv.size], fun j oj hj hl e he hb => ?_⟩
  by_cases hij : i = j
  · subst hij
    have : oj = oi := Option.some.inj (hj.symm.trans hoi)
    subst this
    exact getD_set_true (hall e he hb)
  · rw [getD_set_ne false hij] at hl
    exact getD_set_true (inv.closed j oj hj hl e he hb)
theorem ClosedL.start : ClosedL md ops (Array.replicate ops.size false) := ⟨by simp, fun j oj _ h => by rw [getD_replicate_false] at h; cases h⟩
/-- Who waits for one that has not come up has not come up. -/
theorem ClosedL.not {i j : Nat} {L : Array Bool} (inv : ClosedL md ops L) (hw : Region.waitsFor md ops j i = true) (hi : L.getD i true = false) : L.getD j false = false := by
  obtain ⟨oj, hoj, e, he, hb, hon⟩ := Region.waitsFor_spec hw
  cases hl : L.getD j false with
  | false => rfl
  | true =>
    have := inv.closed j oj hoj hl e he hb
    rw [hon, getD_both hi] at this
    cases this

/-- As long as it has not come up, operation i leaves v in its temporary, wherever S holds, and does nothing else. -/
def YieldsS (P : Program) (md : Region.Mode) (ops : Array Oper) (S : Array Bool → World → Prop) (i : Nat) (o : Oper) (v : Value) (a : Act) : Prop :=
  (Region.wanted o (yielded ops a.tmps) = true ∧ ∀ L w, ClosedL md ops L → L.getD i true = false → S L w → (execOp a.eval o).run P w = .ok (.value v) w) ∨
  (Region.wanted o (yielded ops a.tmps) = false ∧ v = undef)

theorem YieldsS.wpOp {i : Nat} {o : Oper} {v : Value} {a : Act} (hi : ops[i]? = some o) (hy : YieldsS P md ops S i o v a)
    {K : Act → World → Prop} {w : World} {L : Array Bool} (hC : ClosedL md ops L) (hL : L.getD i true = false) (hS : S L w) (h : K (a.put o.dst v) w) : Go.wpOp P ops Q i K a w := by
  unfold Go.wpOp
  simp only [hi]
  rcases hy with ⟨hw, hv⟩ | ⟨hw, rfl⟩
  · simp only [hw, if_true, Oper.wp, hv L w hC hL hS, Oper.upon]; exact .inl h
  · simp only [hw, Bool.false_eq_true, if_false]; exact h

theorem YieldsS.of_same {i : Nat} {o : Oper} {v : Value} {a a' : Act} (hy : YieldsS P md ops S i o v a) (he : execOp a'.eval o = execOp a.eval o)
    (hw : Region.wanted o (yielded ops a'.tmps) = Region.wanted o (yielded ops a.tmps)) : YieldsS P md ops S i o v a' := by
  unfold YieldsS at *
  rw [he, hw]
  exact hy

theorem wpOp_putS {i j : Nat} {oi oj : Oper} {v : Value} (hj : ops[j]? = some oj) (hap : oi.apart ops oj = true)
    (hsi : ∀ cs b, oi.op ≠ .select cs b) (hsj : ∀ cs b, oj.op ≠ .select cs b)
    (hQ : ∀ c a w, Q (.panic c) (a.put oi.dst v) w → Q (.panic c) a w) {K : Act → World → Prop} {a : Act} {w : World}
    (hy : YieldsS P md ops S i oi v a) (h : Go.wpOp P ops Q j K (a.put oi.dst v) w) :
    Go.wpOp P ops Q j (fun a' w' => YieldsS P md ops S i oi v a' ∧ K (a'.put oi.dst v) w') a w := by
  obtain ⟨h1, h2, h3⟩ := Oper.apart_spec hap
  have keep : ∀ (a : Act), YieldsS P md ops S i oi v a → ∀ u, YieldsS P md ops S i oi v (a.put oj.dst u) := fun a hy u =>
    hy.of_same (execOp_put oi hsi a oj.dst u h3) (wanted_put oi a oj.dst u h3)
  have keepD : ∀ d, YieldsS P md ops S i oi v { a with defers := d :: a.defers } := fun d => hy.of_same rfl rfl
  unfold wpOp at *
  simp only [hj] at *
  rw [wanted_put oj a oi.dst v h1] at h
  split
  · rename_i hw
    simp only [hw, if_true] at h
    rcases h with h | ⟨hasks, hlets⟩
    case inr => exact .inr ⟨by unfold Oper.asks at *; rw [execOp_put oj hsj a oi.dst v h1] at hasks; exact hasks, hlets⟩
    refine .inl ?_
    unfold Oper.wp at *
    rw [execOp_put oj hsj a oi.dst v h1] at h
    generalize (execOp a.eval oj).run P w = r at *
    cases r with
    | ok n w' =>
      cases n <;> simp only [Oper.upon] at h ⊢
      case value u => exact ⟨keep a hy u, by rw [← Act.put_comm a v u h2]; exact h⟩
      case skip => exact ⟨keep a hy _, by rw [← Act.put_comm a v undef h2]; exact h⟩
      case defer d =>
        refine ⟨keep _ (keepD d) _, ?_⟩
        rw [← Act.put_comm _ v undef h2, ← Act.put_defers]
        exact h
      case enter f args =>
        refine Calls.mono h fun e w'' he => ?_
        cases e with
        | returned u => exact ⟨keep a hy u, by rw [← Act.put_comm a v u h2]; exact he⟩
        | panicked c => exact hQ _ _ _ he
        | outgrown => exact he
      case row row args => exact Rows.mono h fun u w'' he => ⟨keep a hy u, by rw [← Act.put_comm a v u h2]; exact he⟩
    | halt x w' =>
      cases x <;> simp only [Oper.upon] at h ⊢
      case panic u => exact hQ _ _ _ h
  · rename_i hw
    simp only [hw] at h
    exact ⟨keep a hy _, by rw [← Act.put_comm a v undef h2]; exact h⟩

/-- Whatever order is picked from here on, and S holds behind every operation, of what has come up by then. -/
def wpAnyS (P : Program) (md : Region.Mode) (ops : Array Oper) (Q : Exit → Act → World → Prop) (S : Array Bool → World → Prop) : Nat → Array Bool → Act → World → Prop
  | 0, listed, a, w => Region.ready md ops listed = [] ∧ Q .normal a w
  | fuel + 1, listed, a, w =>
    (Region.ready md ops listed = [] → Q .normal a w) ∧
    ∀ i ∈ Region.ready md ops listed, Go.wpOp P ops Q i (fun a' w' => S (listed.setIfInBounds i true) w' ∧ wpAnyS P md ops Q S fuel (listed.setIfInBounds i true) a' w') a w

theorem wpAny_of_S : ∀ (fuel : Nat) (listed : Array Bool) (a : Act) (w : World), wpAnyS P md ops Q S fuel listed a w → wpAny P md ops Q fuel listed a w
  | 0, _, _, _, h => h
  | fuel + 1, _, _, _, h => ⟨h.1, fun i hi => wpOp_mono (fun a' w' h' => wpAny_of_S fuel _ a' w' h'.2) (h.2 i hi)⟩

theorem wpAnyS_first {i : Nat} {oi : Oper} {v : Value} (hi : ops[i]? = some oi) (hsel : ∀ (j : Nat) (o : Oper) cs b, ops[j]? = some o → o.op ≠ .select cs b)
    (hQ : ∀ c a w, Q (.panic c) (a.put oi.dst v) w → Q (.panic c) a w) (hSi : ∀ L w, S (L.setIfInBounds i true) w → S L w) :
    ∀ (fuel : Nat) (listed : Array Bool) (a : Act) (w : World), ClosedL md ops listed →
      (∀ j oj, ops[j]? = some oj → j ≠ i → listed.getD j true = false → (∀ e ∈ oj.after, Region.binds md e = true → e.on ≠ i) → oi.apart ops oj = true) →
      i ∈ Region.ready md ops listed → YieldsS P md ops S i oi v a → S listed w → S (listed.setIfInBounds i true) w →
      wpAnyS P md ops Q S fuel (listed.setIfInBounds i true) (a.put oi.dst v) w → wpAnyS P md ops Q S (fuel + 1) listed a w := by
  intro fuel
  induction fuel with
  | zero =>
    intro listed a w hC _ hr hy hS hS' H
    refine ⟨fun h => (by rw [h] at hr; cases hr), fun j hj => ?_⟩
    by_cases hji : j = i
    · subst hji; exact hy.wpOp hi hC (mem_ready.1 hr).1 hS ⟨hS', H⟩
    · have := ready_mono hj hji
      rw [H.1] at this
      cases this
  | succ fuel ih =>
    intro listed a w hC hfree hr hy hS hS' H
    refine ⟨fun h => (by rw [h] at hr; cases hr), fun j hj => ?_⟩
    by_cases hji : j = i
    · subst hji; exact hy.wpOp hi hC (mem_ready.1 hr).1 hS ⟨hS', H⟩
    · have h1 := H.2 j (ready_mono hj hji)
      obtain ⟨hjun, oj, hoj, hall⟩ := mem_ready.1 hj
      have hnot : ∀ e ∈ oj.after, Region.binds md e = true → e.on ≠ i := fun e he hb heq => by
        have h1 := hall e he hb
        have h0 := (mem_ready.1 hr).1
        rw [heq] at h1
        rcases Nat.lt_or_ge i listed.size with h' | h'
        · simp [h'] at h0 h1; rw [h0] at h1; cases h1
        · simp [Array.getElem?_eq_none h'] at h1
      have h2 := wpOp_putS hoj (hfree j oj hoj hji hjun hnot) (fun cs b => hsel i oi cs b hi) (fun cs b => hsel j oj cs b hoj) hQ hy h1
      have hfree' : ∀ k ok, ops[k]? = some ok → k ≠ i → (listed.setIfInBounds j true).getD k true = false →
          (∀ e ∈ ok.after, Region.binds md e = true → e.on ≠ i) → oi.apart ops ok = true := fun k ok hk hki hun hno => by
        refine hfree k ok hk hki ?_ hno
        by_cases hjk : j = k
        · subst hjk; exact hjun
        · rw [getD_set_ne true hjk] at hun; exact hun
      refine wpOp_mono (fun a' w' h3 => ?_) h2
      have e := Array.setIfInBounds_comm (xs := listed) true true hji
      have h4 : S ((listed.setIfInBounds j true).setIfInBounds i true) w' := by rw [e]; exact h3.2.1
      refine ⟨hSi _ _ h4, ih (listed.setIfInBounds j true) a' w' (hC.set hj) hfree' (ready_mono hr (Ne.symm hji)) h3.1 (hSi _ _ h4) h4 ?_⟩
      rw [e]
      exact h3.2.2

/-- Take number i first. -/
theorem wpAnyS_take {i : Nat} {oi : Oper} {v : Value} {fuel : Nat} {listed : Array Bool} {a : Act} {w : World} (hi : ops[i]? = some oi)
    (hs : Region.noSelect ops = true) (hf : Region.free md ops listed i = true) (hr : (Region.ready md ops listed).contains i = true)
    (hQ : ∀ c a w, Q (.panic c) (a.put oi.dst v) w → Q (.panic c) a w) (hSi : ∀ L w, S (L.setIfInBounds i true) w → S L w) (hy : YieldsS P md ops S i oi v a) (hC : ClosedL md ops listed) (hS : S listed w) (hS' : S (listed.setIfInBounds i true) w)
    (h : wpAnyS P md ops Q S fuel (listed.setIfInBounds i true) (a.put oi.dst v) w) : wpAnyS P md ops Q S (fuel + 1) listed a w :=
  wpAnyS_first hi (Region.noSelect_spec hs) hQ hSi fuel listed a w hC (Region.free_spec hi hf) (by simpa using hr) hy hS hS' h

/-- The same, what has come up and the frame told anew. -/
theorem wpAnyS_take' {i : Nat} {oi : Oper} {v : Value} {fuel : Nat} {listed L' : Array Bool} {a a' : Act} {w : World} (hi : ops[i]? = some oi)
    (hL : listed.setIfInBounds i true = L') (ha : a.put oi.dst v = a')
    (hs : Region.noSelect ops = true) (hf : Region.free md ops listed i = true) (hr : (Region.ready md ops listed).contains i = true)
    (hQ : ∀ c a w, Q (.panic c) (a.put oi.dst v) w → Q (.panic c) a w) (hSi : ∀ L w, S (L.setIfInBounds i true) w → S L w) (hy : YieldsS P md ops S i oi v a) (hC : ClosedL md ops listed) (hS : S listed w) (hS' : S L' w)
    (h : wpAnyS P md ops Q S fuel L' a' w) : wpAnyS P md ops Q S (fuel + 1) listed a w := by
  subst hL
  subst ha
  exact wpAnyS_take hi hs hf hr hQ hSi hy hC hS hS' h
theorem wpOp_of_list {i : Nat} {o : Oper} {K : Act → World → Prop} {a : Act} {w : World} (hi : ops[i]? = some o) (h : wpList P ops (Exit.then K Q) [o] a w) : Go.wpOp P ops Q i K a w := by
  unfold Go.wpOp
  simp only [hi]
  unfold wpList at h
  split at h
  · rename_i hw
    rw [if_pos hw]
    rcases h with h | h
    · refine .inl ?_
      unfold Oper.wp at *
      generalize (execOp a.eval o).run P w = r at *
      cases r with
      | ok n w' =>
        cases n <;> simp only [Oper.upon] at h ⊢ <;> exact h
      | halt x w' =>
        cases x <;> simp only [Oper.upon] at h ⊢ <;> exact h
    · exact .inr h
  · rename_i hw
    rw [if_neg hw]
    exact h

/-- The only one that may come up. -/
theorem wpAnyS_one {i : Nat} {o : Oper} {fuel : Nat} {listed L' : Array Bool} {a : Act} {w : World} (hr : Region.ready md ops listed = [i]) (hL : listed.setIfInBounds i true = L') (hi : ops[i]? = some o)
    (h : wpList P ops (Exit.then (fun a' w' => S L' w' ∧ wpAnyS P md ops Q S fuel L' a' w') Q) [o] a w) : wpAnyS P md ops Q S (fuel + 1) listed a w := by
  subst hL
  exact ⟨fun h0 => (by rw [hr] at h0; cases h0), fun j hj => by
    rw [hr] at hj
    simp at hj
    subst hj
    exact wpOp_of_list hi h⟩

theorem wpAnyS_act {fuel : Nat} {listed : Array Bool} {a a' : Act} {w : World} (ha : a = a') (h : wpAnyS P md ops Q S fuel listed a' w) : wpAnyS P md ops Q S fuel listed a w := ha ▸ h
theorem wpAnyS_done {listed : Array Bool} {a : Act} {w : World} (hr : Region.ready md ops listed = []) (h : Q .normal a w) :
    ∀ fuel, wpAnyS P md ops Q S fuel listed a w
  | 0 => ⟨hr, h⟩
  | _ + 1 => ⟨fun _ => h, by rw [hr]; simp⟩

/-- The beginning. -/
theorem wp_region_S (S : Array Bool → World → Prop) {id n : Nat} {L : Array Bool} {a : Act} {w : World} (hm : P.follows .mixedOrders = true) (hn : ops.size = n) (hL : Array.replicate n false = L)
    (h : wpAnyS P .any ops Q S n L a w.drew) : (Code.region id ops true).wp P Q a w := by
  subst hL
  subst hn
  exact wp_region_any hm (wpAny_of_S _ _ _ _ h)

/-- The same, by reckoning. -/
def closedBool (md : Region.Mode) (ops : Array Oper) (L : Array Bool) : Bool :=
  L.size == ops.size && (List.range ops.size).all fun j => !(L.getD j false) || (match ops[j]? with
    | some oj => oj.after.all fun e => !(Region.binds md e) || L.getD e.on false
    | none => true)
theorem closedB {L : Array Bool} (h : closedBool md ops L = true) : ClosedL md ops L := by
  unfold closedBool at h
  simp only [Bool.and_eq_true, beq_iff_eq, List.all_eq_true, List.mem_range, Bool.or_eq_true, Bool.not_eq_true'] at h
  refine ⟨h.1, fun j oj hj hl e he hb => ?_⟩
  have hlt : j < ops.size := (Array.getElem?_eq_some_iff.1 hj).1
  have h2 := h.2 j hlt
  rw [hj] at h2
  rcases h2 with h2 | h2
  · rw [hl] at h2; cases h2
  · simp only [Array.all_eq_true'] at h2
    have h3 := h2 e he
    rw [hb] at h3
    simpa using h3
end
end Cod
