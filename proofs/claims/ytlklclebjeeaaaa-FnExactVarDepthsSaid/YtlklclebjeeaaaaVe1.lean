/- Words for the laws' proofs (part 1): contracts of functions, and plain lemmas. -/
import Derived.ArgAppend
import Derived.Below
import Derived.BigQuiet
import Derived.Deep.AppendLies
import Derived.Deep.CutBlock
import Derived.Deep.DeepCutAuto
import Derived.Deep.Draws
import Derived.Deep.LoopGhost
import Derived.Deep.OwnRows
import Derived.Deep.QuietTactic
import Derived.Deep.RegionHeld3
import Derived.JoinedOf
import Derived.KernelRfl
import Derived.Laws.BitsLemmas
import Derived.Laws.BytesArg
import Derived.Laws.IdiomCopy
import Derived.Laws.MakeOwn
import Derived.Laws.OwnMore
import Derived.Laws.Rows
import Derived.Laws.Slices
import Derived.Laws.StructEq
import Derived.Lib.AppendStr
import Derived.Lib.ConvBytes
import Derived.Lib.Hide
import Derived.Maps.AppendAt
import Derived.OrdersHeld
import Derived.Outline
import Derived.OwnWalk
import Derived.RowKit
import Derived.RowKit3
import Derived.Shelf.Abstract
import Derived.Tactics
import Derived.Test.YtlklclebjeeaaaaProg
import Derived.Test.YtlklclebjeeaaaaRows
import Derived.WalkKit
import Derived.WideLaws
section
namespace Go.Proofs.Ytlklclebjeeaaaa
open Go
set_option maxRecDepth 100000
set_option linter.unusedVariables false
theorem startLine : ∃ r, Try.prog.initOrder.toList = List.take 80 Try.prog.initOrder.toList ++ r := ⟨List.drop 80 Try.prog.initOrder.toList, by rw [List.take_append_drop]⟩
theorem words_of (r : List Char) : behindMainWord (wordsSigns (List.take 80 Try.prog.initOrder.toList ++ r)) = "cut".toList :: "at".toList :: wordsSigns r := by
  rw [show Try.prog.initOrder.toList = _ from String.toList_ofList]
  kernel_rfl
theorem laysLater_no : Try.prog.laysLater = false := by kernel_rfl
theorem bearsReflect_no : Try.prog.bearsReflect = false := by kernel_rfl
theorem doorFits_yes : Try.prog.doorFits [] = true := by kernel_rfl
theorem strip_cut (ws : List (List Char)) : stripLifts liftWords ("cut".toList :: ws) = ([], "cut".toList :: ws) := by kernel_rfl
theorem mayEnter_of (P : Program) (r : List (List Char)) (h : behindMainWord (wordsSigns P.initOrder.toList) = "cut".toList :: "at".toList :: r) (h1 : P.laysLater = false) (h2 : P.bearsReflect = false) (h3 : P.doorFits [] = true) : P.mayEnter = true := by
  unfold Program.mayEnter
  rw [h]
  dsimp only
  rw [strip_cut, h1, h2, h3]
  kernel_rfl
theorem headLifts_of (P : Program) (r : List (List Char)) (h : behindMainWord (wordsSigns P.initOrder.toList) = "cut".toList :: "at".toList :: r) : P.headLifts = [] := by
  unfold Program.headLifts
  rw [h, strip_cut]
  kernel_rfl
theorem liftsFinal_of (P : Program) (r : List (List Char)) (h : behindMainWord (wordsSigns P.initOrder.toList) = "cut".toList :: "at".toList :: r) : P.liftsFinal = false := by
  unfold Program.liftsFinal
  rw [headLifts_of P r h, h]
  kernel_rfl
theorem make_of (P : Program) (r : List (List Char)) (h : behindMainWord (wordsSigns P.initOrder.toList) = "cut".toList :: "at".toList :: r) : P.make = some .cut := by
  unfold Program.make
  rw [h]
  kernel_rfl
theorem start_words : ∃ r, behindMainWord (wordsSigns Try.prog.initOrder.toList) = "cut".toList :: "at".toList :: r := by
  obtain ⟨r, hr⟩ := startLine
  exact ⟨wordsSigns r, (congrArg (fun l => behindMainWord (wordsSigns l)) hr).trans (words_of r)⟩
theorem mayEnter_yes : Try.prog.mayEnter = true := by
  obtain ⟨r, h⟩ := start_words
  exact mayEnter_of _ r h laysLater_no bearsReflect_no doorFits_yes
theorem liftsFinal_no : Try.prog.liftsFinal = false := by
  obtain ⟨r, h⟩ := start_words
  exact liftsFinal_of _ r h
theorem make_cut : Try.prog.make = some .cut := by
  obtain ⟨r, h⟩ := start_words
  exact make_of _ r h
end Go.Proofs.Ytlklclebjeeaaaa
end
section
namespace Go.Proofs.Ytlklclebjeeaaaa
/-- A form: kind, name, number, scopes, parts. -/
structure Fm where
  f0 : Int
  f1 : ByteArray
  f2 : Int
  f3 : List Int
  f4 : List Fm
/-- A binding: name, scopes, number. -/
structure Bd where
  f0 : ByteArray
  f1 : List Int
  f2 : Int
/-- A hit: name, depth, one form, many hits. -/
structure Ht where
  f0 : Fm
  f1 : Int
  f2 : Fm
  f3 : List Ht
end Go.Proofs.Ytlklclebjeeaaaa
end
section
-- PRINTED WORDS (module Derived/Print/Words.lean): go-wishes' parts 1 to 38 and go-gate-2's additions: AI agents of Go's test side, Mon Nov 16 2026; no person has read them. Plain theorems and definitions: no macro, no elab, no axiom.
set_option linter.unusedVariables false
set_option linter.unusedSimpArgs false
namespace Go.Proofs.YtlklclebjeeaaaaW.PrintWords
open Go.RowKit

/-- A fact that the walk's simp doesn't look into. -/
structure Aside0 (p : Prop) : Prop where mk :: (out : p)
/-- The world is the old one, some orders having been drawn. -/
structure Drawn0 (w w' : World) : Prop where mk :: (out : ∃ n, w' = w.drewN n)
theorem Drawn0.refl (w : World) : Drawn0 w w := ⟨⟨0, rfl⟩⟩
theorem Drawn0.step {w w' : World} (h : Drawn0 w w') (n : Nat) : Drawn0 w (w'.drewN n) := by
  obtain ⟨m, rfl⟩ := h
  exact ⟨⟨m + n, World.drewN_drewN ..⟩⟩
theorem Drawn0.grown {w w' : World} (h : Drawn0 w w') : Grown w w' := by
  obtain ⟨n, rfl⟩ := h
  induction n with
  | zero => exact Grown.refl _
  | succ n ih => rw [← World.drew_drewN]; exact Grown.drew ih
theorem Drawn0.below {w w' : World} (h : Drawn0 w w') : Below w.heap.size w w' := by
  obtain ⟨n, rfl⟩ := h
  induction n with
  | zero => exact Below.refl _ _
  | succ n ih => rw [← World.drew_drewN]; exact ih.drew


/-! ### 1. Values and lists -/
def rd (xs : List Int) (i : Int) : Int := xs.getD i.toNat 0
def bt (s : ByteArray) (i : Int) : Int := if h : i.toNat < s.size then ((s[i.toNat]'h).toNat : Int) else 0
def nums (k : IntKind) (xs : List Int) : List Value := xs.map fun x => .int k x
def bools (xs : List Bool) : List Value := xs.map fun x => .bool x
def pw_strs (xs : List ByteArray) : List Value := xs.map fun x => .string x
theorem nums_length (k : IntKind) (xs : List Int) : (nums k xs).length = xs.length := by simp [nums]
/-! ### 2. The world -/
theorem below_alloc {w W : World} (h : Below w.heap.size w W) (o : Obj) : Below w.heap.size w (W.alloc o) := h.alloc h.size o
theorem below_drew {B : Nat} {w W : World} (h : Below B w W) : Below B w W.drew := ⟨h.os, h.tape, h.output, h.size, h.block⟩
theorem pw_below_drewN {B : Nat} {w W : World} (h : Below B w W) (n : Nat) : Below B w (W.drewN n) := ⟨h.os, h.tape, h.output, h.size, h.block⟩
theorem below_then {B : Nat} {w w1 w2 : World} (h : Below B w w1) (hB : B ≤ w1.heap.size) (k : Below w1.heap.size w1 w2) : Below B w w2 :=
  h.trans ⟨k.os, k.tape, k.output, k.size, fun i hi => k.block i (Nat.lt_of_lt_of_le hi hB)⟩
theorem grown_of_below {w w1 : World} (h : Below w.heap.size w w1) (row : Option Nat) : w.grownBy w1 row := ⟨h.os, h.tape, h.output, h.size, fun i hi _ => h.block i hi⟩
theorem pw_cell_below {w w1 : World} (h : Below w.heap.size w w1) {a : Addr} {v : Value} (hc : w.cell? a = some v) : w1.cell? a = some v := (h.cell (World.block_lt_of_cell? w a hc)).trans hc

theorem add_plain (g j : Nat) : (⟨g, 0, none⟩ : Addr).add j = ⟨g, j, none⟩ := by unfold Addr.add; split <;> simp_all

/-! ### 3. A slice of whole numbers that is read; nil, empty and other slices alike -/
def ReadsInt (w : World) (k : IntKind) (A : Option Addr) (n : Nat) (xs : List Int) : Prop :=
  xs.length = n ∧ n ≤ 9223372036854775807 ∧ (0 < n → ∃ ad, A = some ad ∧ ∀ j, j < n → w.cell? (ad.add j) = some (.int k (xs.getD j 0)))
theorem ReadsInt.at_ {w : World} {k : IntKind} {A : Option Addr} {n : Nat} {xs : List Int} (h : ReadsInt w k A n xs) (i : Int) (h0 : 0 ≤ i) (h1 : i < n) : ∃ ad, A = some ad ∧ w.cell? (ad.add i.toNat) = some (.int k (rd xs i)) := by
  obtain ⟨ad, e, hc⟩ := h.2.2 (by omega)
  exact ⟨ad, e, hc _ (by omega)⟩
theorem ReadsInt.below {w w1 : World} {k : IntKind} {A : Option Addr} {n : Nat} {xs : List Int} (h : ReadsInt w k A n xs) (hb : Below w.heap.size w w1) : ReadsInt w1 k A n xs :=
  ⟨h.1, h.2.1, fun hn => by
    obtain ⟨ad, e, hc⟩ := h.2.2 hn
    exact ⟨ad, e, fun j hj => pw_cell_below hb (hc j hj)⟩⟩

/-! ### 4. A row of the call's own -/
theorem own_nil (W : World) (base : Nat) (e : TypeId) (size : Nat) : W.ownsRow base e size (.slice none 0 0) 0 [] := ⟨by simp, .inl ⟨rfl, rfl⟩⟩
theorem own_base {w : World} {base : Nat} {e : TypeId} {size n : Nat} {v : Value} {xs : List Value} (h : w.ownsRow base e size v n xs) (k : Nat) (hk : v.ownBlock = some k) : base ≤ k := by
  rcases h.2 with ⟨rfl, _⟩ | ⟨g, cap, cur, rfl, hb, _⟩
  · simp [Value.ownBlock] at hk
  · have : g = k := by simpa [Value.ownBlock] using hk
    omega
theorem own_lt {w : World} {base : Nat} {e : TypeId} {size n : Nat} {v : Value} {xs : List Value} (h : w.ownsRow base e size v n xs) (k : Nat) (hk : v.ownBlock = some k) : k < w.heap.size := by
  rcases h.2 with ⟨rfl, _⟩ | ⟨g, cap, cur, rfl, hb, hh, _⟩
  · simp [Value.ownBlock] at hk
  · have : g = k := by simpa [Value.ownBlock] using hk
    subst this
    exact (Array.getElem?_eq_some_iff.1 hh).1
theorem pw_own_below {w w1 : World} {base : Nat} {e : TypeId} {size n : Nat} {v : Value} {xs : List Value} (h : w.ownsRow base e size v n xs) (hb : Below w.heap.size w w1) : w1.ownsRow base e size v n xs :=
  h.kept (grown_of_below hb none) (by cases v.ownBlock <;> simp)
/-- What is written is another row: this one lives on. -/
theorem own_other {w w1 : World} {base : Nat} {e : TypeId} {size n : Nat} {v : Value} {xs : List Value} (h : w.ownsRow base e size v n xs) {row : Option Nat} (hg : w.grownBy w1 row) (hne : v.ownBlock = none ∨ v.ownBlock ≠ row) : w1.ownsRow base e size v n xs := h.kept hg hne
/-- The shape of whatever is owned. -/
theorem own_slice {w : World} {base n : Nat} {e : TypeId} {size : Nat} {v : Value} {xs : List Value} (h : w.ownsRow base e size v n xs) : ∃ A c, v = .slice A n c := by
  rcases h.2 with ⟨rfl, rfl⟩ | ⟨g, cap, cur, rfl, _⟩
  · exact ⟨none, 0, rfl⟩
  · exact ⟨_, cap, rfl⟩
/-! ### 5. append(v, x): behind 'at_builtin'; the goal's world is 'W.alloc' of the variadic's box -/
section
variable {P : Program} {ops : Array Oper} {rest : List Oper} {o : Oper} {a : Act} {Q : Exit → Act → World → Prop}

theorem print_append {w0 W : World} (base : Nat) (hgd : o.guard = none) (s x : Operand) (t e : TypeId) (z : Value) (bytes : Nat)
    (ho : o.op = .call { callee := .builtin .append, args := #[s, x], argTypes := #[t, t] })
    (ht : P.underlying t = some (.slice e)) (hinfo : (P.info? e).map (fun i => (i.zero, i.size, i.bytes)) = some (some z, 1, bytes)) (hz : z.cells.size = 1) (hb0 : 0 < bytes)
    (v : Value) (xs : List Value) (y : Value) (hs : a.eval s = v) (hx : a.eval x = .slice (some ⟨W.heap.size, 0, none⟩) 1 1) (h1 : y.oneCell' = true)
    (HO : W.ownsRow base e 1 v xs.length xs) (HB : Below base w0 W) (hbase : base ≤ W.heap.size) (hl : (xs.length + 1) * bytes ≤ 140737488355328)
    (h : ∀ v1 w1, w1.ownsRow base e 1 v1 (xs ++ [y]).length (xs ++ [y]) → Below base w0 w1 → W.grownBy w1 v.ownBlock → (v1.ownBlock = v.ownBlock ∨ ∃ b, v1.ownBlock = some b ∧ W.heap.size ≤ b) → wpList P ops Q rest (a.put o.dst v1) w1) :
    wpList P ops Q (o :: rest) a (W.alloc (.cells #[y] e)) := by
  obtain ⟨i0, hi, hzz⟩ := Option.map_eq_some_iff.1 hinfo
  simp only [Prod.mk.injEq] at hzz
  obtain ⟨hz0, hz1, hz2⟩ := hzz
  have hlen : xs.length + 1 ≤ 140737488355328 := Nat.le_trans (Nat.le_mul_of_pos_right _ hb0) hl
  refine wpList_append_own_at (W.alloc (.cells #[y] e)) hgd s x t ho base e i0 z 1 bytes ht hi hz0 hz1 hz2 hz (by omega) v xs.length xs hs (HO.alloc _) ⟨W.heap.size, 0, none⟩ 1 1 [y] hx rfl
    (World.news_of_block (cs := #[y]) (t := e) (fr := (0, 0)) (heap_alloc_new W _)) (by simpa using h1) (by simp only [maxLen]; omega) hl (by simp; omega) ?_
  intro v1 w1 hown hg _ hat
  refine h v1 w1 (by simpa using hown) ((HB.alloc hbase _).grown hg (by simp; omega) (own_base HO)) (World.grownBy.trans (World.grownBy_alloc W _ _) hg) ?_
  rcases hat with hat | hat
  · exact .inl hat
  · exact .inr ⟨_, hat, by simp⟩

/-- The same for whole numbers. -/
theorem print_append_num {w0 W : World} (base : Nat) (hgd : o.guard = none) (s x : Operand) (t e : TypeId) (k : IntKind) (bytes : Nat)
    (ho : o.op = .call { callee := .builtin .append, args := #[s, x], argTypes := #[t, t] })
    (ht : P.underlying t = some (.slice e)) (hinfo : (P.info? e).map (fun i => (i.zero, i.size, i.bytes)) = some (some (.int k 0), 1, bytes)) (hb0 : 0 < bytes)
    (v : Value) (xs : List Int) (y : Int) (hs : a.eval s = v) (hx : a.eval x = .slice (some ⟨W.heap.size, 0, none⟩) 1 1)
    (HO : W.ownsRow base e 1 v xs.length (nums k xs)) (HB : Below base w0 W) (hbase : base ≤ W.heap.size) (hl : (xs.length + 1) * bytes ≤ 140737488355328)
    (h : ∀ v1 w1, w1.ownsRow base e 1 v1 (xs ++ [y]).length (nums k (xs ++ [y])) → Below base w0 w1 → W.grownBy w1 v.ownBlock → (v1.ownBlock = v.ownBlock ∨ ∃ b, v1.ownBlock = some b ∧ W.heap.size ≤ b) → wpList P ops Q rest (a.put o.dst v1) w1) :
    wpList P ops Q (o :: rest) a (W.alloc (.cells #[.int k y] e)) :=
  print_append base hgd s x t e (.int k 0) bytes ho ht hinfo rfl hb0 v (nums k xs) (.int k y) hs hx rfl (by rw [nums_length]; exact HO) HB hbase (by rw [nums_length]; exact hl)
    fun v1 w1 hown hB hg hat => h v1 w1 (by simpa [nums] using hown) hB hg hat
end

/-! ### 6. make([]T, n), n an Int; a literal -/
section
variable {P : Program}
end
theorem own_lit (W : World) (base : Nat) (e : TypeId) (k : IntKind) (xs : List Int) (hb : base ≤ W.heap.size) (hm : xs.length ≤ 9223372036854775807) :
    (W.alloc (.cells (nums k xs).toArray e)).ownsRow base e 1 (.slice (some ⟨W.heap.size, 0, none⟩) xs.length xs.length) xs.length (nums k xs) := by
  have h := World.ownsRow_lit (base := base) (e := e) (size := 1) W (nums k xs).toArray xs.length hb (by simpa [maxLen] using hm) (by simp [nums])
  simpa using h

/-! ### 7. v[i] read and v[i] = x, v a row of the call's own: 'obtain ⟨g, cap, rfl, hgb, hgl⟩ := HO.out.form (by omega)' first -/
theorem own_at {W : World} {base g n cap : Nat} {e : TypeId} {k : IntKind} {xs : List Int} (h : W.ownsRow base e 1 (.slice (some ⟨g, 0, none⟩) n cap) n (nums k xs)) (i : Int) (h0 : 0 ≤ i) (h1 : i < n) :
    W.cell? ⟨g, i.toNat, none⟩ = some (.int k (rd xs i)) ∧ W.frozen? ⟨g, i.toNat, none⟩ = false := by
  have hl : xs.length = n := by have := h.1; simp [nums] at this; exact this
  constructor
  · have hc := h.cells (g := g) rfl i.toNat (.int k (rd xs i)) (by simp [nums, rd, List.getElem?_eq_getElem (show i.toNat < xs.length by omega), List.getD_eq_getElem?_getD])
    rwa [add_plain] at hc
  · rcases h.2 with ⟨h', _⟩ | ⟨g', cap', cur, h', _, hh, _⟩
    · cases h'
    · have : g = g' := by injection h' with h'; injection h' with h'; injection h' with h'
      subst this
      simp [World.frozen?, hh]
/-! ### 8. append(v, ys...): ys a slice that is read, nil let in; behind 'at_builtin' -/
section
variable {P : Program} {ops : Array Oper} {rest : List Oper} {o : Oper} {a : Act} {Q : Exit → Act → World → Prop}
end

/-! ### 9. []byte(s): a slice that is read (its row bears a conversion's mark: no row of one's own); cuts of a slice that is read -/
def bytesOf (s : ByteArray) : List Int := s.data.toList.map fun b => (b.toNat : Int)
/-- 'xs[:k]' and 'xs[k:]' of a slice that is read; the address of the second as_ the walk has it. -/
theorem ReadsInt.take_ {w : World} {k : IntKind} {A : Option Addr} {n : Nat} {xs : List Int} (h : ReadsInt w k A n xs) (i : Nat) (hi : i ≤ n) : ReadsInt w k A i (xs.take i) := by
  refine ⟨by rw [List.length_take, h.1]; omega, by have := h.2.1; omega, fun hp => ?_⟩
  obtain ⟨ad, e, hc⟩ := h.2.2 (by omega)
  refine ⟨ad, e, fun j hj => ?_⟩
  rw [hc j (by omega)]
  simp [List.getD_eq_getElem?_getD, hj]
/-! ### 10. Rounds: more rounds give the same answer; what ends gives a number of rounds -/
/-- Where the first answers, the second answers the same. -/
def LeO {α : Type} (a b : Option α) : Prop := ∀ r, a = some r → b = some r
theorem LeO.refl {α : Type} (a : Option α) : LeO a a := fun _ h => h
theorem LeO.none {α : Type} (b : Option α) : LeO Option.none b := fun _ h => by cases h
theorem LeO.trans {α : Type} {a b c : Option α} (h : LeO a b) (k : LeO b c) : LeO a c := fun r hr => k r (h r hr)
theorem LeO.ite {α : Type} {c : Prop} [Decidable c] {a a' b b' : Option α} (h : LeO a a') (k : LeO b b') : LeO (if c then a else b) (if c then a' else b') := by
  split
  · exact h
  · exact k
theorem LeO.bind {α β : Type} {a a' : Option α} {f f' : α → Option β} (h : LeO a a') (k : ∀ x, LeO (f x) (f' x)) : LeO (a.bind f) (a'.bind f') := by
  intro r hr
  obtain ⟨x, hx, hf⟩ := Option.bind_eq_some_iff.1 hr
  exact Option.bind_eq_some_iff.2 ⟨x, h x hx, k x r hf⟩
theorem LeO.map {α β : Type} {a a' : Option α} (f : α → β) (h : LeO a a') : LeO (a.map f) (a'.map f) := by
  intro r hr
  obtain ⟨x, hx, hf⟩ := Option.map_eq_some_iff.1 hr
  exact Option.map_eq_some_iff.2 ⟨x, h x hx, hf⟩
theorem more_rounds {α : Type} {g : Nat → Option α} (h : ∀ k, LeO (g k) (g (k + 1))) (k : Nat) : ∀ j, LeO (g k) (g (k + j))
  | 0 => LeO.refl _
  | j + 1 => (more_rounds h k j).trans (h (k + j))
theorem at_rounds {α : Type} {g : Nat → Option α} (h : ∀ k, LeO (g k) (g (k + 1))) {k k' : Nat} (hk : k ≤ k') {r : α} (hr : g k = some r) : g k' = some r := by
  have := more_rounds h k (k' - k) r hr
  rwa [Nat.add_sub_cancel' hk] at this
/-! ### 11. Rows of elements of several cells (structs): read, made. R: what an element's cells say ('RepItem w': printed for each type) -/
def Reps {α : Type} (R : α → List Value → Prop) (size : Nat) (ps : List α) (cs : List Value) : Prop :=
  cs.length = ps.length * size ∧ ∀ j p, ps[j]? = some p → R p ((cs.drop (j * size)).take size)
theorem Reps.none {α : Type} (R : α → List Value → Prop) (size : Nat) : Reps R size [] [] := ⟨by simp, fun j p h => by simp at h⟩
theorem Reps.snoc {α : Type} {R : α → List Value → Prop} {size : Nat} {ps : List α} {cs c : List Value} {p : α} (h : Reps R size ps cs) (hp : R p c) (hc : c.length = size) : Reps R size (ps ++ [p]) (cs ++ c) := by
  refine ⟨by rw [List.length_append, h.1, hc, List.length_append, List.length_singleton, Nat.add_mul, Nat.one_mul], fun j q hq => ?_⟩
  rcases Nat.lt_or_ge j ps.length with hj | hj
  · rw [List.getElem?_append_left hj] at hq
    have h1 : j * size + size ≤ cs.length := by rw [h.1, ← Nat.succ_mul]; exact Nat.mul_le_mul_right _ hj
    have h2 := h.2 j q hq
    rw [List.drop_append_of_le_length (by omega), List.take_append_of_le_length (by rw [List.length_drop]; omega)]
    exact h2
  · have hj' : j = ps.length := by
      have := (List.getElem?_eq_some_iff.1 hq).1
      rw [List.length_append, List.length_singleton] at this
      omega
    subst hj'
    have hq' : p = q := by simpa using hq
    subst hq'
    rw [← h.1, List.drop_left, ← hc, List.take_length]
    exact hp
theorem Reps.imp_ {α : Type} {R R' : α → List Value → Prop} {size : Nat} {ps : List α} {cs : List Value} (h : Reps R size ps cs) (hR : ∀ p c, R p c → R' p c) : Reps R' size ps cs := ⟨h.1, fun j p hj => hR _ _ (h.2 j p hj)⟩

def ReadsRow {α : Type} (R : α → List Value → Prop) (size : Nat) (w : World) (A : Option Addr) (n : Nat) (ps : List α) : Prop :=
  ps.length = n ∧ n ≤ 9223372036854775807 ∧ (0 < n → ∃ ad, A = some ad ∧ ∀ j p, ps[j]? = some p → ∃ c, c.length = size ∧ R p c ∧ ∀ i u, c[i]? = some u → w.cell? (ad.add (j * size + i)) = some u)
theorem ReadsRow.get_ {α : Type} {R : α → List Value → Prop} {size : Nat} {w : World} {A : Option Addr} {n : Nat} {ps : List α} (h : ReadsRow R size w A n ps) (d : α) (i : Int) (h0 : 0 ≤ i) (h1 : i < n) :
    ∃ ad c, A = some ad ∧ c.length = size ∧ R (ps.getD i.toNat d) c ∧ ∀ j u, c[j]? = some u → w.cell? (ad.add (i.toNat * size + j)) = some u := by
  obtain ⟨ad, e, hc⟩ := h.2.2 (by omega)
  have hl : i.toNat < ps.length := by have := h.1; omega
  obtain ⟨c, hs, hr, hcell⟩ := hc i.toNat _ (List.getElem?_eq_getElem hl)
  refine ⟨ad, c, e, hs, ?_, hcell⟩
  rw [List.getD_eq_getElem?_getD, List.getElem?_eq_getElem hl]
  exact hr
theorem ReadsRow.imp_ {α : Type} {R R' : α → List Value → Prop} {size : Nat} {w w1 : World} {A : Option Addr} {n : Nat} {ps : List α} (h : ReadsRow R size w A n ps) (hb : Below w.heap.size w w1) (hR : ∀ p c, R p c → R' p c) : ReadsRow R' size w1 A n ps :=
  ⟨h.1, h.2.1, fun hn => by
    obtain ⟨ad, e, hc⟩ := h.2.2 hn
    refine ⟨ad, e, fun j p hj => ?_⟩
    obtain ⟨c, hs, hr, hcell⟩ := hc j p hj
    exact ⟨c, hs, hR _ _ hr, fun i u hu => pw_cell_below hb (hcell i u hu)⟩⟩
theorem own_reads_row {α : Type} {R : α → List Value → Prop} {w : World} {base n size : Nat} {e : TypeId} {v : Value} {ps : List α} {cs : List Value} (h : w.ownsRow base e size v n cs) (hR : Reps R size ps cs) (hn : ps.length = n) :
    ∃ A c, v = .slice A n c ∧ ReadsRow R size w A n ps := by
  rcases Nat.eq_zero_or_pos n with h0 | h0
  · rcases h.2 with ⟨rfl, rfl⟩ | ⟨g, cap, cur, rfl, _⟩
    · exact ⟨none, 0, rfl, hn, by omega, fun hp => absurd hp (by omega)⟩
    · exact ⟨_, cap, rfl, hn, by omega, fun hp => absurd hp (by omega)⟩
  · obtain ⟨g, cap, rfl, _, _⟩ := h.form h0
    have hm : n ≤ 9223372036854775807 := by
      rcases h.2 with ⟨_, h1⟩ | ⟨g', cap', cur, he, _, _, h1, h2, _⟩
      · omega
      · simp only [maxLen] at h2
        omega
    refine ⟨_, cap, rfl, hn, hm, fun _ => ⟨_, rfl, fun j p hj => ⟨(cs.drop (j * size)).take size, ?_, hR.2 j p hj, fun i u hu => ?_⟩⟩⟩
    · have hjl := (List.getElem?_eq_some_iff.1 hj).1
      have h1 : j * size + size ≤ cs.length := by rw [hR.1, ← Nat.succ_mul]; exact Nat.mul_le_mul_right _ hjl
      rw [List.length_take, List.length_drop]
      omega
    · refine h.cells (g := g) rfl _ u ?_
      rw [List.getElem?_take] at hu
      split at hu
      · rw [List.getElem?_drop] at hu
        exact hu
      · cases hu
/-- A field's address as_ the walk spells it. -/
theorem add_field (ad : Addr) (m j : Nat) (hj : 0 < j) : ad.add (m + j) = ⟨(ad.add m).block, (ad.add m).off + j, none⟩ := by
  unfold Addr.add
  by_cases hm : m = 0
  · subst hm
    simp [Nat.ne_of_gt hj]
  · simp [hm, Nat.add_assoc]

section
variable {P : Program} {ops : Array Oper} {rest : List Oper} {o : Oper} {a : Act} {Q : Exit → Act → World → Prop}
/-- append(v, x), x of several cells; behind 'at_builtin'; the goal's world is 'W.alloc' of the variadic's box. -/
theorem print_append_cells {w0 W : World} (base : Nat) (hgd : o.guard = none) (s x : Operand) (t e : TypeId) (z : Value) (size bytes : Nat)
    (ho : o.op = .call { callee := .builtin .append, args := #[s, x], argTypes := #[t, t] })
    (ht : P.underlying t = some (.slice e)) (hinfo : (P.info? e).map (fun i => (i.zero, i.size, i.bytes)) = some (some z, size, bytes)) (hz : z.cells.size = size) (hs0 : 0 < size) (hb0 : 0 < bytes)
    (v : Value) (n : Nat) (xs ys : List Value) (hs : a.eval s = v) (hx : a.eval x = .slice (some ⟨W.heap.size, 0, none⟩) 1 1) (hys : ys.length = size) (h1 : ∀ u ∈ ys, u.oneCell' = true)
    (HO : W.ownsRow base e size v n xs) (HB : Below base w0 W) (hbase : base ≤ W.heap.size) (hl : (n + 1) * bytes ≤ 140737488355328)
    (h : ∀ v1 w1, w1.ownsRow base e size v1 (n + 1) (xs ++ ys) → Below base w0 w1 → W.grownBy w1 v.ownBlock → (v1.ownBlock = v.ownBlock ∨ ∃ b, v1.ownBlock = some b ∧ W.heap.size ≤ b) → wpList P ops Q rest (a.put o.dst v1) w1) :
    wpList P ops Q (o :: rest) a (W.alloc (.cells ys.toArray e)) := by
  obtain ⟨i0, hi, hzz⟩ := Option.map_eq_some_iff.1 hinfo
  simp only [Prod.mk.injEq] at hzz
  obtain ⟨hz0, hz1, hz2⟩ := hzz
  have hlen : n + 1 ≤ 140737488355328 := Nat.le_trans (Nat.le_mul_of_pos_right _ hb0) hl
  refine wpList_append_own_at (W.alloc (.cells ys.toArray e)) hgd s x t ho base e i0 z size bytes ht hi hz0 hz1 hz2 hz hs0 v n xs hs (HO.alloc _) ⟨W.heap.size, 0, none⟩ 1 1 ys hx (by rw [hys]; simp)
    (by simpa using World.news_of_block (cs := ys.toArray) (t := e) (fr := (0, 0)) (heap_alloc_new W (.cells ys.toArray e))) h1 (by simp only [maxLen]; omega) hl (by simp; omega) ?_
  intro v1 w1 hown hg _ hat
  refine h v1 w1 hown ((HB.alloc hbase _).grown hg (by simp; omega) (own_base HO)) (World.grownBy.trans (World.grownBy_alloc W _ _) hg) ?_
  rcases hat with hat | hat
  · exact .inl hat
  · exact .inr ⟨_, hat, by simp⟩
end

/-! ### 12. A block of one's own that is a state: its cells, what a store leaves -/
theorem own_ne {w : World} {base : Nat} {e t : TypeId} {size n g : Nat} {v : Value} {xs : List Value} {cs : Array Value} (h : w.ownsRow base e size v n xs) (hg : w.heap[g]? = some (.cells cs t (0, 0))) (hne : e ≠ t) : some g ≠ v.ownBlock := by
  rcases h.2 with ⟨rfl, _⟩ | ⟨g', cap, cur, rfl, _, hh, _⟩
  · simp [Value.ownBlock]
  · intro he
    have : g = g' := by simpa [Value.ownBlock] using he
    subst this
    rw [hg] at hh
    injection hh with hh
    injection hh with _ ht
    exact hne ht.symm
theorem blk_set {w : World} {g : Nat} {t : TypeId} {cs : Array Value} (h : w.heap[g]? = some (.cells cs t (0, 0))) (i : Nat) (u : Value) : (w.setCell ⟨g, i, none⟩ u).heap[g]? = some (.cells (cs.setIfInBounds i u) t (0, 0)) := by
  simp [World.setCell, Array.getElem?_modify, h]
theorem blk_far {w : World} {g : Nat} {t : TypeId} {cs : Array Value} (h : w.heap[g]? = some (.cells cs t (0, 0))) {p : Addr} (hp : g ≠ p.block) (u : Value) : (w.setCell p u).heap[g]? = some (.cells cs t (0, 0)) := (Below.heap_setCell w p u g hp).trans h
theorem blk_lt {w : World} {g : Nat} {o : Obj} (h : w.heap[g]? = some o) : g < w.heap.size := (Array.getElem?_eq_some_iff.1 h).1
theorem blk_cell {w : World} {g : Nat} {t : TypeId} {cs : Array Value} (h : w.heap[g]? = some (.cells cs t (0, 0))) (i : Nat) : w.cell? ⟨g, i, none⟩ = cs[i]? := cell_of_row w g i cs t (0, 0) h
theorem blk_frozen {w : World} {g : Nat} {t : TypeId} {cs : Array Value} (h : w.heap[g]? = some (.cells cs t (0, 0))) (i : Nat) : w.frozen? ⟨g, i, none⟩ = false := by simp [World.frozen?, h]
theorem blk_grown {w w1 : World} {g : Nat} {o : Obj} {row : Option Nat} (h : w.heap[g]? = some o) (hg : w.grownBy w1 row) (hne : some g ≠ row) : w1.heap[g]? = some o := (hg.block g (blk_lt h) hne).trans h
/-! ### 13. Two states at once: what a call on the state at block g (its row before: 'row') has turned -/
def KeepBut (w w' : World) (g : Nat) (row : Option Nat) : Prop := w.heap.size ≤ w'.heap.size ∧ ∀ i, i < w.heap.size → i ≠ g → some i ≠ row → w'.heap[i]? = w.heap[i]?
theorem KeepBut.refl (w : World) (g : Nat) (row : Option Nat) : KeepBut w w g row := ⟨Nat.le_refl _, fun _ _ _ _ => rfl⟩
theorem KeepBut.of_below {w w1 : World} (h : Below w.heap.size w w1) (g : Nat) (row : Option Nat) : KeepBut w w1 g row := ⟨h.size, fun i hi _ _ => h.block i hi⟩
theorem KeepBut.trans {w w1 w2 : World} {g : Nat} {row row1 : Option Nat} (h : KeepBut w w1 g row) (k : KeepBut w1 w2 g row1) (hr : row1 = row ∨ ∃ b, row1 = some b ∧ w.heap.size ≤ b) : KeepBut w w2 g row :=
  ⟨Nat.le_trans h.1 k.1, fun i hi hg hn => by
    refine (k.2 i (Nat.lt_of_lt_of_le hi h.1) hg ?_).trans (h.2 i hi hg hn)
    rcases hr with rfl | ⟨b, rfl, hb⟩
    · exact hn
    · intro e
      injection e with e
      omega⟩
/-- Another block, another row: they live on. -/
theorem KeepBut.blk {w w1 : World} {g g' : Nat} {row : Option Nat} {o : Obj} (h : KeepBut w w1 g row) (hb : w.heap[g']? = some o) (hg : g' ≠ g) (hr : some g' ≠ row) : w1.heap[g']? = some o := (h.2 g' (blk_lt hb) hg hr).trans hb
theorem KeepBut.own {w w1 : World} {g : Nat} {row : Option Nat} {base : Nat} {e : TypeId} {size n : Nat} {v : Value} {xs : List Value} (h : KeepBut w w1 g row) (ho : w.ownsRow base e size v n xs) (hg : v.ownBlock ≠ some g) (hr : v.ownBlock = none ∨ v.ownBlock ≠ row) : w1.ownsRow base e size v n xs := by
  obtain ⟨h1, h2⟩ := ho
  refine ⟨h1, ?_⟩
  rcases h2 with h2 | ⟨b, cap, cur, rfl, hb, hh, r⟩
  · exact .inl h2
  · refine .inr ⟨b, cap, cur, rfl, hb, h.blk hh ?_ ?_, r⟩
    · intro e
      exact hg (by rw [← e]; rfl)
    · rcases hr with hr | hr
      · simp [Value.ownBlock] at hr
      · exact hr
/-! ### 10b. From some number of rounds on -/
def Ev {α : Type} (g : Nat → Option α) (r : α) : Prop := ∃ K, ∀ k, K ≤ k → g k = some r
theorem Ev.of {α : Type} {g : Nat → Option α} {r : α} (hg : ∀ k, LeO (g k) (g (k + 1))) {k : Nat} (h : g k = some r) : Ev g r := ⟨k, fun _ hk => at_rounds hg hk h⟩
theorem Ev.now {α : Type} (r : α) : Ev (fun _ => some r) r := ⟨0, fun _ _ => rfl⟩
theorem Ev.rounds {α : Type} {g : Nat → Option α} {r : α} (h : Ev g r) : ∃ k, g k = some r := by
  obtain ⟨K, h⟩ := h
  exact ⟨K, h K (Nat.le_refl _)⟩
theorem Ev.bind {α β : Type} {g : Nat → Option α} {f : Nat → α → Option β} {a : α} {r : β} (h : Ev g a) (k : Ev (fun n => f n a) r) : Ev (fun n => (g n).bind (f n)) r := by
  obtain ⟨K, h⟩ := h
  obtain ⟨K', k⟩ := k
  refine ⟨max K K', fun n hn => ?_⟩
  have h1 := h n (by omega)
  have h2 := k n (by omega)
  simp only [h1, Option.bind_some]
  exact h2
/-- One round of a loop. -/
theorem Ev.step {α : Type} {g f : Nat → Option α} {r : α} (h : ∀ k, g (k + 1) = f k) (k : Ev f r) : Ev g r := by
  obtain ⟨K, k⟩ := k
  refine ⟨K + 1, fun n hn => ?_⟩
  obtain ⟨m, rfl⟩ : ∃ m, n = m + 1 := ⟨n - 1, by omega⟩
  rw [h]
  exact k m (by omega)
theorem Ev.congr {α : Type} {g f : Nat → Option α} {r : α} (h : ∀ k, g k = f k) (k : Ev f r) : Ev g r := by
  obtain ⟨K, k⟩ := k
  exact ⟨K, fun n hn => (h n).trans (k n hn)⟩
/-! ### 14. append as_ one step of a region that draws its order: for 'go_region_law' (and a region walked by hand) -/
section
variable {P : Program} {ops : Array Oper} {o : Oper} {a : Act} {Q : Exit → Act → World → Prop} {K : Act → World → Prop}
theorem step_append_cells {w0 W : World} (base : Nat) (hw : Region.wanted o (yielded ops a.tmps) = true) (s x : Operand) (t e : TypeId) (z : Value) (size bytes : Nat)
    (ho : o.op = .call { callee := .builtin .append, args := #[s, x], argTypes := #[t, t] })
    (ht : P.underlying t = some (.slice e)) (hinfo : (P.info? e).map (fun i => (i.zero, i.size, i.bytes)) = some (some z, size, bytes)) (hz : z.cells.size = size) (hs0 : 0 < size) (hb0 : 0 < bytes)
    (v : Value) (n : Nat) (xs ys : List Value) (hs : a.eval s = v) (hx : a.eval x = .slice (some ⟨W.heap.size, 0, none⟩) 1 1) (hys : ys.length = size) (h1 : ∀ u ∈ ys, u.oneCell' = true)
    (HO : W.ownsRow base e size v n xs) (HB : Below base w0 W) (hbase : base ≤ W.heap.size) (hl : (n + 1) * bytes ≤ 140737488355328)
    (h : ∀ v1 w1, w1.ownsRow base e size v1 (n + 1) (xs ++ ys) → Below base w0 w1 → W.grownBy w1 v.ownBlock → (v1.ownBlock = v.ownBlock ∨ ∃ b, v1.ownBlock = some b ∧ W.heap.size ≤ b) → K (a.put o.dst v1) w1) :
    if Region.wanted o (yielded ops a.tmps) = true then Oper.wp P o a (W.alloc (.cells ys.toArray e)) K Q else K (a.put o.dst undef) (W.alloc (.cells ys.toArray e)) := by
  obtain ⟨i0, hi, hzz⟩ := Option.map_eq_some_iff.1 hinfo
  simp only [Prod.mk.injEq] at hzz
  obtain ⟨hz0, hz1, hz2⟩ := hzz
  have hlen : n + 1 ≤ 140737488355328 := Nat.le_trans (Nat.le_mul_of_pos_right _ hb0) hl
  rw [if_pos hw]
  obtain ⟨v1, w1, hr, hown, hg, _, hat⟩ := run_append_own_at (P := P) (W.alloc (.cells ys.toArray e)) base t o.type e i0 z size bytes ht hi hz0 hz1 hz2 hz hs0 v n xs (HO.alloc _) ⟨W.heap.size, 0, none⟩ 1 1 ys (by rw [hys]; simp)
    (by simpa using World.news_of_block (cs := ys.toArray) (t := e) (fr := (0, 0)) (heap_alloc_new W (.cells ys.toArray e))) h1 (by simp only [maxLen]; omega) hl (by simp; omega)
  unfold Oper.wp execOp
  simp only [ho, resolve, invoke, builtin, Sem.run_bind, Sem.run_pure, Result.andThen_ok, List.map_toArray, List.map_cons, List.map_nil, hs, hx, hr]
  refine h v1 w1 hown ((HB.alloc hbase _).grown hg (by simp; omega) (own_base HO)) (World.grownBy.trans (World.grownBy_alloc W _ _) hg) ?_
  rcases hat with hat | hat
  · exact .inl hat
  · exact .inr ⟨_, hat, by simp⟩
end
/-! ### 15. A row's base may be lowered -/
theorem own_weaken {w : World} {base base' : Nat} {e : TypeId} {size n : Nat} {v : Value} {xs : List Value} (h : w.ownsRow base e size v n xs) (hb : base' ≤ base) : w.ownsRow base' e size v n xs := by
  obtain ⟨h1, h2⟩ := h
  refine ⟨h1, ?_⟩
  rcases h2 with h2 | ⟨g, cap, cur, rfl, hg, r⟩
  · exact .inl h2
  · exact .inr ⟨g, cap, cur, rfl, Nat.le_trans hb hg, r⟩
/-! ### 16. Parts 3 to 9 for ANY element of one cell: 'enc' (Value.int k, Value.string, Value.bool), a default 'd' -/
section
variable {α : Type} {enc : α → Value} {d : α}
def encs (enc : α → Value) (xs : List α) : List Value := xs.map enc
def rdOf (d : α) (xs : List α) (i : Int) : α := xs.getD i.toNat d
theorem encs_length (xs : List α) : (encs enc xs).length = xs.length := by simp [encs]
theorem encs_get (xs : List α) (j : Nat) (h : j < xs.length) : (encs enc xs)[j]? = some (enc (xs.getD j d)) := by
  simp [encs, List.getElem?_eq_getElem h, List.getD_eq_getElem?_getD]
def ReadsOf (enc : α → Value) (d : α) (w : World) (A : Option Addr) (n : Nat) (xs : List α) : Prop :=
  xs.length = n ∧ n ≤ 9223372036854775807 ∧ (0 < n → ∃ ad, A = some ad ∧ ∀ j, j < n → w.cell? (ad.add j) = some (enc (xs.getD j d)))
theorem ReadsOf.at_ {w : World} {A : Option Addr} {n : Nat} {xs : List α} (h : ReadsOf enc d w A n xs) (i : Int) (h0 : 0 ≤ i) (h1 : i < n) : ∃ ad, A = some ad ∧ w.cell? (ad.add i.toNat) = some (enc (rdOf d xs i)) := by
  obtain ⟨ad, e, hc⟩ := h.2.2 (by omega)
  exact ⟨ad, e, hc _ (by omega)⟩
theorem ReadsOf.below {w w1 : World} {A : Option Addr} {n : Nat} {xs : List α} (h : ReadsOf enc d w A n xs) (hb : Below w.heap.size w w1) : ReadsOf enc d w1 A n xs :=
  ⟨h.1, h.2.1, fun hn => by
    obtain ⟨ad, e, hc⟩ := h.2.2 hn
    exact ⟨ad, e, fun j hj => pw_cell_below hb (hc j hj)⟩⟩
theorem ReadsOf.take_ {w : World} {A : Option Addr} {n : Nat} {xs : List α} (h : ReadsOf enc d w A n xs) (i : Nat) (hi : i ≤ n) : ReadsOf enc d w A i (xs.take i) := by
  refine ⟨by rw [List.length_take, h.1]; omega, by have := h.2.1; omega, fun hp => ?_⟩
  obtain ⟨ad, e, hc⟩ := h.2.2 (by omega)
  refine ⟨ad, e, fun j hj => ?_⟩
  rw [hc j (by omega)]
  simp [List.getD_eq_getElem?_getD, hj]
theorem own_at_of {W : World} {base g n cap : Nat} {e : TypeId} {xs : List α} (h : W.ownsRow base e 1 (.slice (some ⟨g, 0, none⟩) n cap) n (encs enc xs)) (i : Int) (h0 : 0 ≤ i) (h1 : i < n) :
    W.cell? ⟨g, i.toNat, none⟩ = some (enc (rdOf d xs i)) ∧ W.frozen? ⟨g, i.toNat, none⟩ = false := by
  have hl : xs.length = n := by have := h.1; simp [encs] at this; exact this
  constructor
  · have hc := h.cells (g := g) rfl i.toNat _ (encs_get (d := d) xs i.toNat (by omega))
    rwa [add_plain] at hc
  · rcases h.2 with ⟨h', _⟩ | ⟨g', cap', cur, h', _, hh, _⟩
    · cases h'
    · have : g = g' := by injection h' with h'; injection h' with h'; injection h' with h'
      subst this
      simp [World.frozen?, hh]
theorem own_store_of {W : World} {base g n cap : Nat} {e : TypeId} {xs : List α} (h : W.ownsRow base e 1 (.slice (some ⟨g, 0, none⟩) n cap) n (encs enc xs)) (i : Int) (x : α) :
    (W.setCell ⟨g, i.toNat, none⟩ (enc x)).ownsRow base e 1 (.slice (some ⟨g, 0, none⟩) n cap) n (encs enc (xs.set i.toNat x)) ∧ W.grownBy (W.setCell ⟨g, i.toNat, none⟩ (enc x)) (some g) := by
  have hs := h.stored i.toNat (enc x)
  have he : (encs enc xs).set i.toNat (enc x) = encs enc (xs.set i.toNat x) := by simp [encs, List.map_set]
  rwa [he] at hs
end
section
variable {α : Type} {P : Program} {ops : Array Oper} {rest : List Oper} {o : Oper} {a : Act} {Q : Exit → Act → World → Prop}
end

/-! ### 17. Rows of one element type held at once: no two share a block -/
def NeRow (v v' : Value) : Prop := ∀ k, v.ownBlock = some k → v'.ownBlock ≠ some k
/-! ### 18. A block behind a new one; behind a draw -/
theorem blk_alloc {w : World} {g : Nat} {o : Obj} (h : w.heap[g]? = some o) (o' : Obj) : (w.alloc o').heap[g]? = some o := (Below.heap_alloc w o' g (blk_lt h)).trans h
theorem blk_drew {w : World} {g : Nat} {o : Obj} (h : w.heap[g]? = some o) : w.drew.heap[g]? = some o := h
theorem blk_drewN {w : World} {g : Nat} {o : Obj} (h : w.heap[g]? = some o) (n : Nat) : (w.drewN n).heap[g]? = some o := h
theorem blk_below {w w1 : World} {g : Nat} {o : Obj} (h : w.heap[g]? = some o) (hb : Below w.heap.size w w1) : w1.heap[g]? = some o := (hb.block g (blk_lt h)).trans h
theorem blk_new (w : World) (o : Obj) : (w.alloc o).heap[w.heap.size]? = some o := heap_alloc_new w o
/-! ### 19. Results that lie in memory beside others -/
section
variable {P : Program}
end
/-! ### 20. Rows of elements of any kind: R is what an element's cells say -/
theorem own_le {w : World} {base n m c size : Nat} {e : TypeId} {A : Option Addr} {xs : List Value} (h : w.ownsRow base e size (.slice A m c) n xs) : m ≤ c := by
  rcases h.2 with ⟨he, _⟩ | ⟨g, cap, cur, he, _, _, hnc, _⟩
  · injection he with _ h2 h3
    omega
  · injection he with _ h2 h3
    omega
def OwnRow {α : Type} (R : α → List Value → Prop) (e : TypeId) (size : Nat) (w : World) (base : Nat) (v : Value) (ps : List α) : Prop :=
  ∃ inner, w.ownsRow base e size v ps.length inner ∧ Reps R size ps inner
section
variable {α : Type} {R R' : α → List Value → Prop} {e : TypeId} {size : Nat} {w w1 : World} {base : Nat} {v : Value} {ps : List α}
theorem OwnRow.imp_ (h : OwnRow R e size w base v ps) (hR : ∀ p c, R p c → R' p c) : OwnRow R' e size w base v ps := by
  obtain ⟨inner, ho, hr⟩ := h
  exact ⟨inner, ho, hr.imp_ hR⟩
theorem OwnRow.below (h : OwnRow R e size w base v ps) (hb : Below w.heap.size w w1) : OwnRow R e size w1 base v ps := by
  obtain ⟨inner, ho, hr⟩ := h
  exact ⟨inner, pw_own_below ho hb, hr⟩
theorem OwnRow.other (h : OwnRow R e size w base v ps) {row : Option Nat} (hg : w.grownBy w1 row) (hne : v.ownBlock = none ∨ v.ownBlock ≠ row) : OwnRow R e size w1 base v ps := by
  obtain ⟨inner, ho, hr⟩ := h
  exact ⟨inner, own_other ho hg hne, hr⟩
theorem OwnRow.keep (h : OwnRow R e size w base v ps) {g : Nat} {t : TypeId} {cells : Array Value} (hb : w.heap[g]? = some (.cells cells t (0, 0))) (ht : e ≠ t) (hk : KeepBut w w1 g none) : OwnRow R e size w1 base v ps := by
  obtain ⟨inner, ho, hr⟩ := h
  exact ⟨inner, hk.own ho (Ne.symm (own_ne ho hb ht)) (by cases v.ownBlock <;> simp), hr⟩
theorem OwnRow.reads (h : OwnRow R e size w base v ps) : ∃ A c, v = .slice A ps.length c ∧ ps.length ≤ c ∧ ReadsRow R size w A ps.length ps := by
  obtain ⟨inner, ho, hr⟩ := h
  obtain ⟨A, c, rfl, hrow⟩ := own_reads_row ho hr rfl
  exact ⟨A, c, rfl, own_le ho, hrow⟩
end
section
variable {P : Program} {ops : Array Oper} {rest : List Oper} {o : Oper} {a : Act} {Q : Exit → Act → World → Prop} {α : Type} {R : α → List Value → Prop}
/-- append(v, x): x's cells are cs. R is that of the world AHEAD; move it over hg ('OwnRow.imp_'). -/
theorem OwnRow.append {w0 W : World} (base : Nat) (hgd : o.guard = none) (s x : Operand) (t e : TypeId) (z : Value) (size bytes : Nat)
    (ho : o.op = .call { callee := .builtin .append, args := #[s, x], argTypes := #[t, t] })
    (ht : P.underlying t = some (.slice e)) (hinfo : (P.info? e).map (fun i => (i.zero, i.size, i.bytes)) = some (some z, size, bytes)) (hz : z.cells.size = size) (hs0 : 0 < size) (hb0 : 0 < bytes)
    (v : Value) (ps : List α) (p : α) (cs : List Value) (hs : a.eval s = v) (hx : a.eval x = .slice (some ⟨W.heap.size, 0, none⟩) 1 1) (hp : R p cs) (hcs : cs.length = size) (h1 : ∀ u ∈ cs, u.oneCell' = true)
    (HO : OwnRow R e size W base v ps) (HB : Below base w0 W) (hbase : base ≤ W.heap.size) (hl : (ps.length + 1) * bytes ≤ 140737488355328)
    (h : ∀ v1 w1, OwnRow R e size w1 base v1 (ps ++ [p]) → Below base w0 w1 → W.grownBy w1 v.ownBlock → (v1.ownBlock = v.ownBlock ∨ ∃ b, v1.ownBlock = some b ∧ W.heap.size ≤ b) → wpList P ops Q rest (a.put o.dst v1) w1) :
    wpList P ops Q (o :: rest) a (W.alloc (.cells cs.toArray e)) := by
  obtain ⟨inner, hown, hr⟩ := HO
  refine print_append_cells base hgd s x t e z size bytes ho ht hinfo hz hs0 hb0 v ps.length inner cs hs hx hcs h1 hown HB hbase hl ?_
  intro v1 w1 hown1 hb1 hg1 hat1
  exact h v1 w1 ⟨inner ++ cs, by rw [List.length_append, List.length_singleton]; exact hown1, hr.snoc hp hcs⟩ hb1 hg1 hat1
end
section
variable {P : Program} {ops : Array Oper} {o : Oper} {a : Act} {Q : Exit → Act → World → Prop} {K : Act → World → Prop} {α : Type} {R : α → List Value → Prop}
end
/-! ### 21. Cuts of a slice that came in, lengths spelled as_ the lists' -/
section
variable {α : Type} {P : Program}
end

/-! ### 22. append([]byte, s...), s a string; behind 'at_builtin'. (No word on where the new row lies: two rows of bytes at once don't go by it.) -/
section
variable {P : Program} {ops : Array Oper} {rest : List Oper} {o : Oper} {a : Act} {Q : Exit → Act → World → Prop}
end
/-! ### 23. KINDS: what a value's cells say, read (K) and made (M), kind by kind; every mover proved once -/
/-- ok: which blocks the rows inside may be ('not the row that is being written'). -/
structure Kd (α : Type) where
  sz : Nat
  E : List Nat
  K : World → α → List Value → Prop
  M : World → Nat → (Nat → Prop) → α → List Value → Prop
  K_len : ∀ {w x cs}, K w x cs → cs.length = sz
  K_one : ∀ {w x cs}, K w x cs → ∀ u ∈ cs, u.oneCell' = true
  K_below : ∀ {w w1 : World} {x cs}, Below w.heap.size w w1 → K w x cs → K w1 x cs
  K_of_M : ∀ {w base ok x cs}, M w base ok x cs → K w x cs
  M_mono : ∀ {w base ok ok' x cs}, (∀ k, ok k → ok' k) → M w base ok x cs → M w base ok' x cs
  M_bound : ∀ {w : World} {base ok x cs}, M w base ok x cs → M w base (fun k => ok k ∧ base ≤ k ∧ k < w.heap.size ∧ ∃ q, q ∈ E ∧ ∃ cells, w.heap[k]? = some (.cells cells q (0, 0))) x cs
  M_move : ∀ {w w1 : World} {base ok x cs}, (∀ k, ok k → w1.heap[k]? = w.heap[k]?) → M w base ok x cs → M w1 base ok x cs
  M_lower : ∀ {w base base' ok x cs}, base' ≤ base → M w base ok x cs → M w base' ok x cs

theorem own_move {w w1 : World} {base : Nat} {e : TypeId} {size n : Nat} {v : Value} {xs : List Value} (h : w.ownsRow base e size v n xs) (hm : ∀ k, v.ownBlock = some k → w1.heap[k]? = w.heap[k]?) : w1.ownsRow base e size v n xs := by
  obtain ⟨h1, h2⟩ := h
  refine ⟨h1, ?_⟩
  rcases h2 with h2 | ⟨g, cap, cur, rfl, hg, hh, r⟩
  · exact .inl h2
  · exact .inr ⟨g, cap, cur, rfl, hg, (hm g (by simp [Value.ownBlock])).trans hh, r⟩
theorem own_typed {w : World} {base : Nat} {e : TypeId} {size n : Nat} {v : Value} {xs : List Value} (h : w.ownsRow base e size v n xs) (k : Nat) (hk : v.ownBlock = some k) : ∃ cells, w.heap[k]? = some (.cells cells e (0, 0)) := by
  rcases h.2 with ⟨rfl, _⟩ | ⟨g, cap, cur, rfl, hg, hh, r⟩
  · simp [Value.ownBlock] at hk
  · have : g = k := by simpa [Value.ownBlock] using hk
    subst this
    exact ⟨cur, hh⟩

namespace Kd
/-- A row of elements that is read. -/
def C {α : Type} (d : Kd α) (w : World) (A : Option Addr) (n : Nat) (xs : List α) : Prop := ReadsRow (d.K w) d.sz w A n xs
/-- A row of elements (type e) of the call's own; the elements' rows are not this one. -/
def R {α : Type} (d : Kd α) (e : Nat) (w : World) (base : Nat) (ok : Nat → Prop) (v : Value) (xs : List α) : Prop :=
  (∀ k, v.ownBlock = some k → ok k) ∧ OwnRow (d.M w base (fun k => ok k ∧ some k ≠ v.ownBlock)) e d.sz w base v xs
section
variable {α : Type} {d : Kd α} {e : Nat} {w w1 : World} {base : Nat} {ok ok' : Nat → Prop} {v : Value} {xs : List α}
theorem C_below {A : Option Addr} {n : Nat} (h : d.C w A n xs) (hb : Below w.heap.size w w1) : d.C w1 A n xs := ReadsRow.imp_ h hb (fun _ _ hp => d.K_below hb hp)
theorem R_mono (h : d.R e w base ok v xs) (hok : ∀ k, ok k → ok' k) : d.R e w base ok' v xs := ⟨fun k hk => hok k (h.1 k hk), h.2.imp_ (fun _ _ hp => d.M_mono (fun k hk => ⟨hok k hk.1, hk.2⟩) hp)⟩
theorem R_bound (h : d.R e w base ok v xs) : d.R e w base (fun k => ok k ∧ base ≤ k ∧ k < w.heap.size ∧ ∃ q, q ∈ e :: d.E ∧ ∃ cells, w.heap[k]? = some (.cells cells q (0, 0))) v xs := by
  obtain ⟨h0, inner, ho, hr⟩ := h
  refine ⟨fun k hk => ?_, inner, ho, hr.imp_ (fun _ _ hp => d.M_mono (fun k hk => ?_) (d.M_bound hp))⟩
  · obtain ⟨cells, hc⟩ := own_typed ho k hk
    exact ⟨h0 k hk, own_base ho k hk, own_lt ho k hk, e, List.mem_cons_self, cells, hc⟩
  · obtain ⟨⟨h1, h2⟩, h3, h4, q, hq, hc⟩ := hk
    exact ⟨⟨h1, h3, h4, q, List.mem_cons_of_mem _ hq, hc⟩, h2⟩
theorem R_move (h : d.R e w base ok v xs) (hm : ∀ k, ok k → w1.heap[k]? = w.heap[k]?) : d.R e w1 base ok v xs := by
  obtain ⟨h0, inner, ho, hr⟩ := h
  exact ⟨h0, inner, own_move ho (fun k hk => hm k (h0 k hk)), hr.imp_ (fun _ _ hp => d.M_move (fun k hk => hm k hk.1) hp)⟩
theorem R_lower {base' : Nat} (h : d.R e w base ok v xs) (hb : base' ≤ base) : d.R e w base' ok v xs := by
  obtain ⟨h0, inner, ho, hr⟩ := h
  exact ⟨h0, inner, own_weaken ho hb, hr.imp_ (fun _ _ hp => d.M_lower hb hp)⟩
theorem M_step {x : α} {cs : List Value} (h : d.M w base ok x cs) (hm : ∀ k, ok k → k < w.heap.size → w1.heap[k]? = w.heap[k]?) : d.M w1 base ok x cs :=
  d.M_mono (fun _ hk => hk.1) (d.M_move (fun k hk => hm k hk.1 hk.2.2.1) (d.M_bound h))
theorem M_below {x : α} {cs : List Value} (h : d.M w base ok x cs) (hb : Below w.heap.size w w1) : d.M w1 base ok x cs := M_step h (fun k _ hk => hb.block k hk)
theorem R_reads (h : d.R e w base ok v xs) : ∃ A c, v = .slice A xs.length c ∧ xs.length ≤ c ∧ d.C w A xs.length xs := by
  obtain ⟨A, c, he, hl, hr⟩ := OwnRow.reads h.2
  exact ⟨A, c, he, hl, hr.imp_ (Below.refl _ _) (fun _ _ hp => d.K_of_M hp)⟩
theorem R_own (h : d.R e w base ok v xs) : ∃ inner, w.ownsRow base e d.sz v xs.length inner := by
  obtain ⟨_, inner, ho, _⟩ := h
  exact ⟨inner, ho⟩
end

/-! #### the kinds -/
def scalar {α : Type} (enc : α → Value) (h1 : ∀ x, (enc x).oneCell' = true) : Kd α where
  sz := 1
  E := []
  K := fun _ x cs => cs = [enc x]
  M := fun _ _ _ x cs => cs = [enc x]
  K_len := fun h => by rw [h]; rfl
  K_one := fun h u hu => by
    rw [h] at hu
    rw [List.mem_singleton.1 hu]
    exact h1 _
  K_below := fun _ h => h
  K_of_M := fun h => h
  M_mono := fun _ h => h
  M_bound := fun h => h
  M_move := fun _ h => h
  M_lower := fun _ h => h
def int (k : IntKind) : Kd Int := scalar (Value.int k) (fun _ => rfl)
def bool : Kd Bool := scalar Value.bool (fun _ => rfl)
def string : Kd ByteArray := scalar Value.string (fun _ => rfl)
def slice {α : Type} (e : Nat) (d : Kd α) : Kd (List α) where
  sz := 1
  E := e :: d.E
  K := fun w xs cs => ∃ A c, cs = [.slice A xs.length c] ∧ xs.length ≤ c ∧ d.C w A xs.length xs
  M := fun w base ok xs cs => ∃ v, cs = [v] ∧ d.R e w base ok v xs
  K_len := by
    rintro w x cs ⟨A, c, rfl, _⟩
    rfl
  K_one := by
    rintro w x cs ⟨A, c, rfl, _⟩ u hu
    rw [List.mem_singleton.1 hu]
    rfl
  K_below := by
    rintro w w1 x cs hb ⟨A, c, rfl, hl, hr⟩
    exact ⟨A, c, rfl, hl, C_below hr hb⟩
  K_of_M := by
    rintro w base ok x cs ⟨v, rfl, h⟩
    obtain ⟨A, c, rfl, hl, hr⟩ := R_reads h
    exact ⟨A, c, rfl, hl, hr⟩
  M_mono := by
    rintro w base ok ok' x cs hok ⟨v, rfl, h⟩
    exact ⟨v, rfl, R_mono h hok⟩
  M_bound := by
    rintro w base ok x cs ⟨v, rfl, h⟩
    exact ⟨v, rfl, R_bound h⟩
  M_move := by
    rintro w w1 base ok x cs hm ⟨v, rfl, h⟩
    exact ⟨v, rfl, R_move h hm⟩
  M_lower := by
    rintro w base base' ok x cs hb ⟨v, rfl, h⟩
    exact ⟨v, rfl, R_lower h hb⟩
/-- Two in line. -/
def pair {α β : Type} (a : Kd α) (b : Kd β) : Kd (α × β) where
  sz := a.sz + b.sz
  E := a.E ++ b.E
  K := fun w x cs => ∃ c0 c1, cs = c0 ++ c1 ∧ a.K w x.1 c0 ∧ b.K w x.2 c1
  M := fun w base ok x cs => ∃ c0 c1, cs = c0 ++ c1 ∧ a.M w base ok x.1 c0 ∧ b.M w base ok x.2 c1
  K_len := by
    rintro w x cs ⟨c0, c1, rfl, h0, h1⟩
    rw [List.length_append, a.K_len h0, b.K_len h1]
  K_one := by
    rintro w x cs ⟨c0, c1, rfl, h0, h1⟩ u hu
    rcases List.mem_append.1 hu with hu | hu
    · exact a.K_one h0 u hu
    · exact b.K_one h1 u hu
  K_below := by
    rintro w w1 x cs hb ⟨c0, c1, rfl, h0, h1⟩
    exact ⟨c0, c1, rfl, a.K_below hb h0, b.K_below hb h1⟩
  K_of_M := by
    rintro w base ok x cs ⟨c0, c1, rfl, h0, h1⟩
    exact ⟨c0, c1, rfl, a.K_of_M h0, b.K_of_M h1⟩
  M_mono := by
    rintro w base ok ok' x cs hok ⟨c0, c1, rfl, h0, h1⟩
    exact ⟨c0, c1, rfl, a.M_mono hok h0, b.M_mono hok h1⟩
  M_bound := by
    rintro w base ok x cs ⟨c0, c1, rfl, h0, h1⟩
    refine ⟨c0, c1, rfl, a.M_mono ?_ (a.M_bound h0), b.M_mono ?_ (b.M_bound h1)⟩
    · rintro k ⟨h2, h3, h4, q, hq, hc⟩
      exact ⟨h2, h3, h4, q, List.mem_append_left _ hq, hc⟩
    · rintro k ⟨h2, h3, h4, q, hq, hc⟩
      exact ⟨h2, h3, h4, q, List.mem_append_right _ hq, hc⟩
  M_move := by
    rintro w w1 base ok x cs hm ⟨c0, c1, rfl, h0, h1⟩
    exact ⟨c0, c1, rfl, a.M_move hm h0, b.M_move hm h1⟩
  M_lower := by
    rintro w base base' ok x cs hb ⟨c0, c1, rfl, h0, h1⟩
    exact ⟨c0, c1, rfl, a.M_lower hb h0, b.M_lower hb h1⟩
/-- A Lean structure by its fields. -/
def iso {α β : Type} (d : Kd α) (f : β → α) : Kd β where
  sz := d.sz
  E := d.E
  K := fun w x cs => d.K w (f x) cs
  M := fun w base ok x cs => d.M w base ok (f x) cs
  K_len := d.K_len
  K_one := d.K_one
  K_below := d.K_below
  K_of_M := d.K_of_M
  M_mono := d.M_mono
  M_bound := d.M_bound
  M_move := d.M_move
  M_lower := d.M_lower
/-- Nothing is of this kind: where the nesting's depth is used up. -/
def bot {α : Type} (sz : Nat) (E : List Nat) : Kd α where
  sz := sz
  E := E
  K := fun _ _ _ => False
  M := fun _ _ _ _ _ => False
  K_len := fun h => h.elim
  K_one := fun h => h.elim
  K_below := fun _ h => h
  K_of_M := fun h => h
  M_mono := fun _ h => h
  M_bound := fun h => h
  M_move := fun _ h => h
  M_lower := fun _ h => h
/-- A type nested in itself: nested at most n deep .. -/
def upto {α : Type} (F : Kd α → Kd α) (sz : Nat) (E : List Nat) : Nat → Kd α
  | 0 => bot sz E
  | n + 1 => F (upto F sz E n)
/-- .. for some n. -/
def fix {α : Type} (F : Kd α → Kd α) (sz : Nat) (E : List Nat) (hs : ∀ n, (upto F sz E n).sz = sz) (hE : ∀ n q, q ∈ (upto F sz E n).E → q ∈ E) : Kd α where
  sz := sz
  E := E
  K := fun w x cs => ∃ n, (upto F sz E n).K w x cs
  M := fun w base ok x cs => ∃ n, (upto F sz E n).M w base ok x cs
  K_len := by
    rintro w x cs ⟨n, h⟩
    rw [(upto F sz E n).K_len h, hs n]
  K_one := by
    rintro w x cs ⟨n, h⟩
    exact (upto F sz E n).K_one h
  K_below := by
    rintro w w1 x cs hb ⟨n, h⟩
    exact ⟨n, (upto F sz E n).K_below hb h⟩
  K_of_M := by
    rintro w base ok x cs ⟨n, h⟩
    exact ⟨n, (upto F sz E n).K_of_M h⟩
  M_mono := by
    rintro w base ok ok' x cs hok ⟨n, h⟩
    exact ⟨n, (upto F sz E n).M_mono hok h⟩
  M_bound := by
    rintro w base ok x cs ⟨n, h⟩
    refine ⟨n, (upto F sz E n).M_mono ?_ ((upto F sz E n).M_bound h)⟩
    rintro k ⟨h2, h3, h4, q, hq, hc⟩
    exact ⟨h2, h3, h4, q, hE n q hq, hc⟩
  M_move := by
    rintro w w1 base ok x cs hm ⟨n, h⟩
    exact ⟨n, (upto F sz E n).M_move hm h⟩
  M_lower := by
    rintro w base base' ok x cs hb ⟨n, h⟩
    exact ⟨n, (upto F sz E n).M_lower hb h⟩

/-! #### an element of a row that is read; an element appended -/
theorem C_get {α : Type} {d : Kd α} {w : World} {A : Option Addr} {n : Nat} {xs : List α} (h : d.C w A n xs) (z : α) (i : Int) (h0 : 0 ≤ i) (h1 : i < n) :
    ∃ ad c, A = some ad ∧ c.length = d.sz ∧ d.K w (xs.getD i.toNat z) c ∧ ∀ j u, c[j]? = some u → w.cell? (ad.add (i.toNat * d.sz + j)) = some u := ReadsRow.get_ h z i h0 h1
section
variable {P : Program} {ops : Array Oper} {rest : List Oper} {o : Oper} {a : Act} {Q : Exit → Act → World → Prop} {α : Type}
end
section
variable {P : Program} {ops : Array Oper} {o : Oper} {a : Act} {Q : Exit → Act → World → Prop} {Kc : Act → World → Prop} {α : Type}
end
/-- A row of scalars is the elder form. -/
theorem reps_scalar {α : Type} {enc : α → Value} (xs : List α) : Reps (fun (x : α) (cs : List Value) => cs = [enc x]) 1 xs (encs enc xs) := by
  refine ⟨by simp [encs], fun j p hj => ?_⟩
  obtain ⟨hl, hp⟩ := List.getElem?_eq_some_iff.1 hj
  have hl' : j < (encs enc xs).length := by rw [encs_length]; exact hl
  rw [Nat.mul_one, List.drop_eq_getElem_cons hl']
  simp [encs, hp]
theorem R_of_own {α : Type} {enc : α → Value} {h1 : ∀ x, (enc x).oneCell' = true} {e : Nat} {w : World} {base : Nat} {ok : Nat → Prop} {v : Value} {xs : List α} (ho : w.ownsRow base e 1 v xs.length (encs enc xs)) (hok : ∀ k, v.ownBlock = some k → ok k) : (scalar enc h1).R e w base ok v xs := ⟨hok, encs enc xs, ho, reps_scalar xs⟩
theorem own_of_R {α : Type} {enc : α → Value} {h1 : ∀ x, (enc x).oneCell' = true} {e : Nat} {w : World} {base : Nat} {ok : Nat → Prop} {v : Value} {xs : List α} (h : (scalar enc h1).R e w base ok v xs) : w.ownsRow base e 1 v xs.length (encs enc xs) := by
  obtain ⟨_, inner, ho, hr⟩ := h
  have : inner = encs enc xs := by
    apply List.ext_getElem?
    intro j
    rcases Nat.lt_or_ge j xs.length with hj | hj
    · have h2 := hr.2 j _ (List.getElem?_eq_getElem hj)
      have hl : j < inner.length := by have := hr.1; simp [scalar] at this; omega
      have h3 : (inner.drop (j * 1)).take 1 = [enc xs[j]] := h2
      rw [Nat.mul_one, List.drop_eq_getElem_cons hl] at h3
      have h4 : inner[j] = enc xs[j] := by
        have h5 := congrArg List.head? h3
        rw [List.take_succ_cons] at h5
        exact Option.some.inj h5
      rw [List.getElem?_eq_getElem hl, h4]
      simp [encs, List.getElem?_eq_getElem hj]
    · have h3 : inner.length = xs.length := by have := hr.1; simp [scalar] at this; omega
      rw [List.getElem?_eq_none (by omega), List.getElem?_eq_none (by rw [encs_length]; omega)]
  rw [← this]
  exact ho
theorem reads_of_C {α : Type} {enc : α → Value} {d : α} {h1 : ∀ x, (enc x).oneCell' = true} {w : World} {A : Option Addr} {n : Nat} {xs : List α} (h : (scalar enc h1).C w A n xs) : ReadsOf enc d w A n xs := by
  refine ⟨h.1, h.2.1, fun hn => ?_⟩
  obtain ⟨ad, e, hc⟩ := h.2.2 hn
  refine ⟨ad, e, fun j hj => ?_⟩
  have hl : j < xs.length := by have := h.1; omega
  obtain ⟨c, _, hK, hcell⟩ := hc j _ (List.getElem?_eq_getElem hl)
  have hK' : c = [enc xs[j]] := hK
  subst hK'
  have := hcell 0 _ rfl
  simpa [scalar, List.getD_eq_getElem?_getD, List.getElem?_eq_getElem hl] using this
end Kd
/-! ### 24. Kinds nested in themselves -/
namespace Kd
/-- F says the more, the more its argument says. -/
structure Mono {α β : Type} (F : Kd α → Kd β) : Prop where
  sz : ∀ d d' : Kd α, d.sz = d'.sz → (F d).sz = (F d').sz
  K : ∀ d d' : Kd α, d.sz = d'.sz → (∀ w x cs, d.K w x cs → d'.K w x cs) → ∀ w x cs, (F d).K w x cs → (F d').K w x cs
  M : ∀ d d' : Kd α, d.sz = d'.sz → (∀ w base ok x cs, d.M w base ok x cs → d'.M w base ok x cs) → ∀ w base ok x cs, (F d).M w base ok x cs → (F d').M w base ok x cs
theorem mono_const {α β : Type} (k : Kd β) : Mono (fun _ : Kd α => k) := ⟨fun _ _ _ => rfl, fun _ _ _ _ _ _ _ h => h, fun _ _ _ _ _ _ _ _ _ h => h⟩
theorem mono_id {α : Type} : Mono (fun d : Kd α => d) := ⟨fun _ _ h => h, fun _ _ _ h => h, fun _ _ _ h => h⟩
theorem C_imp {α : Type} {d d' : Kd α} (hs : d.sz = d'.sz) (h : ∀ w x cs, d.K w x cs → d'.K w x cs) {w : World} {A : Option Addr} {n : Nat} {xs : List α} (hc : d.C w A n xs) : d'.C w A n xs := by
  unfold C at hc ⊢
  rw [← hs]
  exact hc.imp_ (Below.refl _ _) (fun _ _ hp => h _ _ _ hp)
theorem R_imp {α : Type} {d d' : Kd α} (hs : d.sz = d'.sz) (h : ∀ w base ok x cs, d.M w base ok x cs → d'.M w base ok x cs) {e : Nat} {w : World} {base : Nat} {ok : Nat → Prop} {v : Value} {xs : List α} (hr : d.R e w base ok v xs) : d'.R e w base ok v xs := by
  unfold R at hr ⊢
  rw [← hs]
  exact ⟨hr.1, hr.2.imp_ (fun _ _ hp => h _ _ _ _ _ hp)⟩
theorem mono_slice {α β : Type} (e : Nat) {G : Kd α → Kd β} (hG : Mono G) : Mono (fun d => slice e (G d)) := by
  refine ⟨fun _ _ _ => rfl, ?_, ?_⟩
  · rintro d d' hs h w x cs ⟨A, c, rfl, hl, hr⟩
    exact ⟨A, c, rfl, hl, C_imp (hG.sz d d' hs) (hG.K d d' hs h) hr⟩
  · rintro d d' hs h w base ok x cs ⟨v, rfl, hr⟩
    exact ⟨v, rfl, R_imp (hG.sz d d' hs) (hG.M d d' hs h) hr⟩
theorem mono_pair {α β γ : Type} {G : Kd α → Kd β} {H : Kd α → Kd γ} (hG : Mono G) (hH : Mono H) : Mono (fun d => pair (G d) (H d)) := by
  refine ⟨fun d d' hs => ?_, ?_, ?_⟩
  · show (G d).sz + (H d).sz = (G d').sz + (H d').sz
    rw [hG.sz d d' hs, hH.sz d d' hs]
  · rintro d d' hs h w x cs ⟨c0, c1, rfl, h0, h1⟩
    exact ⟨c0, c1, rfl, hG.K d d' hs h _ _ _ h0, hH.K d d' hs h _ _ _ h1⟩
  · rintro d d' hs h w base ok x cs ⟨c0, c1, rfl, h0, h1⟩
    exact ⟨c0, c1, rfl, hG.M d d' hs h _ _ _ _ _ h0, hH.M d d' hs h _ _ _ _ _ h1⟩
theorem mono_iso {α β γ : Type} {G : Kd α → Kd β} (f : γ → β) (hG : Mono G) : Mono (fun d => iso (G d) f) :=
  ⟨hG.sz, fun d d' hs h w x cs => hG.K d d' hs h w (f x) cs, fun d d' hs h w base ok x cs => hG.M d d' hs h w base ok (f x) cs⟩
/-- The element types inside stay among E. -/
def Sub {α β : Type} (F : Kd α → Kd β) (E : List Nat) : Prop := ∀ d : Kd α, (∀ q, q ∈ d.E → q ∈ E) → ∀ q, q ∈ (F d).E → q ∈ E
theorem sub_const {α β : Type} {E : List Nat} (k : Kd β) (h : ∀ q, q ∈ k.E → q ∈ E) : Sub (fun _ : Kd α => k) E := fun _ _ => h
theorem sub_id {α : Type} {E : List Nat} : Sub (fun d : Kd α => d) E := fun _ h => h
theorem sub_slice {α β : Type} {E : List Nat} (e : Nat) {G : Kd α → Kd β} (he : e ∈ E) (hG : Sub G E) : Sub (fun d => slice e (G d)) E := fun d h q hq => by
  rcases List.mem_cons.1 hq with rfl | hq
  · exact he
  · exact hG d h q hq
theorem sub_pair {α β γ : Type} {E : List Nat} {G : Kd α → Kd β} {H : Kd α → Kd γ} (hG : Sub G E) (hH : Sub H E) : Sub (fun d => pair (G d) (H d)) E := fun d h q hq => by
  rcases List.mem_append.1 hq with hq | hq
  · exact hG d h q hq
  · exact hH d h q hq
theorem sub_iso {α β γ : Type} {E : List Nat} {G : Kd α → Kd β} (f : γ → β) (hG : Sub G E) : Sub (fun d => iso (G d) f) E := hG
theorem upto_E {α : Type} {F : Kd α → Kd α} {sz : Nat} {E : List Nat} (h : Sub F E) : ∀ n q, q ∈ (upto F sz E n).E → q ∈ E
  | 0, _, hq => hq
  | n + 1, q, hq => h _ (upto_E h n) q hq
theorem upto_sz {α : Type} {F : Kd α → Kd α} {sz : Nat} {E : List Nat} (h : ∀ d : Kd α, (F d).sz = sz) : ∀ n, (upto F sz E n).sz = sz
  | 0 => rfl
  | _ + 1 => h _
section
variable {α : Type} {F : Kd α → Kd α} {sz : Nat} {E : List Nat} {hs : ∀ n, (upto F sz E n).sz = sz} {hE : ∀ n q, q ∈ (upto F sz E n).E → q ∈ E}
theorem upto_K (hm : Mono F) (hs : ∀ n, (upto F sz E n).sz = sz) : ∀ n {w x cs}, (upto F sz E n).K w x cs → (upto F sz E (n + 1)).K w x cs
  | 0, _, _, _, h => h.elim
  | n + 1, _, _, _, h => hm.K _ _ (by rw [hs n, hs (n + 1)]) (fun _ _ _ hk => upto_K hm hs n hk) _ _ _ h
theorem upto_M (hm : Mono F) (hs : ∀ n, (upto F sz E n).sz = sz) : ∀ n {w base ok x cs}, (upto F sz E n).M w base ok x cs → (upto F sz E (n + 1)).M w base ok x cs
  | 0, _, _, _, _, _, h => h.elim
  | n + 1, _, _, _, _, _, h => hm.M _ _ (by rw [hs n, hs (n + 1)]) (fun _ _ _ _ _ hk => upto_M hm hs n hk) _ _ _ _ _ h
theorem upto_K_le (hm : Mono F) (hs : ∀ n, (upto F sz E n).sz = sz) {n m : Nat} (hnm : n ≤ m) {w x cs} (h : (upto F sz E n).K w x cs) : (upto F sz E m).K w x cs := by
  obtain ⟨j, rfl⟩ := Nat.exists_eq_add_of_le hnm
  induction j with
  | zero => exact h
  | succ j ih => exact upto_K hm hs _ (ih (by omega))
theorem upto_M_le (hm : Mono F) (hs : ∀ n, (upto F sz E n).sz = sz) {n m : Nat} (hnm : n ≤ m) {w base ok x cs} (h : (upto F sz E n).M w base ok x cs) : (upto F sz E m).M w base ok x cs := by
  obtain ⟨j, rfl⟩ := Nat.exists_eq_add_of_le hnm
  induction j with
  | zero => exact h
  | succ j ih => exact upto_M hm hs _ (ih (by omega))
theorem fix_C {n : Nat} {w : World} {A : Option Addr} {m : Nat} {xs : List α} (h : (upto F sz E n).C w A m xs) : (fix F sz E hs hE).C w A m xs := C_imp (d' := fix F sz E hs hE) (hs n) (fun w x cs hp => (⟨n, hp⟩ : ∃ n, (upto F sz E n).K w x cs)) h
theorem bounded {P : Nat → Nat → Prop} (hP : ∀ n m j, n ≤ m → P n j → P m j) : ∀ m, (∀ j, j < m → ∃ n, P n j) → ∃ N, ∀ j, j < m → P N j
  | 0, _ => ⟨0, fun j hj => absurd hj (Nat.not_lt_zero j)⟩
  | m + 1, h => by
    obtain ⟨N, hN⟩ := bounded hP m (fun j hj => h j (by omega))
    obtain ⟨n, hn⟩ := h m (by omega)
    refine ⟨max N n, fun j hj => ?_⟩
    rcases Nat.lt_or_ge j m with hj' | hj'
    · exact hP N _ j (Nat.le_max_left _ _) (hN j hj')
    · have : j = m := by omega
      subst this
      exact hP n _ j (Nat.le_max_right _ _) hn
theorem reps_bounded {α : Type} {R : Nat → α → List Value → Prop} (hR : ∀ n m p c, n ≤ m → R n p c → R m p c) {size : Nat} {ps : List α} {cs : List Value} (h : Reps (fun p c => ∃ n, R n p c) size ps cs) : ∃ N, Reps (R N) size ps cs := by
  obtain ⟨N, hN⟩ := bounded (P := fun n j => ∀ p, ps[j]? = some p → R n p ((cs.drop (j * size)).take size)) (fun n m j hnm hp p hj => hR n m p _ hnm (hp p hj)) ps.length
    (fun j hj => by
      obtain ⟨n, hn⟩ := h.2 j _ (List.getElem?_eq_getElem hj)
      refine ⟨n, fun p hp => ?_⟩
      rw [List.getElem?_eq_getElem hj] at hp
      injection hp with hp
      rw [← hp]
      exact hn)
  exact ⟨N, h.1, fun j p hj => hN j (List.getElem?_eq_some_iff.1 hj).1 p hj⟩
theorem fix_R_back (hm : Mono F) {e : Nat} {w : World} {base : Nat} {ok : Nat → Prop} {v : Value} {xs : List α} (h : (fix F sz E hs hE).R e w base ok v xs) : ∃ n, (upto F sz E n).R e w base ok v xs := by
  obtain ⟨h0, inner, ho, hr⟩ := h
  obtain ⟨N, hN⟩ := reps_bounded (R := fun n p c => (upto F sz E n).M w base (fun k => ok k ∧ some k ≠ v.ownBlock) p c) (fun n m p c hnm hp => upto_M_le hm hs hnm hp) hr
  refine ⟨N, h0, inner, ?_, ?_⟩
  · rw [hs N]; exact ho
  · rw [hs N]; exact hN
theorem fix_C_back (hm : Mono F) {w : World} {A : Option Addr} {m : Nat} {xs : List α} (h : (fix F sz E hs hE).C w A m xs) : ∃ n, (upto F sz E n).C w A m xs := by
  rcases Nat.eq_zero_or_pos m with hz | hpos
  · subst hz
    exact ⟨0, h.1, h.2.1, fun hp => absurd hp (Nat.lt_irrefl 0)⟩
  · obtain ⟨ad, e, hc⟩ := h.2.2 hpos
    obtain ⟨N, hN⟩ := bounded (P := fun n j => ∀ p, xs[j]? = some p → ∃ c, c.length = sz ∧ (upto F sz E n).K w p c ∧ ∀ i u, c[i]? = some u → w.cell? (ad.add (j * sz + i)) = some u)
      (fun n n' j hnm hp p hj => by
        obtain ⟨c, h1, h2, h3⟩ := hp p hj
        exact ⟨c, h1, upto_K_le hm hs hnm h2, h3⟩) xs.length
      (fun j hj => by
        obtain ⟨c, h1, ⟨n, h2⟩, h3⟩ := hc j _ (List.getElem?_eq_getElem hj)
        refine ⟨n, fun p hp => ?_⟩
        rw [List.getElem?_eq_getElem hj] at hp
        injection hp with hp
        rw [← hp]
        exact ⟨c, h1, h2, h3⟩)
    refine ⟨N, h.1, h.2.1, fun _ => ⟨ad, e, fun j p hj => ?_⟩⟩
    rw [hs N]
    exact hN j (List.getElem?_eq_some_iff.1 hj).1 p hj
theorem upto_R_le (hm : Mono F) (hs : ∀ n, (upto F sz E n).sz = sz) {n m : Nat} (hnm : n ≤ m) {e : Nat} {w : World} {base : Nat} {ok : Nat → Prop} {v : Value} {xs : List α} (h : (upto F sz E n).R e w base ok v xs) : (upto F sz E m).R e w base ok v xs := R_imp (by rw [hs n, hs m]) (fun _ _ _ _ _ hp => upto_M_le hm hs hnm hp) h
theorem upto_C_le (hm : Mono F) (hs : ∀ n, (upto F sz E n).sz = sz) {n m : Nat} (hnm : n ≤ m) {w : World} {A : Option Addr} {l : Nat} {xs : List α} (h : (upto F sz E n).C w A l xs) : (upto F sz E m).C w A l xs := C_imp (by rw [hs n, hs m]) (fun _ _ _ hp => upto_K_le hm hs hnm hp) h
end
end Kd
/-! ### 25. What is held while another row is written: 'ok' says that its rows are none of that row's block -/
namespace Kd
end Kd
/-! ### 26. Words for a printer that takes every slice by its kind -/
namespace Kd
section
variable {α β : Type} {d : Kd α} {d' : Kd β} {e e' : Nat} {w w1 W : World} {base b b' : Nat} {ok ok' okv oku : Nat → Prop} {v u : Value} {xs : List α} {ys : List β}
theorem C_alloc {A : Option Addr} {n : Nat} (h : d.C w A n xs) (o : Obj) : d.C (w.alloc o) A n xs := C_below h (below_alloc (Below.refl _ _) o)
theorem C_drew {A : Option Addr} {n : Nat} (h : d.C w A n xs) : d.C w.drew A n xs := C_below h (below_drew (Below.refl _ _))
theorem C_drewN {A : Option Addr} {n : Nat} (h : d.C w A n xs) (m : Nat) : d.C (w.drewN m) A n xs := C_below h (pw_below_drewN (Below.refl _ _) m)
theorem C_nil (d : Kd α) (w : World) : d.C w none ([] : List α).length [] := ⟨rfl, by simp, fun h => absurd h (Nat.lt_irrefl 0)⟩
theorem R_reads' {A : Option Addr} {n c : Nat} (h : d.R e w base ok (.slice A n c) xs) : n = xs.length ∧ n ≤ c ∧ d.C w A xs.length xs := by
  obtain ⟨A', c', he, hl, hr⟩ := R_reads h
  injection he with h1 h2 h3
  subst h1
  exact ⟨h2, by omega, hr⟩
theorem R_lt (h : d.R e w base ok v xs) : ∀ k, v.ownBlock = some k → k < w.heap.size := by
  obtain ⟨inner, ho⟩ := R_own h
  exact own_lt ho
theorem R_base (h : d.R e w base ok v xs) : ∀ k, v.ownBlock = some k → base ≤ k := by
  obtain ⟨inner, ho⟩ := R_own h
  exact own_base ho
theorem R_form (h : d.R e w base ok v xs) (hp : 0 < xs.length) : ∃ g cap, v = .slice (some ⟨g, 0, none⟩) xs.length cap ∧ base ≤ g ∧ g < w.heap.size ∧ ∃ cells, w.heap[g]? = some (.cells cells e (0, 0)) := by
  obtain ⟨inner, ho⟩ := R_own h
  obtain ⟨g, cap, he, hb, hl⟩ := ho.form hp
  obtain ⟨cells, hc⟩ := own_typed ho g (by rw [he]; simp [Value.ownBlock])
  exact ⟨g, cap, he, hb, hl, cells, hc⟩
end
/-! #### scalars -/
section
variable {w W : World} {A : Option Addr} {n : Nat}
theorem at_int {k : IntKind} {xs : List Int} (h : (Kd.int k).C w A n xs) (i : Int) (h0 : 0 ≤ i) (h1 : i < n) : ∃ ad, A = some ad ∧ w.cell? (ad.add i.toNat) = some (.int k (rd xs i)) :=
  ReadsOf.at_ (reads_of_C (enc := Value.int k) (d := (0 : Int)) (h1 := fun _ => rfl) h) i h0 h1
variable {α : Type} {enc : α → Value} {h1 : ∀ x, (enc x).oneCell' = true} {e base g cap : Nat} {ok : Nat → Prop} {xs : List α}
theorem R_cell (d : α) (h : (scalar enc h1).R e W base ok (.slice (some ⟨g, 0, none⟩) xs.length cap) xs) (i : Int) (h0 : 0 ≤ i) (hi : i < xs.length) : W.cell? ⟨g, i.toNat, none⟩ = some (enc (rdOf d xs i)) ∧ W.frozen? ⟨g, i.toNat, none⟩ = false := own_at_of (own_of_R h) i h0 hi
theorem R_put (h : (scalar enc h1).R e W base ok (.slice (some ⟨g, 0, none⟩) xs.length cap) xs) (i : Int) (x : α) : (scalar enc h1).R e (W.setCell ⟨g, i.toNat, none⟩ (enc x)) base ok (.slice (some ⟨g, 0, none⟩) xs.length cap) (xs.set i.toNat x) ∧ W.grownBy (W.setCell ⟨g, i.toNat, none⟩ (enc x)) (some g) := by
  obtain ⟨ho, hg⟩ := own_store_of (own_of_R h) i x
  exact ⟨R_of_own (by rw [List.length_set]; exact ho) h.1, hg⟩
end

/-! #### events: a letter for what make and a literal leave -/
section
variable {P : Program} {ops : Array Oper} {rest : List Oper} {o : Oper} {a : Act} {Q : Exit → Act → World → Prop}
theorem event_run {W w1 : World} {v : Value} (hgd : o.guard = none) (hrun : (execOp a.eval o).run P W = .ok (.value v) w1) (h : wpList P ops Q rest (a.put o.dst v) w1) : wpList P ops Q (o :: rest) a W := by
  refine wpList_plain hgd fun K hK => ?_
  unfold Oper.wp
  rw [hrun]
  exact hK _ _ h
variable {α : Type}
/-- A literal '[]T{..}': inner its cells. 'hd' picks the operation; 'hrun' by '(by go_simp; rfl)'. -/
theorem R_lit (d : Kd α) {w0 W : World} (base e : Nat) (hgd : o.guard = none) {N : Tmp} (_hd : o.dst = some N) {xs : List α} {inner : List Value} {ok okp : Nat → Prop}
    (hrun : (execOp a.eval o).run P W = .ok (.value (.slice (some ⟨W.heap.size, 0, none⟩) xs.length xs.length)) (W.alloc (.cells inner.toArray e)))
    (hrep : Reps (d.M W base okp) d.sz xs inner) (hok : ∀ k, okp k → ok k) (hfresh : ok W.heap.size) (HB : Below base w0 W) (hbase : base ≤ W.heap.size) (hm : xs.length ≤ 9223372036854775807)
    (h : ∀ v1 w1, d.R e w1 base ok v1 xs → Below base w0 w1 → W.grownBy w1 none → (∃ b, v1.ownBlock = some b ∧ W.heap.size ≤ b) → wpList P ops Q rest (a.put o.dst v1) w1) : wpList P ops Q (o :: rest) a W := by
  refine event_run hgd hrun (h _ _ ⟨fun k hk => ?_, inner, ?_, ?_⟩ (HB.alloc hbase _) (World.grownBy_alloc W _ none) ⟨W.heap.size, by simp [Value.ownBlock], Nat.le_refl _⟩)
  · have : W.heap.size = k := by simpa [Value.ownBlock] using hk
    subst this
    exact hfresh
  · have h2 := World.ownsRow_lit (base := base) (e := e) (size := d.sz) W inner.toArray xs.length hbase (by simpa [maxLen] using hm) (by simpa using hrep.1)
    simpa using h2
  · refine hrep.imp_ (fun p c hp => d.M_mono (fun k hk => ⟨hok k hk.1, fun he => ?_⟩) (M_below (d.M_bound hp) (below_alloc (Below.refl _ _) _)))
    have h3 : k = W.heap.size := by simpa [Value.ownBlock] using he
    have := hk.2.2.1
    omega
theorem reps_made {α : Type} {R : α → List Value → Prop} {z : Value} {size : Nat} {z0 : α} (hz : z.cells.size = size) (hs : 0 < size) (h0 : R z0 z.cells.toList) (m : Nat) : Reps R size (List.replicate m z0) (madeCells z.cells (m * size)).toList := by
  refine ⟨by simp [size_madeCells], fun j p hj => ?_⟩
  obtain ⟨hjl, hp⟩ := List.getElem?_eq_some_iff.1 hj
  have hjm : j < m := by simpa using hjl
  have hp' : z0 = p := by simpa using hp
  subst hp'
  have hle : j * size + size ≤ m * size := by rw [← Nat.succ_mul]; exact Nat.mul_le_mul_right _ hjm
  have : ((madeCells z.cells (m * size)).toList.drop (j * size)).take size = z.cells.toList := by
    apply List.ext_getElem
    · simp [size_madeCells, hz]
      omega
    · intro i h1 h2
      have hi : i < size := by rw [Array.length_toList, hz] at h2; exact h2
      have hmod : (j * size + i) % size = i := by
        rw [Nat.mul_comm, Nat.mul_add_mod]
        exact Nat.mod_eq_of_lt hi
      simp [madeCells, hz, hmod]
      rw [getElem!_pos z.cells i (by omega)]
  rw [this]
  exact h0
/-- make([]T, n): every element is z0, whose cells are the type's zero's. -/
theorem R_make (d : Kd α) {w0 W : World} (base e : Nat) (hgd : o.guard = none) {N : Tmp} (hd : o.dst = some N) (t : TypeId) (x y : Operand) (ho : o.op = .makeSlice t x y) (n : Int) (hx : a.eval x = .int .i64 n) (hy : a.eval y = .int .i64 n)
    (ht : P.underlying t = some (.slice e)) (z : Value) (bytes : Nat) (hinfo : (P.info? e).map (fun i => (i.zero, i.size, i.bytes)) = some (some z, d.sz, bytes)) (hz : z.cells.size = d.sz) (hs0 : 0 < d.sz) (hb0 : 0 < bytes)
    (z0 : α) {ok okp : Nat → Prop} (hzero : d.M W base okp z0 z.cells.toList) (hok : ∀ k, okp k → ok k) (hfresh : ok W.heap.size) (h0 : 0 ≤ n) (hl : n.toNat * bytes ≤ 281474976710656) (HB : Below base w0 W) (hbase : base ≤ W.heap.size)
    (h : ∀ v1 w1, d.R e w1 base ok v1 (List.replicate n.toNat z0) → Below base w0 w1 → W.grownBy w1 none → (∃ b, v1.ownBlock = some b ∧ W.heap.size ≤ b) → wpList P ops Q rest (a.put o.dst v1) w1) : wpList P ops Q (o :: rest) a W := by
  obtain ⟨m, rfl⟩ := Int.eq_ofNat_of_zero_le h0
  simp only [Int.toNat_natCast] at hl h
  obtain ⟨i0, hi, hzz⟩ := Option.map_eq_some_iff.1 hinfo
  simp only [Prod.mk.injEq] at hzz
  obtain ⟨hz0, hz1, hz2⟩ := hzz
  have hm : m ≤ 281474976710656 := Nat.le_trans (Nat.le_mul_of_pos_right _ hb0) hl
  have hr := run_make (P := P) W t e i0 z ht hi hz0 .i64 .i64 (m : Int) (m : Int) (by omega) (by omega)
    (by
      have h3 : ((i0.bytes * m : Nat) : Int) ≤ 281474976710656 := by rw [hz2, Nat.mul_comm]; omega
      rwa [Int.natCast_mul] at h3) (by omega)
  simp only [Int.toNat_natCast] at hr
  rw [hz1] at hr
  refine R_lit d base e hgd hd (xs := List.replicate m z0) (inner := (madeCells z.cells (m * d.sz)).toList) (okp := okp) (ok := ok) ?_ (reps_made hz hs0 hzero m) hok hfresh HB hbase (by simp; omega) h
  simp [execOp, ho, hx, hy, hr]
end
end Kd
/-! ### 27. Cuts of a row of one's own: 'xs = xs[:n]' stays a row (R_take); 'xs = xs[k:]' is a row that begins inside its block (Kd.Q), append goes on it too -/
theorem own_take {w : World} {base n m c size : Nat} {e : TypeId} {A : Option Addr} {xs : List Value} (h : w.ownsRow base e size (.slice A n c) n xs) (hm : m ≤ n) : w.ownsRow base e size (.slice A m c) m (xs.take (m * size)) := by
  obtain ⟨h1, h2⟩ := h
  refine ⟨by rw [List.length_take, h1]; exact Nat.min_eq_left (Nat.mul_le_mul_right _ hm), ?_⟩
  rcases h2 with ⟨he, h0⟩ | ⟨g, cap, cur, he, hb, hh, hnc, hcm, hcs, ht⟩
  · injection he with ha _ hc
    subst ha; subst hc
    exact .inl ⟨by rw [show m = 0 by omega], by omega⟩
  · injection he with ha _ hc
    subst ha; subst hc
    refine .inr ⟨g, c, cur, rfl, hb, hh, by omega, hcm, hcs, ?_⟩
    rw [← ht, List.take_take, Nat.min_eq_left (Nat.mul_le_mul_right _ hm)]
section
variable {P : Program}
theorem cut_to (t e : TypeId) (kh : IntKind) {i : TypeInfo} (ht : P.underlying t = some (.slice e)) (hi : P.info? e = some i) (A : Option Addr) (n c : Nat) (j : Int) (h0 : 0 ≤ j) (hm : j ≤ n) (hc : n ≤ c) :
    ∀ W : World, (Instr.slice t (.slice A n c) none (some (.int kh j)) none).run P W = .ok (.slice A j.toNat c) W := by
  intro W
  have hel : P.elem t = e := by simp [Program.elem, ht]
  have hu : P.underlying t = some (.slice (P.elem t)) := by rw [hel]; exact ht
  have ha : (A.map fun x => x.add 0) = A := by cases A <;> simp [Addr.add]
  rw [run_slice_h W t A n c hu kh j h0 (by omega), hel]
  simp [sizeOf, typeInfo, hi, sliced, Result.andThen, ha]
end
/-- A row of one's own that may begin inside its block. -/
def QRow (w : World) (base : Nat) (e : TypeId) (size : Nat) (v : Value) (n : Nat) (xs : List Value) : Prop :=
  xs.length = n * size ∧
  ((n = 0 ∧ ∃ A, v = .slice A 0 0 ∧ ∀ a, A = some a → base ≤ a.block ∧ ∃ cur, w.heap[a.block]? = some (.cells cur e (0, 0))) ∨
   ∃ g off cap cur, v = .slice (some ⟨g, off * size, none⟩) n cap ∧ base ≤ g ∧ w.heap[g]? = some (.cells cur e (0, 0)) ∧ n ≤ cap ∧ off + cap ≤ maxLen ∧ cur.size = (off + cap) * size ∧ (cur.toList.drop (off * size)).take (n * size) = xs)
section
variable {w w1 : World} {base n size : Nat} {e : TypeId} {v : Value} {xs : List Value}
theorem q_typed (h : QRow w base e size v n xs) (k : Nat) (hk : v.ownBlock = some k) : base ≤ k ∧ ∃ cells, w.heap[k]? = some (.cells cells e (0, 0)) := by
  rcases h.2 with ⟨_, A, rfl, hA⟩ | ⟨g, off, cap, cur, rfl, hg, hh, r⟩
  · cases A with
    | none => simp [Value.ownBlock] at hk
    | some a =>
      have : a.block = k := by simpa [Value.ownBlock] using hk
      subst this
      exact hA a rfl
  · have : g = k := by simpa [Value.ownBlock] using hk
    subst this
    exact ⟨hg, cur, hh⟩
theorem q_slice (h : QRow w base e size v n xs) : ∃ A c, v = .slice A n c ∧ n ≤ c := by
  rcases h.2 with ⟨h0, A, rfl, _⟩ | ⟨g, off, cap, cur, rfl, hg, hh, hnc, r⟩
  · exact ⟨A, 0, by rw [h0], by omega⟩
  · exact ⟨_, cap, rfl, hnc⟩
theorem q_max (h : QRow w base e size v n xs) : n ≤ 9223372036854775807 := by
  rcases h.2 with ⟨h0, _⟩ | ⟨g, off, cap, cur, rfl, hg, hh, hnc, hm, r⟩
  · omega
  · simp only [maxLen] at hm
    omega
theorem add_at (g o j : Nat) : (⟨g, o, none⟩ : Addr).add j = ⟨g, o + j, none⟩ := by unfold Addr.add; split <;> simp_all
theorem q_cells {A : Option Addr} {c : Nat} (h : QRow w base e size (.slice A n c) n xs) (hn : 0 < n) : ∃ ad, A = some ad ∧ ∀ j u, xs[j]? = some u → w.cell? (ad.add j) = some u := by
  rcases h.2 with ⟨h0, _⟩ | ⟨g, off, cap, cur, he, hg, hh, hnc, hm, hcs, ht⟩
  · omega
  · injection he with ha _ hc
    subst ha
    refine ⟨_, rfl, fun j u hu => ?_⟩
    rw [add_at, cell_of_row w g _ cur e (0, 0) hh]
    rw [← ht, List.getElem?_take] at hu
    split at hu
    · rw [List.getElem?_drop] at hu
      rw [← Array.getElem?_toList]
      exact hu
    · cases hu
/-- What a run of cells written leaves. -/
theorem setCells_far {g : Nat} : ∀ (vs : List Value) (o : Nat) {w : World} (k : Nat), k ≠ g → (w.setCells g o vs).heap[k]? = w.heap[k]?
  | [], _, _, _, _ => rfl
  | v :: r, o, w, k, hk => by
    rw [World.setCells, setCells_far r (o + 1) k hk]
    exact Below.heap_setCell w ⟨g, o, none⟩ v k hk
theorem setCells_same (g : Nat) : ∀ (vs : List Value) (o : Nat) (w : World), (w.setCells g o vs).os = w.os ∧ (w.setCells g o vs).tape = w.tape ∧ (w.setCells g o vs).output = w.output ∧ (w.setCells g o vs).heap.size = w.heap.size
  | [], _, _ => ⟨rfl, rfl, rfl, rfl⟩
  | v :: r, o, w => by
    obtain ⟨h1, h2, h3, h4⟩ := setCells_same g r (o + 1) (w.setCell ⟨g, o, none⟩ v)
    rw [World.setCells]
    exact ⟨h1, h2, h3, by rw [h4]; simp [World.setCell]⟩
theorem setCells_row {g : Nat} {e : TypeId} : ∀ (vs : List Value) (o : Nat) (w : World) (cur : Array Value), w.heap[g]? = some (.cells cur e (0, 0)) → o + vs.length ≤ cur.size →
    ∃ cur', (w.setCells g o vs).heap[g]? = some (.cells cur' e (0, 0)) ∧ cur'.size = cur.size ∧ cur'.toList = cur.toList.take o ++ vs ++ cur.toList.drop (o + vs.length)
  | [], o, w, cur, h, _ => ⟨cur, h, rfl, by simp⟩
  | v :: r, o, w, cur, h, hl => by
    have h2 := blk_set h o v
    simp only [List.length_cons] at hl
    obtain ⟨cur', h3, h4, h5⟩ := setCells_row r (o + 1) (w.setCell ⟨g, o, none⟩ v) _ h2 (by simp; omega)
    refine ⟨cur', h3, by rw [h4]; simp, ?_⟩
    rw [h5, Array.toList_setIfInBounds]
    have ho : o < cur.toList.length := by rw [Array.length_toList]; omega
    rw [List.take_set, List.drop_set_of_lt (by omega)]
    simp only [List.length_cons]
    rw [show o + 1 + r.length = o + (r.length + 1) by omega]
    congr 1
    rw [List.take_succ_eq_append_getElem ho, List.set_append_right _ _ (by rw [List.length_take]; omega)]
    have ho' : o < cur.size := by omega
    simp [Nat.min_eq_left (Nat.le_of_lt ho')]
end
section
variable {P : Program}
end
/-! ### 28. The kinds' words for cuts: R_take; Q (a row that may begin inside its block) with all of R's movers -/
namespace Kd
theorem reps_take {α : Type} {R : α → List Value → Prop} {size m : Nat} {ps : List α} {cs : List Value} (h : Reps R size ps cs) (hm : m ≤ ps.length) : Reps R size (ps.take m) (cs.take (m * size)) := by
  refine ⟨by rw [List.length_take, List.length_take, h.1, Nat.min_eq_left hm, Nat.min_eq_left (Nat.mul_le_mul_right _ hm)], fun j p hj => ?_⟩
  rw [List.getElem?_take] at hj
  split at hj
  · rename_i hjm
    have := h.2 j p hj
    have hle : j * size + size ≤ m * size := by rw [← Nat.succ_mul]; exact Nat.mul_le_mul_right _ hjm
    rw [List.drop_take, List.take_take, Nat.min_eq_left (by omega)]
    exact this
  · cases hj
theorem R_take {α : Type} {d : Kd α} {e m n c : Nat} {w : World} {base : Nat} {ok : Nat → Prop} {A : Option Addr} {xs : List α} (h : d.R e w base ok (.slice A n c) xs) (hm : m ≤ xs.length) : d.R e w base ok (.slice A m c) (xs.take m) := by
  obtain ⟨h0, inner, ho, hr⟩ := h
  have hn : n = xs.length := by
    obtain ⟨A', c', he⟩ := own_slice ho
    injection he
  subst hn
  have hb : ∀ x y : Nat, (Value.slice A x c).ownBlock = (Value.slice A y c).ownBlock := by
    intro x y
    cases A <;> rfl
  refine ⟨fun k hk => h0 k (by rw [hb _ m]; exact hk), inner.take (m * d.sz), ?_, ?_⟩
  · rw [List.length_take, Nat.min_eq_left hm]
    exact own_take ho hm
  · rw [hb m xs.length]
    exact reps_take hr hm
def Q {α : Type} (d : Kd α) (e : Nat) (w : World) (base : Nat) (ok : Nat → Prop) (v : Value) (xs : List α) : Prop :=
  (∀ k, v.ownBlock = some k → ok k) ∧ ∃ inner, QRow w base e d.sz v xs.length inner ∧ Reps (d.M w base (fun k => ok k ∧ some k ≠ v.ownBlock)) d.sz xs inner
section
variable {α : Type} {d : Kd α} {e : Nat} {w w1 W : World} {base : Nat} {ok ok' : Nat → Prop} {v : Value} {xs : List α}
theorem Q_reads' {A : Option Addr} {n c : Nat} (h : d.Q e w base ok (.slice A n c) xs) : n = xs.length ∧ n ≤ c ∧ d.C w A xs.length xs := by
  obtain ⟨_, inner, ho, hr⟩ := h
  obtain ⟨A', c', he, hl⟩ := q_slice ho
  injection he with h1 h2 h3
  subst h1; subst h2; subst h3
  refine ⟨rfl, hl, rfl, q_max ho, fun hp => ?_⟩
  obtain ⟨ad, ha, hc⟩ := q_cells ho hp
  refine ⟨ad, ha, fun j p hj => ⟨(inner.drop (j * d.sz)).take d.sz, ?_, d.K_of_M (hr.2 j p hj), fun i u hu => ?_⟩⟩
  · have hjl := (List.getElem?_eq_some_iff.1 hj).1
    have h1 : j * d.sz + d.sz ≤ inner.length := by rw [hr.1, ← Nat.succ_mul]; exact Nat.mul_le_mul_right _ hjl
    rw [List.length_take, List.length_drop]
    omega
  · refine hc _ u ?_
    rw [List.getElem?_take] at hu
    split at hu
    · rw [List.getElem?_drop] at hu
      exact hu
    · cases hu
end
section
variable {P : Program} {ops : Array Oper} {rest : List Oper} {o : Oper} {a : Act} {Q' : Exit → Act → World → Prop} {Kc : Act → World → Prop} {α : Type}
end
end Kd
/-! ### 29. Movers that ask of another row no more than they need: for R and for Q -/
namespace Kd
section
variable {α : Type} {d : Kd α} {e e' : Nat} {w w1 W : World} {base : Nat} {ok : Nat → Prop} {u v : Value} {xs : List α}
end
end Kd
/-! ### 30. Elements written: x[i] = T{..}, x[i].f = v, swaps, in a row of elements of any kind -/
theorem seg_get {α : Type} (a seg : List α) (o : Nat) (h : o + seg.length ≤ a.length) (q : Nat) :
    (a.take o ++ seg ++ a.drop (o + seg.length))[q]? = if q < o then a[q]? else if q < o + seg.length then seg[q - o]? else a[q]? := by
  have hl : (a.take o).length = o := by rw [List.length_take]; omega
  rw [List.append_assoc]
  by_cases h1 : q < o
  · rw [if_pos h1, List.getElem?_append_left (by omega), List.getElem?_take, if_pos h1]
  · rw [if_neg h1, List.getElem?_append_right (by omega), hl]
    by_cases h2 : q < o + seg.length
    · rw [if_pos h2, List.getElem?_append_left (by omega)]
    · rw [if_neg h2, List.getElem?_append_right (by omega), List.getElem?_drop]
      congr 1
      omega
namespace Kd
section
variable {α : Type} {d : Kd α} {e base g n cap : Nat} {ok okp : Nat → Prop} {W : World} {xs : List α}
end
end Kd
/-! ### 31. What came in, put into what is made: 'fixed d w0' (read in w0, whatever happens since), 'or_ a b', 'mix' (a slice that came in, or one that is made) -/
namespace Kd
def fixed {α : Type} (d : Kd α) (w0 : World) : Kd α where
  sz := d.sz
  E := []
  K := fun _ x cs => d.K w0 x cs
  M := fun _ _ _ x cs => d.K w0 x cs
  K_len := d.K_len
  K_one := d.K_one
  K_below := fun _ h => h
  K_of_M := fun h => h
  M_mono := fun _ h => h
  M_bound := fun h => h
  M_move := fun _ h => h
  M_lower := fun _ h => h
def or_ {α : Type} (a b : Kd α) (h : b.sz = a.sz) : Kd α where
  sz := a.sz
  E := a.E ++ b.E
  K := fun w x cs => a.K w x cs ∨ b.K w x cs
  M := fun w base ok x cs => a.M w base ok x cs ∨ b.M w base ok x cs
  K_len := fun hk => hk.elim a.K_len (fun hk => (b.K_len hk).trans h)
  K_one := fun hk => hk.elim a.K_one b.K_one
  K_below := fun hb hk => hk.imp (a.K_below hb) (b.K_below hb)
  K_of_M := fun hk => hk.imp a.K_of_M b.K_of_M
  M_mono := fun hok hk => hk.imp (a.M_mono hok) (b.M_mono hok)
  M_bound := fun hk => hk.imp
    (fun hk => a.M_mono (fun _ ⟨h1, h2, h3, q, hq, hc⟩ => ⟨h1, h2, h3, q, List.mem_append_left _ hq, hc⟩) (a.M_bound hk))
    (fun hk => b.M_mono (fun _ ⟨h1, h2, h3, q, hq, hc⟩ => ⟨h1, h2, h3, q, List.mem_append_right _ hq, hc⟩) (b.M_bound hk))
  M_move := fun hm hk => hk.imp (a.M_move hm) (b.M_move hm)
  M_lower := fun hb hk => hk.imp (a.M_lower hb) (b.M_lower hb)
/-- A slice whose elements are read by d when it came in, and are of kind dm when it is made. -/
def mix {α : Type} (e : Nat) (d dm : Kd α) (w0 : World) : Kd (List α) := or_ (fixed (slice e d) w0) (slice e dm) rfl
section
variable {α : Type} {F : Kd α → Kd α} {sz : Nat} {E : List Nat} {hs : ∀ n, (upto F sz E n).sz = sz} {hE : ∀ n q, q ∈ (upto F sz E n).E → q ∈ E}
end
end Kd
/-! ### 32. A whole row appended, of elements of any kind; copy onto a row of scalars of one's own -/
namespace Kd
section
variable {P : Program} {ops : Array Oper} {rest : List Oper} {o : Oper} {a : Act} {Q : Exit → Act → World → Prop} {α : Type}
end
end Kd
/-! ### 33. A store into a row of one's own, as_ an event: no go_simp -/
namespace Kd
section
variable {P : Program} {ops : Array Oper} {rest : List Oper} {o : Oper} {a : Act} {Q : Exit → Act → World → Prop} {α : Type}
end
end Kd
/-! ### 34. Cuts that are only read, of any row -/
theorem add_add (a : Addr) (i j : Nat) : (a.add i).add j = a.add (i + j) := by
  unfold Addr.add
  by_cases h1 : i = 0 <;> by_cases h2 : j = 0 <;> simp [h1, h2, Nat.add_assoc]
namespace Kd
section
variable {α : Type} {k : Kd α} {w : World} {A : Option Addr} {xs : List α} {m c : Nat}
theorem C_take (h : k.C w A xs.length xs) (hm : m ≤ xs.length) : k.C w A (xs.take m).length (xs.take m) := by
  have hl : (xs.take m).length = m := by rw [List.length_take]; omega
  refine ⟨rfl, by rw [hl]; have := h.2.1; omega, fun hp => ?_⟩
  obtain ⟨ad, e, hc⟩ := h.2.2 (by omega)
  refine ⟨ad, e, fun j p hj => hc j p ?_⟩
  rw [List.getElem?_take] at hj
  split at hj
  · exact hj
  · cases hj
end
end Kd
section
variable {P : Program}
end
/-! ### 35. string(b), b read (a cut too) -/
/-! ### 6. What the printer adds -/
theorem below_size {w W : World} (h : Below w.heap.size w W) : w.heap.size ≤ W.heap.size := h.size
theorem below_step {w W w2 : World} (h : Below w.heap.size w W) (k : Below W.heap.size W w2) : Below w.heap.size w w2 := below_then h h.size k
theorem ReadsInt.nil (W : World) (k : IntKind) : ReadsInt W k none ([] : List Int).length [] := ⟨rfl, by simp, fun h => absurd h (Nat.lt_irrefl 0)⟩
theorem ReadsInt.drewN {W : World} {k : IntKind} {A : Option Addr} {n : Nat} {xs : List Int} (h : ReadsInt W k A n xs) (m : Nat) : ReadsInt (W.drewN m) k A n xs := h
theorem below_set {w W : World} {g j : Nat} {v : Value} (h : Below w.heap.size w W) (hg : w.heap.size ≤ g) : Below w.heap.size w (W.setCell ⟨g, j, none⟩ v) := h.setCell hg _
theorem keep_cell {w W : World} {g : Nat} (h : KeepBut w W g none) {a : Addr} {v : Value} (hc : w.cell? a = some v) (hne : a.block ≠ g) : W.cell? a = some v := by
  have := h.2 a.block (World.block_lt_of_cell? w a hc) hne (by simp)
  simpa [World.cell?, this] using hc
theorem add_block (a : Addr) (i : Nat) : (a.add i).block = a.block := by unfold Addr.add; split <;> rfl
theorem ReadsOf.nil {α : Type} (enc : α → Value) (d : α) (W : World) : ReadsOf enc d W none ([] : List α).length [] := ⟨rfl, by simp, fun h => absurd h (Nat.lt_irrefl 0)⟩
theorem ReadsOf.drewN {α : Type} {enc : α → Value} {d : α} {W : World} {A : Option Addr} {n : Nat} {xs : List α} (h : ReadsOf enc d W A n xs) (m : Nat) : ReadsOf enc d (W.drewN m) A n xs := h
theorem ReadsInt.keep {w W : World} {k : IntKind} {A : Option Addr} {n g : Nat} {xs : List Int} (h : ReadsInt w k A n xs) (hk : KeepBut w W g none) (hf : ∀ ad, A = some ad → 0 < n → ad.block ≠ g) : ReadsInt W k A n xs :=
  ⟨h.1, h.2.1, fun hn => by
    obtain ⟨ad, e, hc⟩ := h.2.2 hn
    exact ⟨ad, e, fun j hj => keep_cell hk (hc j hj) (by rw [add_block]; exact hf ad e hn)⟩⟩
theorem ReadsOf.keep {α : Type} {enc : α → Value} {d : α} {w W : World} {A : Option Addr} {n g : Nat} {xs : List α} (h : ReadsOf enc d w A n xs) (hk : KeepBut w W g none) (hf : ∀ ad, A = some ad → 0 < n → ad.block ≠ g) : ReadsOf enc d W A n xs :=
  ⟨h.1, h.2.1, fun hn => by
    obtain ⟨ad, e, hc⟩ := h.2.2 hn
    exact ⟨ad, e, fun j hj => keep_cell hk (hc j hj) (by rw [add_block]; exact hf ad e hn)⟩⟩
theorem cell_far {W : World} {p a : Addr} (h : a.block ≠ p.block) (u : Value) : (W.setCell p u).cell? a = W.cell? a := by
  have := Below.heap_setCell W p u a.block h
  simp [World.cell?, this]
theorem below_drew1 {base : Nat} {w W : World} (h : Below base w W) : Below base w W.drew := h.drew
namespace Kd
section
variable {α β : Type} {d : Kd α} {d' : Kd β} {e e' base base' n : Nat} {ok ok' : Nat → Prop} {w W w1 W1 : World} {v u : Value} {xs : List α} {ys : List β} {A : Option Addr} {c : Nat}
end
section
variable {α : Type} {enc : α → Value} {h1 : ∀ x, (enc x).oneCell' = true} {w W : World} {A : Option Addr} {n g : Nat} {xs : List α}
end
end Kd
namespace Kd
section
variable {α : Type} {d : Kd α} {e base g : Nat} {ok : Nat → Prop} {w w1 : World} {v : Value} {xs : List α} {o : Obj}
end
end Kd
section
variable {P : Program} {ops : Array Oper} {rest : List Oper} {o : Oper} {a : Act} {Q : Exit → Act → World → Prop}
theorem box_event {W : World} (hgd : o.guard = none) {N : Tmp} (_hd : o.dst = some N) {cs : Array Value} {t : TypeId}
    (hrun : (execOp a.eval o).run P W = .ok (.value (.pointer (some ⟨W.heap.size, 0, none⟩))) (W.alloc (.cells cs t (0, 0))))
    (h : ∀ g, g = W.heap.size → ∀ w1, w1.heap[g]? = some (.cells cs t (0, 0)) → Below W.heap.size W w1 → wpList P ops Q rest (a.put o.dst (.pointer (some ⟨g, 0, none⟩))) w1) : wpList P ops Q (o :: rest) a W :=
  Kd.event_run hgd hrun (h _ rfl _ (blk_new W _) (below_alloc (Below.refl _ _) _))
end
namespace Kd
section
variable {α : Type} {enc : α → Value} {h1 : ∀ x, (enc x).oneCell' = true} {e base g n cap : Nat} {ok : Nat → Prop} {W : World} {xs : List α}
theorem R_celln (d : α) (h : (scalar enc h1).R e W base ok (.slice (some ⟨g, 0, none⟩) n cap) xs) (i : Int) (h0 : 0 ≤ i) (hi : i < n) : W.cell? ⟨g, i.toNat, none⟩ = some (enc (rdOf d xs i)) ∧ W.frozen? ⟨g, i.toNat, none⟩ = false := by
  obtain ⟨rfl, _⟩ := R_reads' h
  exact R_cell d h i h0 hi
end
end Kd
section
variable {P : Program} {ops : Array Oper} {rest : List Oper} {o : Oper} {a : Act} {Q : Exit → Act → World → Prop}
end
namespace Kd
section
variable {α : Type} {enc : α → Value} {h1 : ∀ x, (enc x).oneCell' = true} {e base g n cap : Nat} {ok : Nat → Prop} {W : World} {xs : List α}
theorem R_putg (h : (scalar enc h1).R e W base ok (.slice (some ⟨g, 0, none⟩) n cap) xs) (i : Int) (x : α) : (scalar enc h1).R e (W.setCell ⟨g, i.toNat, none⟩ (enc x)) base ok (.slice (some ⟨g, 0, none⟩) n cap) (xs.set i.toNat x) ∧ W.grownBy (W.setCell ⟨g, i.toNat, none⟩ (enc x)) (some g) := by
  obtain ⟨rfl, _⟩ := R_reads' h
  exact R_put h i x
end
end Kd
section
variable {P : Program} {ops : Array Oper} {rest : List Oper} {o : Oper} {a : Act} {Q : Exit → Act → World → Prop} {W : World}
theorem gate_dst {N : Tmp} (_hN : o.dst = some N) (h : wpList P ops Q (o :: rest) a W) : wpList P ops Q (o :: rest) a W := h
end
/-! ### 36. Events as_ one step of a region that draws (for one_, two_, three_) -/
section
variable {P : Program} {ops : Array Oper} {o : Oper} {a : Act} {Q : Exit → Act → World → Prop} {Kc : Act → World → Prop}
namespace Kd
variable {α : Type}
end Kd
end
/-! ### 37. Results of any shape -/
inductive Vals (P : Program) (tmps : Array Value) (w : World) : List ResultVar → List Value → Prop where
  | nil : Vals P tmps w [] []
  | tmp {u : Tmp} {rs : List ResultVar} {vs : List Value} (h : Vals P tmps w rs vs) : Vals P tmps w (.tmp u :: rs) (tmps.getD u undef :: vs)
  | cell {p : Tmp} {ty : TypeId} {rs : List ResultVar} {vs : List Value} (g : Nat) (t : TypeId) (cs : Array Value) (fr : Nat × Nat) (d : TypeDesc)
      (hp : tmps.getD p undef = .pointer (some ⟨g, 0, none⟩)) (hg : w.heap[g]? = some (.cells cs t fr))
      (hu : P.underlying ty = some d) (hd : (match d with | .struct _ | .array _ _ => true | _ => false) = true) (hi : (P.info? ty).map (·.size) = some cs.size)
      (h : Vals P tmps w rs vs) : Vals P tmps w (.cell p ty :: rs) (.agg cs :: vs)
section
variable {P : Program} {tmps : Array Value} {w : World}
end
/-! ### 38. 'out = append(out[:k], out[k+1:]...)': an element taken out of a row of one's own, in place -/
namespace Kd
section
variable {P : Program} {α : Type}
end
section
variable {P : Program} {ops : Array Oper} {rest : List Oper} {o : Oper} {a : Act} {Q : Exit → Act → World → Prop} {Kc : Act → World → Prop} {α : Type}
end
end Kd

end Go.Proofs.YtlklclebjeeaaaaW.PrintWords
end
section
namespace Go.Proofs.YtlklclebjeeaaaaW.PrintLast

section
variable {P : Program} {ops : Array Oper} {Q : Exit → Act → World → Prop} {md : Region.Mode} {S : World → Prop} {ds : List Nat}

/-- Operation d waits for operation i, by a chain of at most 'fuel' edges. -/
def Region.reachB (md : Region.Mode) (ops : Array Oper) (i : Nat) : Nat → Nat → Bool
  | 0, _ => false
  | fuel + 1, d => match ops[d]? with
    | some o => o.after.any fun e => Region.binds md e && (e.on == i || Region.reachB md ops i fuel e.on)
    | none => false

/-- What is listed is closed under the edges. -/
def Region.closedB (md : Region.Mode) (ops : Array Oper) (listed : Array Bool) : Bool :=
  (List.range ops.size).all fun j => !listed.getD j false || match ops[j]? with
    | some o => o.after.all fun e => !Region.binds md e || listed.getD e.on false
    | none => true

/-- Each of ds that has not come up yet waits for number i. -/
def Region.lastB (md : Region.Mode) (ops : Array Oper) (listed : Array Bool) (ds : List Nat) (i : Nat) : Bool :=
  ds.all fun d => listed.getD d true || Region.reachB md ops i ops.size d

def ListedClosed (md : Region.Mode) (ops : Array Oper) (listed : Array Bool) : Prop :=
  ∀ j oj, ops[j]? = some oj → listed.getD j false = true → ∀ e ∈ oj.after, Region.binds md e = true → listed.getD e.on false = true

theorem Region.closedB_spec {listed : Array Bool} (h : Region.closedB md ops listed = true) : ListedClosed md ops listed := by
  intro j oj hj hl e he hb
  have hlt : j < ops.size := (Array.getElem?_eq_some_iff.1 hj).1
  have h1 := List.all_eq_true.1 h j (List.mem_range.2 hlt)
  simp only [hl, hj, Bool.not_true, Bool.false_or] at h1
  have h2 := Array.all_eq_true_iff_forall_mem.1 h1 e he
  simpa [hb] using h2

theorem ListedClosed.set {listed : Array Bool} {i : Nat} (h : ListedClosed md ops listed) (hi : i ∈ Region.ready md ops listed) : ListedClosed md ops (listed.setIfInBounds i true) := by
  obtain ⟨_, oi, hoi, hall⟩ := mem_ready.1 hi
  intro j oj hj hl e he hb
  by_cases hij : i = j
  · subst hij
    have : oj = oi := Option.some.inj (hj.symm.trans hoi)
    subst this
    exact getD_set_true (hall e he hb)
  · rw [getD_set_ne false hij] at hl
    exact getD_set_true (h j oj hj hl e he hb)

theorem Region.reach_listed {listed : Array Bool} {i : Nat} (hc : ListedClosed md ops listed) : ∀ (fuel d : Nat), Region.reachB md ops i fuel d = true → listed.getD d false = true → listed.getD i false = true
  | 0, _, h, _ => by simp [Region.reachB] at h
  | fuel + 1, d, h, hl => by
    unfold Region.reachB at h
    cases ho : ops[d]? with
    | none => rw [ho] at h; simp at h
    | some o =>
      rw [ho] at h
      obtain ⟨e, he, h1⟩ := Array.any_eq_true'.1 h
      simp only [Bool.and_eq_true, Bool.or_eq_true, beq_iff_eq] at h1
      have hle := hc d o ho hl e he h1.1
      rcases h1.2 with h2 | h2
      · rw [← h2]; exact hle
      · exact Region.reach_listed hc fuel e.on h2 hle

/-- What waits for i cannot come up before i is listed. -/
theorem Region.reach_not_ready {listed : Array Bool} {i d fuel : Nat} (hc : ListedClosed md ops listed) (hr : Region.reachB md ops i fuel d = true) (hun : listed.getD i true = false) : d ∉ Region.ready md ops listed := by
  intro hd
  obtain ⟨_, o, ho, hall⟩ := mem_ready.1 hd
  have hi : listed.getD i false = true := by
    cases fuel with
    | zero => simp [Region.reachB] at hr
    | succ n =>
      unfold Region.reachB at hr
      rw [ho] at hr
      obtain ⟨e, he, h1⟩ := Array.any_eq_true'.1 hr
      simp only [Bool.and_eq_true, Bool.or_eq_true, beq_iff_eq] at h1
      have hle := hall e he h1.1
      rcases h1.2 with h2 | h2
      · rw [← h2]; exact hle
      · exact Region.reach_listed hc n e.on h2 hle
  rcases Nat.lt_or_ge i listed.size with h' | h'
  · simp [h'] at hun hi
    rw [hun] at hi
    cases hi
  · simp [Array.getElem?_eq_none h'] at hun

/-- Whatever order is picked from here on, AND 'S' HOLDS BEHIND EVERY OPERATION THAT IS CARRIED OUT, those of ds apart. -/
def wpAnyLast (P : Program) (md : Region.Mode) (ops : Array Oper) (Q : Exit → Act → World → Prop) (S : World → Prop) (ds : List Nat) : Nat → Array Bool → Act → World → Prop
  | 0, listed, a, w => Region.ready md ops listed = [] ∧ Q .normal a w
  | fuel + 1, listed, a, w =>
    (Region.ready md ops listed = [] → Q .normal a w) ∧
    ∀ i ∈ Region.ready md ops listed, wpOp P ops Q i (fun a' w' => (i ∉ ds → S w → S w') ∧ wpAnyLast P md ops Q S ds fuel (listed.setIfInBounds i true) a' w') a w

theorem wpAny_of_last : ∀ (fuel : Nat) (listed : Array Bool) (a : Act) (w : World), wpAnyLast P md ops Q S ds fuel listed a w → wpAny P md ops Q fuel listed a w
  | 0, _, _, _, h => h
  | fuel + 1, _, _, _, h => ⟨h.1, fun i hi => wpOp_mono (fun a' w' h' => wpAny_of_last fuel _ a' w' h'.2) (h.2 i hi)⟩

theorem wpAnyLast_first {i : Nat} {oi : Oper} {v : Value} (hi : ops[i]? = some oi) (hsel : ∀ (j : Nat) (o : Oper) cs b, ops[j]? = some o → o.op ≠ .select cs b)
    (hQ : ∀ c a w, Q (.panic c) (a.put oi.dst v) w → Q (.panic c) a w) (n : Nat) :
    ∀ (fuel : Nat) (listed : Array Bool) (a : Act) (w : World),
      (∀ j oj, ops[j]? = some oj → j ≠ i → listed.getD j true = false → (∀ e ∈ oj.after, Region.binds md e = true → e.on ≠ i) → oi.apart ops oj = true) →
      ListedClosed md ops listed → (∀ d ∈ ds, listed.getD d true = false → Region.reachB md ops i n d = true) →
      i ∈ Region.ready md ops listed → YieldsIf P ops S oi v a → S w →
      wpAnyLast P md ops Q S ds fuel (listed.setIfInBounds i true) (a.put oi.dst v) w → wpAnyLast P md ops Q S ds (fuel + 1) listed a w := by
  intro fuel
  induction fuel with
  | zero =>
    intro listed a w _ _ _ hr hy hS H
    refine ⟨fun h => (by rw [h] at hr; cases hr), fun j hj => ?_⟩
    by_cases hji : j = i
    · subst hji; exact hy.wpOp hi hS ⟨fun _ h => h, H⟩
    · have := ready_mono hj hji
      rw [H.1] at this
      cases this
  | succ fuel ih =>
    intro listed a w hfree hc hd hr hy hS H
    refine ⟨fun h => (by rw [h] at hr; cases hr), fun j hj => ?_⟩
    by_cases hji : j = i
    · subst hji; exact hy.wpOp hi hS ⟨fun _ h => h, H⟩
    · have h1 := H.2 j (ready_mono hj hji)
      obtain ⟨hjun, oj, hoj, hall⟩ := mem_ready.1 hj
      have hiun := (mem_ready.1 hr).1
      have hnot : ∀ e ∈ oj.after, Region.binds md e = true → e.on ≠ i := fun e he hb heq => by
        have h1 := hall e he hb
        rw [heq] at h1
        rcases Nat.lt_or_ge i listed.size with h' | h'
        · simp [h'] at hiun h1; rw [hiun] at h1; cases h1
        · simp [Array.getElem?_eq_none h'] at h1
      have hjd : j ∉ ds := fun hm => Region.reach_not_ready hc (hd j hm hjun) hiun hj
      have h2 := wpOp_putIf hoj (hfree j oj hoj hji hjun hnot) (fun cs b => hsel i oi cs b hi) (fun cs b => hsel j oj cs b hoj) hQ hy h1
      have hfree' : ∀ k ok, ops[k]? = some ok → k ≠ i → (listed.setIfInBounds j true).getD k true = false →
          (∀ e ∈ ok.after, Region.binds md e = true → e.on ≠ i) → oi.apart ops ok = true := fun k ok hk hki hun hno => by
        refine hfree k ok hk hki ?_ hno
        by_cases hjk : j = k
        · subst hjk; exact hjun
        · rw [getD_set_ne true hjk] at hun; exact hun
      have hd' : ∀ d ∈ ds, (listed.setIfInBounds j true).getD d true = false → Region.reachB md ops i n d = true := fun d hm hun => by
        refine hd d hm ?_
        by_cases hjk : j = d
        · subst hjk; exact hjun
        · rw [getD_set_ne true hjk] at hun; exact hun
      refine wpOp_mono (fun a' w' h3 => ⟨h3.2.1, ih (listed.setIfInBounds j true) a' w' hfree' (hc.set hj) hd' (ready_mono hr (Ne.symm hji)) h3.1 (h3.2.1 hjd hS) ?_⟩) h2
      rw [Array.setIfInBounds_comm _ _ hji]
      exact h3.2.2

/-- Take number 'i' first, which yields whatever the world: no S is asked for, nor that anything waits for it. -/
theorem wpAnyLast_any {i : Nat} {oi : Oper} {v : Value} (hi : ops[i]? = some oi) (hsel : ∀ (j : Nat) (o : Oper) cs b, ops[j]? = some o → o.op ≠ .select cs b)
    (hQ : ∀ c a w, Q (.panic c) (a.put oi.dst v) w → Q (.panic c) a w) :
    ∀ (fuel : Nat) (listed : Array Bool) (a : Act) (w : World),
      (∀ j oj, ops[j]? = some oj → j ≠ i → listed.getD j true = false → (∀ e ∈ oj.after, Region.binds md e = true → e.on ≠ i) → oi.apart ops oj = true) →
      i ∈ Region.ready md ops listed → Yields P ops oi v a →
      wpAnyLast P md ops Q S ds fuel (listed.setIfInBounds i true) (a.put oi.dst v) w → wpAnyLast P md ops Q S ds (fuel + 1) listed a w := by
  intro fuel
  induction fuel with
  | zero =>
    intro listed a w _ hr hy H
    refine ⟨fun h => (by rw [h] at hr; cases hr), fun j hj => ?_⟩
    by_cases hji : j = i
    · subst hji; exact (hy.yieldsIf (S := fun _ => True)).wpOp hi trivial ⟨fun _ h => h, H⟩
    · have := ready_mono hj hji
      rw [H.1] at this
      cases this
  | succ fuel ih =>
    intro listed a w hfree hr hy H
    refine ⟨fun h => (by rw [h] at hr; cases hr), fun j hj => ?_⟩
    by_cases hji : j = i
    · subst hji; exact (hy.yieldsIf (S := fun _ => True)).wpOp hi trivial ⟨fun _ h => h, H⟩
    · have h1 := H.2 j (ready_mono hj hji)
      obtain ⟨hjun, oj, hoj, hall⟩ := mem_ready.1 hj
      have hiun := (mem_ready.1 hr).1
      have hnot : ∀ e ∈ oj.after, Region.binds md e = true → e.on ≠ i := fun e he hb heq => by
        have h1 := hall e he hb
        rw [heq] at h1
        rcases Nat.lt_or_ge i listed.size with h' | h'
        · simp [h'] at hiun h1; rw [hiun] at h1; cases h1
        · simp [Array.getElem?_eq_none h'] at h1
      have h2 := wpOp_put hoj (hfree j oj hoj hji hjun hnot) (fun cs b => hsel i oi cs b hi) (fun cs b => hsel j oj cs b hoj) hQ hy h1
      have hfree' : ∀ k ok, ops[k]? = some ok → k ≠ i → (listed.setIfInBounds j true).getD k true = false →
          (∀ e ∈ ok.after, Region.binds md e = true → e.on ≠ i) → oi.apart ops ok = true := fun k ok hk hki hun hno => by
        refine hfree k ok hk hki ?_ hno
        by_cases hjk : j = k
        · subst hjk; exact hjun
        · rw [getD_set_ne true hjk] at hun; exact hun
      refine wpOp_mono (fun a' w' h3 => ⟨h3.2.1, ih (listed.setIfInBounds j true) a' w' hfree' (ready_mono hr (Ne.symm hji)) h3.1 ?_⟩) h2
      rw [Array.setIfInBounds_comm _ _ hji]
      exact h3.2.2

/-- Take number 'i' first. -/
theorem wpAnyLast_take {i : Nat} {oi : Oper} {v : Value} {fuel : Nat} {listed : Array Bool} {a : Act} {w : World} (hi : ops[i]? = some oi)
    (hs : Region.noSelect ops = true) (hf : Region.free md ops listed i = true) (hr : (Region.ready md ops listed).contains i = true)
    (hc : Region.closedB md ops listed = true) (hl : Region.lastB md ops listed ds i = true)
    (hQ : ∀ c a w, Q (.panic c) (a.put oi.dst v) w → Q (.panic c) a w) (hy : YieldsIf P ops S oi v a) (hS : S w)
    (h : wpAnyLast P md ops Q S ds fuel (listed.setIfInBounds i true) (a.put oi.dst v) w) : wpAnyLast P md ops Q S ds (fuel + 1) listed a w :=
  wpAnyLast_first hi (Region.noSelect_spec hs) hQ ops.size fuel listed a w (Region.free_spec hi hf) (Region.closedB_spec hc)
    (fun d hm hun => by have := List.all_eq_true.1 hl d hm; rw [hun] at this; simpa using this) (by simpa using hr) hy hS h

theorem wpAnyLast_all {rs : List Nat} {fuel : Nat} {listed : Array Bool} {a : Act} {w : World} (hr : Region.ready md ops listed = rs) (hne : rs ≠ [])
    (h : ∀ i ∈ rs, wpOp P ops Q i (fun a' w' => (i ∉ ds → S w → S w') ∧ wpAnyLast P md ops Q S ds fuel (listed.setIfInBounds i true) a' w') a w) : wpAnyLast P md ops Q S ds (fuel + 1) listed a w :=
  ⟨fun h0 => absurd (hr ▸ h0) hne, hr ▸ h⟩

theorem wpAnyLast_done {listed : Array Bool} {a : Act} {w : World} (hr : Region.ready md ops listed = []) (h : Q .normal a w) :
    ∀ fuel, wpAnyLast P md ops Q S ds fuel listed a w
  | 0 => ⟨hr, h⟩
  | _ + 1 => ⟨fun _ => h, by rw [hr]; simp⟩

theorem wp_region_last {id : Nat} {a : Act} {w : World} (hm : P.follows .mixedOrders = true)
    (h : wpAnyLast P .any ops Q S ds ops.size (Array.replicate ops.size false) a { w with drawn := w.drawn + 1 }) : (Code.region id ops true).wp P Q a w :=
  wp_region_any hm (wpAny_of_last _ _ _ _ h)

end

section
variable {P : Program} {ops : Array Oper} {Q : Exit → Act → World → Prop} {md : Region.Mode} {S : World → Prop} {ds : List Nat}

def AllReadyL (P : Program) (md : Region.Mode) (ops : Array Oper) (Q : Exit → Act → World → Prop) (S : World → Prop) (ds : List Nat) (fuel : Nat) (listed : Array Bool) (a : Act) (w : World) (rs : List Nat) : Prop :=
  ∀ i ∈ rs, wpOp P ops Q i (fun a' w' => (i ∉ ds → S w → S w') ∧ wpAnyLast P md ops Q S ds fuel (listed.setIfInBounds i true) a' w') a w
theorem AllReadyL.nil {fuel : Nat} {listed : Array Bool} {a : Act} {w : World} : AllReadyL P md ops Q S ds fuel listed a w [] := fun _ h => by cases h
theorem AllReadyL.cons {fuel : Nat} {listed : Array Bool} {a : Act} {w : World} {i : Nat} {o : Oper} {rs : List Nat} (ho : ops[i]? = some o) (hd : i ∉ ds)
    (h : ∀ K' : Act → World → Prop, Shut (∀ a w, S w → (S w → wpAnyLast P md ops Q S ds fuel (listed.setIfInBounds i true) a w) → K' a w) → if Region.wanted o (yielded ops a.tmps) = true then Oper.wp P o a w K' Q else K' (a.put o.dst undef) w)
    (hs : AllReadyL P md ops Q S ds fuel listed a w rs) : AllReadyL P md ops Q S ds fuel listed a w (i :: rs) := fun j hj => by
  rcases List.mem_cons.1 hj with rfl | hj
  · exact wpOp_step ho (fun K' hK => h K' (fun a w hS hW => hK a w ⟨fun _ _ => hS, hW hS⟩))
  · exact hs j hj
/-- Behind an operation of ds nothing is shown. -/
theorem AllReadyL.cons_last {fuel : Nat} {listed : Array Bool} {a : Act} {w : World} {i : Nat} {o : Oper} {rs : List Nat} (ho : ops[i]? = some o) (hd : i ∈ ds)
    (h : ∀ K' : Act → World → Prop, Shut (∀ a w, wpAnyLast P md ops Q S ds fuel (listed.setIfInBounds i true) a w → K' a w) → if Region.wanted o (yielded ops a.tmps) = true then Oper.wp P o a w K' Q else K' (a.put o.dst undef) w)
    (hs : AllReadyL P md ops Q S ds fuel listed a w rs) : AllReadyL P md ops Q S ds fuel listed a w (i :: rs) := fun j hj => by
  rcases List.mem_cons.1 hj with rfl | hj
  · exact wpOp_step ho (fun K' hK => h K' (fun a w hW => hK a w ⟨fun hn => absurd hd hn, hW⟩))
  · exact hs j hj
theorem wpAnyLast_ready {rs : List Nat} {fuel : Nat} {listed : Array Bool} {a : Act} {w : World} (hr : Region.ready md ops listed = rs) (hne : rs ≠ [])
    (h : AllReadyL P md ops Q S ds fuel listed a w rs) : wpAnyLast P md ops Q S ds (fuel + 1) listed a w := wpAnyLast_all hr hne h
/-- THE SAME STEPS WITH WHAT HAS COME UP WRITTEN OUT (a literal array of Bools) and one check a step: quicker, and what is printed stays short. -/
theorem start_ {id n : Nat} {a : Act} {w : World} (l : Array Bool) (hm : P.follows .mixedOrders = true) (hn : ops.size = n) (hl : Array.replicate n false = l) (hS : S w.drew)
    (h : S w.drew → wpAnyLast P .any ops Q S ds n l a w.drew) : (Code.region id ops true).wp P Q a w := by
  subst hn
  subst hl
  exact wp_region_last hm (h hS)
def takeB (md : Region.Mode) (ops : Array Oper) (ds : List Nat) (l l' : Array Bool) (i : Nat) : Bool :=
  Region.noSelect ops && Region.free md ops l i && (Region.ready md ops l).contains i && Region.closedB md ops l && Region.lastB md ops l ds i && (l.setIfInBounds i true == l')
theorem take_ {i : Nat} {N : Option Tmp} {oi : Oper} {v : Value} {fuel : Nat} {l : Array Bool} {a : Act} {w : World} (l' : Array Bool) (hi : ops[i]? = some oi) (hN : oi.dst = N) (hc : takeB md ops ds l l' i = true)
    (hQ : ∀ c a w, Q (.panic c) (a.put oi.dst v) w → Q (.panic c) a w) (hy : YieldsIf P ops S oi v a) (hS : S w) {a' : Act} (ha : a.put N v = a')
    (h : wpAnyLast P md ops Q S ds fuel l' a' w) : wpAnyLast P md ops Q S ds (fuel + 1) l a w := by
  subst ha
  subst hN
  simp only [takeB, Bool.and_eq_true, beq_iff_eq] at hc
  obtain ⟨⟨⟨⟨⟨h1, h2⟩, h3⟩, h4⟩, h5⟩, h6⟩ := hc
  subst h6
  exact wpAnyLast_take hi h1 h2 h3 h4 h5 hQ hy hS h
def anyB (md : Region.Mode) (ops : Array Oper) (l l' : Array Bool) (i : Nat) : Bool :=
  Region.noSelect ops && Region.free md ops l i && (Region.ready md ops l).contains i && (l.setIfInBounds i true == l')
/-- An operation that yields in every world (a move, a number, an address): taken first wherever it may come up, behind a store too. -/
theorem pure_ {i : Nat} {N : Option Tmp} {oi : Oper} {v : Value} {fuel : Nat} {l : Array Bool} {a : Act} {w : World} (l' : Array Bool) (hi : ops[i]? = some oi) (hN : oi.dst = N) (hc : anyB md ops l l' i = true)
    (hQ : ∀ c a w, Q (.panic c) (a.put oi.dst v) w → Q (.panic c) a w) (hy : Yields P ops oi v a) {a' : Act} (ha : a.put N v = a')
    (h : wpAnyLast P md ops Q S ds fuel l' a' w) : wpAnyLast P md ops Q S ds (fuel + 1) l a w := by
  subst ha
  subst hN
  simp only [anyB, Bool.and_eq_true, beq_iff_eq] at hc
  obtain ⟨⟨⟨h1, h2⟩, h3⟩, h6⟩ := hc
  subst h6
  exact wpAnyLast_any hi (Region.noSelect_spec h1) hQ fuel l a w (Region.free_spec hi h2) (by simpa using h3) hy h
def readyB (md : Region.Mode) (ops : Array Oper) (l l' : Array Bool) (i : Nat) : Bool := (Region.ready md ops l == [i]) && (l.setIfInBounds i true == l')
/-- One operation alone may come up now (a call, a build, an append ..): it is run, S is shown behind it. -/
theorem one_ {i : Nat} {N : Option Tmp} {oi : Oper} {fuel : Nat} {l : Array Bool} {a : Act} {w : World} (l' : Array Bool) (hi : ops[i]? = some oi) (hN : oi.dst = N) (hc : readyB md ops l l' i = true) (hd : i ∉ ds)
    (h : ∀ K : Act → World → Prop, Shut (∀ a' w', S w' → (S w' → wpAnyLast P md ops Q S ds fuel l' a' w') → K a' w') → if Region.wanted oi (yielded ops a.tmps) = true then Oper.wp P oi a w K Q else K (a.put N undef) w) :
    wpAnyLast P md ops Q S ds (fuel + 1) l a w := by
  subst hN
  simp only [readyB, Bool.and_eq_true, beq_iff_eq] at hc
  obtain ⟨h1, h2⟩ := hc
  subst h2
  exact wpAnyLast_ready h1 (by simp) (AllReadyL.cons hi hd (fun K hK => h K hK) AllReadyL.nil)
/-- The same for one of ds: nothing is shown behind it. -/
theorem last_ {i : Nat} {N : Option Tmp} {oi : Oper} {fuel : Nat} {l : Array Bool} {a : Act} {w : World} (l' : Array Bool) (hi : ops[i]? = some oi) (hN : oi.dst = N) (hc : readyB md ops l l' i = true) (hd : i ∈ ds)
    (h : ∀ K : Act → World → Prop, Shut (∀ a' w', wpAnyLast P md ops Q S ds fuel l' a' w' → K a' w') → if Region.wanted oi (yielded ops a.tmps) = true then Oper.wp P oi a w K Q else K (a.put N undef) w) :
    wpAnyLast P md ops Q S ds (fuel + 1) l a w := by
  subst hN
  simp only [readyB, Bool.and_eq_true, beq_iff_eq] at hc
  obtain ⟨h1, h2⟩ := hc
  subst h2
  exact wpAnyLast_ready h1 (by simp) (AllReadyL.cons_last hi hd (fun K hK => h K hK) AllReadyL.nil)
theorem done_ {l : Array Bool} {a : Act} {w : World} {n : Nat} (hr : (Region.ready md ops l == []) = true) (h : Q .normal a w) : wpAnyLast P md ops Q S ds n l a w := wpAnyLast_done (by simpa using hr) h n
/-! ### Several operations that write or call may come up: each order is walked, what follows is shown once (join_) -/
theorem two_ {i j : Nat} {Ni Nj : Option Tmp} {oi oj : Oper} {fuel : Nat} {l : Array Bool} {a : Act} {w : World} (li lj : Array Bool) (hi : ops[i]? = some oi) (hj : ops[j]? = some oj) (hNi : oi.dst = Ni) (hNj : oj.dst = Nj)
    (hc : (Region.ready md ops l == [i, j] && l.setIfInBounds i true == li && l.setIfInBounds j true == lj) = true) (hdi : i ∉ ds) (hdj : j ∉ ds)
    (h1 : ∀ K : Act → World → Prop, Shut (∀ a' w', S w' → (S w' → wpAnyLast P md ops Q S ds fuel li a' w') → K a' w') → if Region.wanted oi (yielded ops a.tmps) = true then Oper.wp P oi a w K Q else K (a.put Ni undef) w)
    (h2 : ∀ K : Act → World → Prop, Shut (∀ a' w', S w' → (S w' → wpAnyLast P md ops Q S ds fuel lj a' w') → K a' w') → if Region.wanted oj (yielded ops a.tmps) = true then Oper.wp P oj a w K Q else K (a.put Nj undef) w) :
    wpAnyLast P md ops Q S ds (fuel + 1) l a w := by
  subst hNi
  subst hNj
  simp only [Bool.and_eq_true, beq_iff_eq] at hc
  obtain ⟨⟨h3, h4⟩, h5⟩ := hc
  subst h4
  subst h5
  exact wpAnyLast_ready h3 (by simp) (AllReadyL.cons hi hdi (fun K hK => h1 K hK) (AllReadyL.cons hj hdj (fun K hK => h2 K hK) AllReadyL.nil))
theorem three_ {i j k : Nat} {Ni Nj Nk : Option Tmp} {oi oj ok : Oper} {fuel : Nat} {l : Array Bool} {a : Act} {w : World} (li lj lk : Array Bool) (hi : ops[i]? = some oi) (hj : ops[j]? = some oj) (hk : ops[k]? = some ok) (hNi : oi.dst = Ni) (hNj : oj.dst = Nj) (hNk : ok.dst = Nk)
    (hc : (Region.ready md ops l == [i, j, k] && l.setIfInBounds i true == li && l.setIfInBounds j true == lj && l.setIfInBounds k true == lk) = true) (hdi : i ∉ ds) (hdj : j ∉ ds) (hdk : k ∉ ds)
    (h1 : ∀ K : Act → World → Prop, Shut (∀ a' w', S w' → (S w' → wpAnyLast P md ops Q S ds fuel li a' w') → K a' w') → if Region.wanted oi (yielded ops a.tmps) = true then Oper.wp P oi a w K Q else K (a.put Ni undef) w)
    (h2 : ∀ K : Act → World → Prop, Shut (∀ a' w', S w' → (S w' → wpAnyLast P md ops Q S ds fuel lj a' w') → K a' w') → if Region.wanted oj (yielded ops a.tmps) = true then Oper.wp P oj a w K Q else K (a.put Nj undef) w)
    (h3 : ∀ K : Act → World → Prop, Shut (∀ a' w', S w' → (S w' → wpAnyLast P md ops Q S ds fuel lk a' w') → K a' w') → if Region.wanted ok (yielded ops a.tmps) = true then Oper.wp P ok a w K Q else K (a.put Nk undef) w) :
    wpAnyLast P md ops Q S ds (fuel + 1) l a w := by
  subst hNi
  subst hNj
  subst hNk
  simp only [Bool.and_eq_true, beq_iff_eq] at hc
  obtain ⟨⟨⟨h4, h5⟩, h6⟩, h7⟩ := hc
  subst h5
  subst h6
  subst h7
  exact wpAnyLast_ready h4 (by simp) (AllReadyL.cons hi hdi (fun K hK => h1 K hK) (AllReadyL.cons hj hdj (fun K hK => h2 K hK) (AllReadyL.cons hk hdk (fun K hK => h3 K hK) AllReadyL.nil)))
/-- The act with some destinations filled. -/
def putAll : Act → List (Tmp × Value) → Act
  | a, [] => a
  | a, (n, v) :: r => putAll (a.put (some n) v) r
/-- What follows, once: s the values that the orders leave, F what is known of them and of the world. -/
theorem join_ {σ : Type} {fuel : Nat} {l : Array Bool} {a : Act} {w : World} (fuel' : Nat) (l' : Array Bool) (ns : σ → List (Tmp × Value)) (F : σ → World → Prop)
    (hcont : ∀ s w', F s w' → wpAnyLast P md ops Q S ds fuel' l' (putAll a (ns s)) w')
    (h : (∀ s w', F s w' → wpAnyLast P md ops Q S ds fuel' l' (putAll a (ns s)) w') → wpAnyLast P md ops Q S ds fuel l a w) : wpAnyLast P md ops Q S ds fuel l a w := h hcont
/-- The act written out. -/
theorem norm_ {fuel : Nat} {l : Array Bool} {a a' : Act} {w : World} (ha : a = a') (h : wpAnyLast P md ops Q S ds fuel l a' w) : wpAnyLast P md ops Q S ds fuel l a w := by
  subst ha
  exact h
/-- A call of a Go function, by its contract. -/
theorem call_ {oi : Oper} {N : Option Tmp} {a : Act} {w : World} {K : Act → World → Prop} (f : FuncId) (args : Array Value) (hw : Region.wanted oi (yielded ops a.tmps) = true) (hN : oi.dst = N) (hrun : (execOp a.eval oi).run P w = .ok (.enter f args) w)
    (h : Calls P f args w fun e w' => ∃ v, e = .returned v ∧ K (a.put N v) w') : if Region.wanted oi (yielded ops a.tmps) = true then Oper.wp P oi a w K Q else K (a.put N undef) w := by
  rw [if_pos hw]
  subst hN
  unfold Oper.wp
  rw [hrun, Oper.upon_enter]
  refine h.mono fun e w'' hh => ?_
  obtain ⟨v, rfl, hk⟩ := hh
  exact hk
theorem enters_ {f : FuncId} {fn : Func} (hf : P.funcs[f]? = some fn) (hname : (fn.name == "runtime.NumGoroutine") = false) (hb : fn.body.isSome = true) (args : Array Value) (w : World) : (callFunc f args).run P w = .ok (.enter f args) w := by
  have h1 : fn.name ≠ "runtime.NumGoroutine" := by simpa using hname
  obtain ⟨c, hc⟩ := Option.isSome_iff_exists.1 hb
  simp [callFunc, hf, h1, hc]
/-- The same, the operation's run shown here: 'goes_ A.func3 (by kernel_rfl) rfl #[..] (by rfl) rfl rfl (by rfl) ?_'. -/
theorem goes_ {oi : Oper} {N : Option Tmp} {a : Act} {w : World} {K : Act → World → Prop} {f : FuncId} {fn : Func} {as_ : Array Operand} {ts : Array TypeId} (hf : P.funcs[f]? = some fn) (hname : (fn.name == "runtime.NumGoroutine") = false) (hb : fn.body.isSome = true) (args : Array Value)
    (hw : Region.wanted oi (yielded ops a.tmps) = true) (hN : oi.dst = N) (hop : oi.op = .call { callee := .value (.func f), args := as_, argTypes := ts }) (hargs : as_.map a.eval = args)
    (h : Calls P f args w fun e w' => ∃ v, e = .returned v ∧ K (a.put N v) w') : if Region.wanted oi (yielded ops a.tmps) = true then Oper.wp P oi a w K Q else K (a.put N undef) w := by
  refine call_ f args hw hN ?_ h
  have he := enters_ hf hname hb args w
  unfold execOp
  simp [hop, resolve, Deferred.ofValue, invoke, Act.eval, hargs, he]
/-- A call in a plain region, as_ an arm of go_wp2_with ('hd' first: it fails at once at another operation). -/
theorem goesL_ {rest : List Oper} {oi : Oper} {a : Act} {w : World} (N : Option Tmp) (hd : oi.dst = N) (hg : oi.guard = none) {f : FuncId} {fn : Func} {as_ : Array Operand} {ts : Array TypeId} (hf : P.funcs[f]? = some fn) (hname : (fn.name == "runtime.NumGoroutine") = false) (hb : fn.body.isSome = true) (args : Array Value)
    (hop : oi.op = .call { callee := .value (.func f), args := as_, argTypes := ts }) (hargs : as_.map a.eval = args)
    (h : Calls P f args w fun e w' => ∃ v, e = .returned v ∧ wpList P ops Q rest (a.put N v) w') : wpList P ops Q (oi :: rest) a w := by
  refine wpList_plain hg fun K hK => ?_
  have he := enters_ hf hname hb args w
  have hrun : (execOp a.eval oi).run P w = .ok (.enter f args) w := by
    unfold execOp
    simp [hop, resolve, Deferred.ofValue, invoke, Act.eval, hargs, he]
  unfold Oper.wp
  rw [hrun, Oper.upon_enter]
  refine h.mono fun e w'' hh => ?_
  obtain ⟨v, rfl, hk⟩ := hh
  subst hd
  exact hK _ _ hk
/-- An operation that yields a value (and may make memory). -/
theorem value_ {oi : Oper} {N : Option Tmp} {a : Act} {w w1 : World} {v : Value} {K : Act → World → Prop} (hw : Region.wanted oi (yielded ops a.tmps) = true) (hN : oi.dst = N) (hrun : (execOp a.eval oi).run P w = .ok (.value v) w1)
    (h : K (a.put N v) w1) : if Region.wanted oi (yielded ops a.tmps) = true then Oper.wp P oi a w K Q else K (a.put N undef) w := by
  rw [if_pos hw]
  subst hN
  unfold Oper.wp
  rw [hrun]
  exact h
/-- A store. -/
theorem skip_ {oi : Oper} {a : Act} {w w1 : World} {K : Act → World → Prop} (hw : Region.wanted oi (yielded ops a.tmps) = true) (hN : oi.dst = none) (hrun : (execOp a.eval oi).run P w = .ok .skip w1)
    (h : K a w1) : if Region.wanted oi (yielded ops a.tmps) = true then Oper.wp P oi a w K Q else K (a.put none undef) w := by
  rw [if_pos hw]
  unfold Oper.wp
  rw [hrun]
  show K (a.put oi.dst undef) w1
  rw [hN]
  exact h
/-- An operation whose guard is off, behind a store of ds. -/
theorem off_ {oi : Oper} {N : Option Tmp} {a : Act} {w : World} {K : Act → World → Prop} (hw : Region.wanted oi (yielded ops a.tmps) = false) (h : K (a.put N undef) w) : if Region.wanted oi (yielded ops a.tmps) = true then Oper.wp P oi a w K Q else K (a.put N undef) w := by
  rw [hw, if_neg (by simp)]
  exact h
theorem i64_w (n : Int) : IntKind.i64.wrap n = Go.RowKit.wrap64 n := by unfold Go.RowKit.wrap64; exact IntKind.wrap_i64 n
theorem i32_w (n : Int) : IntKind.i32.wrap n = Go.RowKit.wrap32 n := by unfold Go.RowKit.wrap32; exact IntKind.wrap_i32 n
end
end Go.Proofs.YtlklclebjeeaaaaW.PrintLast
end
section
/-! ### 50. A region's order in a table, made once a region: each step asks the table (numbers alone), not the operations -/
namespace Go.Proofs.YtlklclebjeeaaaaW.PrintLast
open Go.Proofs.YtlklclebjeeaaaaW.PrintWords (Aside0)
def needsOf (md : Region.Mode) (o : Oper) : List Nat := (o.after.toList.filter (fun e => Region.binds md e)).map (fun e => e.on)
def clashOf (md : Region.Mode) (ops : Array Oper) (i : Nat) (oi : Oper) : List Nat := (List.range ops.size).filter fun j => !(j == i) && match ops[j]? with
  | some oj => !(oj.after.any (fun e => Region.binds md e && e.on == i) || oi.apart ops oj)
  | none => false
/-- No select in it; for each operation: what must have come up before it, and what may not come up behind it if it is taken first. -/
def rtab (md : Region.Mode) (ops : Array Oper) : Bool × List (List Nat × List Nat) := (Region.noSelect ops, (List.range ops.size).map fun i => match ops[i]? with
  | some o => (needsOf md o, clashOf md ops i o)
  | none => ([], []))
def readyAt (T : List (List Nat × List Nat)) (l : List Bool) (i : Nat) : Bool := !l.getD i true && match T[i]? with
  | some r => r.1.all (fun j => l.getD j false)
  | none => false
def readyT (T : List (List Nat × List Nat)) (l : List Bool) : List Nat := (List.range T.length).filter (readyAt T l)
def freeT (T : List (List Nat × List Nat)) (l : List Bool) (i : Nat) : Bool := match T[i]? with
  | some r => r.2.all (fun j => l.getD j true)
  | none => false
def closedT (T : List (List Nat × List Nat)) (l : List Bool) : Bool := (List.range T.length).all fun j => !l.getD j false || match T[j]? with
  | some r => r.1.all (fun k => l.getD k false)
  | none => true
def reachT (T : List (List Nat × List Nat)) (i : Nat) : Nat → Nat → Bool
  | 0, _ => false
  | fuel + 1, d => match T[d]? with
    | some r => r.1.any fun j => j == i || reachT T i fuel j
    | none => false
def lastT (T : List (List Nat × List Nat)) (l : List Bool) (ds : List Nat) (i : Nat) : Bool := ds.all fun d => l.getD d true || reachT T i T.length d
section
variable {md : Region.Mode} {ops : Array Oper} {T : Bool × List (List Nat × List Nat)} {l l' li lj lk : Array Bool} {ds : List Nat} {i j k : Nat}
theorem gd (l : Array Bool) (j : Nat) (b : Bool) : l.getD j b = l.toList.getD j b := by simp [Array.getD_eq_getD_getElem?, List.getD_eq_getElem?_getD]
theorem needs_all (o : Oper) (p : Nat → Bool) : o.after.all (fun e => !Region.binds md e || p e.on) = (needsOf md o).all p := by
  unfold needsOf
  rw [← Array.all_toList]
  induction o.after.toList with
  | nil => rfl
  | cons e r ih =>
    rw [List.all_cons, ih, List.filter_cons]
    cases h : Region.binds md e <;> simp
theorem needs_any (o : Oper) (p : Nat → Bool) : o.after.any (fun e => Region.binds md e && p e.on) = (needsOf md o).any p := by
  unfold needsOf
  rw [← Array.any_toList]
  induction o.after.toList with
  | nil => rfl
  | cons e r ih =>
    rw [List.any_cons, ih, List.filter_cons]
    cases h : Region.binds md e <;> simp
theorem rtab_length : (rtab md ops).2.length = ops.size := by simp [rtab]
theorem rtab_some {o : Oper} (h : ops[i]? = some o) : (rtab md ops).2[i]? = some (needsOf md o, clashOf md ops i o) := by
  have hi := (Array.getElem?_eq_some_iff.1 h).1
  unfold rtab
  rw [List.getElem?_map, List.getElem?_range hi, Option.map_some, h]
theorem rtab_none (h : ops[i]? = none) : (rtab md ops).2[i]? = none := by
  have hi : ops.size ≤ i := Array.getElem?_eq_none_iff.1 h
  exact List.getElem?_eq_none (by rw [rtab_length]; exact hi)
theorem readyAt_eq : readyAt (rtab md ops).2 l.toList i = (!l.getD i true && ((ops[i]?).map (·.after.all fun e => !Region.binds md e || l.getD e.on false)).getD false) := by
  unfold readyAt
  rw [gd]
  cases h : ops[i]? with
  | none => rw [rtab_none h]; rfl
  | some o =>
    rw [rtab_some h]
    simp only [Option.map_some, Option.getD_some]
    rw [← needs_all]
    simp only [gd]
theorem ready_eq : Region.ready md ops l = readyT (rtab md ops).2 l.toList := by
  unfold Region.ready readyT
  rw [rtab_length]
  refine List.filter_congr (fun i _ => ?_)
  rw [readyAt_eq]
theorem free_eq : Region.free md ops l i = freeT (rtab md ops).2 l.toList i := by
  unfold Region.free freeT
  cases h : ops[i]? with
  | none => rw [rtab_none h]
  | some oi =>
    rw [rtab_some h]
    simp only [clashOf]
    rw [List.all_filter]
    congr 1
    funext j
    rw [gd]
    cases hj : ops[j]? with
    | none => cases (j == i) <;> cases (l.toList.getD j true) <;> simp
    | some oj =>
      cases (j == i) <;> cases (l.toList.getD j true) <;> cases (oj.after.any (fun e => Region.binds md e && e.on == i) || oi.apart ops oj) <;> simp_all
theorem closed_eq : Region.closedB md ops l = closedT (rtab md ops).2 l.toList := by
  unfold Region.closedB closedT
  rw [rtab_length]
  congr 1
  funext j
  rw [gd]
  cases h : ops[j]? with
  | none => rw [rtab_none h]
  | some o =>
    rw [rtab_some h]
    simp only
    rw [← needs_all]
    simp only [gd]
theorem reach_eq : ∀ (fuel d : Nat), Region.reachB md ops i fuel d = reachT (rtab md ops).2 i fuel d
  | 0, _ => rfl
  | fuel + 1, d => by
    unfold Region.reachB reachT
    cases h : ops[d]? with
    | none => rw [rtab_none h]
    | some o =>
      rw [rtab_some h]
      simp only
      rw [← needs_any]
      congr 1
      funext e
      rw [reach_eq fuel]
theorem last_eq : Region.lastB md ops l ds i = lastT (rtab md ops).2 l.toList ds i := by
  unfold Region.lastB lastT
  rw [rtab_length]
  congr 1
  funext d
  rw [gd, reach_eq]
theorem readyAt_mem (h : readyAt T.2 l.toList i = true) (hT : rtab md ops = T) : (Region.ready md ops l).contains i = true := by
  subst hT
  rw [ready_eq]
  unfold readyT
  rw [List.contains_iff_mem, List.mem_filter, List.mem_range]
  refine ⟨?_, h⟩
  unfold readyAt at h
  rw [Bool.and_eq_true] at h
  cases hq : (rtab md ops).2[i]? with
  | none => rw [hq] at h; simp at h
  | some r => exact (List.getElem?_eq_some_iff.1 hq).1
theorem set_of (h : (l.toList.set i true == l'.toList) = true) : (l.setIfInBounds i true == l') = true := by
  rw [beq_iff_eq] at h ⊢
  apply Array.ext'
  rw [Array.toList_setIfInBounds]
  exact h
def anyT (T : Bool × List (List Nat × List Nat)) (l l' : List Bool) (i : Nat) : Bool := T.1 && freeT T.2 l i && readyAt T.2 l i && (l.set i true == l')
/-- pure_'s condition out of the table. -/
theorem any_of (hT : rtab md ops = T) (h : anyT T l.toList l'.toList i = true) : anyB md ops l l' i = true := by
  simp only [anyT, Bool.and_eq_true] at h
  obtain ⟨⟨⟨h1, h2⟩, h3⟩, h4⟩ := h
  have h5 := readyAt_mem h3 hT
  have h6 := set_of h4
  subst hT
  simp only [anyB, Bool.and_eq_true]
  exact ⟨⟨⟨h1, by rw [free_eq]; exact h2⟩, h5⟩, h6⟩
def takeT (T : Bool × List (List Nat × List Nat)) (ds : List Nat) (l l' : List Bool) (i : Nat) : Bool := T.1 && freeT T.2 l i && readyAt T.2 l i && closedT T.2 l && lastT T.2 l ds i && (l.set i true == l')
/-- take_'s. -/
theorem take_of (hT : rtab md ops = T) (h : takeT T ds l.toList l'.toList i = true) : takeB md ops ds l l' i = true := by
  simp only [takeT, Bool.and_eq_true] at h
  obtain ⟨⟨⟨⟨⟨h1, h2⟩, h3⟩, h4⟩, h5⟩, h6⟩ := h
  have h7 := readyAt_mem h3 hT
  have h8 := set_of h6
  subst hT
  simp only [takeB, Bool.and_eq_true]
  exact ⟨⟨⟨⟨⟨h1, by rw [free_eq]; exact h2⟩, h7⟩, by rw [closed_eq]; exact h4⟩, by rw [last_eq]; exact h5⟩, h8⟩
/-- one_'s and last_'s. -/
theorem one_of (hT : rtab md ops = T) (h : (readyT T.2 l.toList == [i] && l.toList.set i true == l'.toList) = true) : readyB md ops l l' i = true := by
  simp only [Bool.and_eq_true] at h
  obtain ⟨h1, h2⟩ := h
  subst hT
  simp only [readyB, Bool.and_eq_true]
  exact ⟨by rw [ready_eq]; exact h1, set_of h2⟩
/-- done_'s. -/
theorem done_of (hT : rtab md ops = T) (h : (readyT T.2 l.toList == []) = true) : (Region.ready md ops l == []) = true := by
  subst hT
  rw [ready_eq]
  exact h
/-- What d waits for, as_ bits: told in the table (B), checked in one pass: each bit is a need of d, or a bit of an earlier need's. -/
def upM (B : List Nat) (d : Nat) : List Nat → Nat
  | [] => 0
  | n :: r => (2 ^ n ||| (if n < d then B.getD n 0 else 0)) ||| upM B d r
def waitsOk (T : List (List Nat × List Nat)) (B : List Nat) : Bool := (List.range T.length).all fun d => match T[d]? with
  | some r => (B.getD d 0 ||| upM B d r.1) == upM B d r.1
  | none => false
theorem upM_bit {B : List Nat} {d i : Nat} : ∀ {ns : List Nat}, (upM B d ns).testBit i = true → ∃ n ∈ ns, n = i ∨ (n < d ∧ (B.getD n 0).testBit i = true)
  | [], h => by simp [upM] at h
  | n :: r, h => by
    unfold upM at h
    rw [Nat.testBit_or, Nat.testBit_or, Bool.or_eq_true, Bool.or_eq_true] at h
    rcases h with (h | h) | h
    · rw [Nat.testBit_two_pow] at h
      exact ⟨n, List.mem_cons_self, .inl (by simpa using h)⟩
    · by_cases hn : n < d
      · rw [if_pos hn] at h
        exact ⟨n, List.mem_cons_self, .inr ⟨hn, h⟩⟩
      · rw [if_neg hn] at h
        simp at h
    · obtain ⟨m, hm, h2⟩ := upM_bit h
      exact ⟨m, List.mem_cons_of_mem _ hm, h2⟩
theorem reach_bit {T : List (List Nat × List Nat)} {B : List Nat} (hB : waitsOk T B = true) : ∀ (fuel d : Nat), d < fuel → d < T.length → (B.getD d 0).testBit i = true → reachT T i fuel d = true
  | 0, d, h, _, _ => by omega
  | fuel + 1, d, h, hd, hb => by
    have h1 := List.all_eq_true.1 hB d (List.mem_range.2 hd)
    cases hr : T[d]? with
    | none => rw [hr] at h1; simp at h1
    | some r =>
      rw [hr] at h1
      simp only [beq_iff_eq] at h1
      have h2 : (upM B d r.1).testBit i = true := by rw [← h1, Nat.testBit_or, hb, Bool.true_or]
      obtain ⟨n, hn, h3⟩ := upM_bit h2
      unfold reachT
      rw [hr]
      simp only
      rw [List.any_eq_true]
      refine ⟨n, hn, ?_⟩
      rcases h3 with rfl | ⟨h4, h5⟩
      · simp
      · rw [reach_bit hB fuel n (by omega) (by omega) h5, Bool.or_true]
def lastW (T : List (List Nat × List Nat)) (B : List Nat) (l : List Bool) (ds : List Nat) (i : Nat) : Bool := ds.all fun d => l.getD d true || (decide (d < T.length) && (B.getD d 0).testBit i)
def takeW (T : Bool × List (List Nat × List Nat)) (B : List Nat) (ds : List Nat) (l l' : List Bool) (i : Nat) : Bool := T.1 && freeT T.2 l i && readyAt T.2 l i && closedT T.2 l && lastW T.2 B l ds i && (l.set i true == l')
/-- take_'s, by the bits. -/
theorem take_ofW {B : List Nat} (hT : rtab md ops = T) (hB : waitsOk T.2 B = true) (h : takeW T B ds l.toList l'.toList i = true) : takeB md ops ds l l' i = true := by
  refine take_of hT ?_
  simp only [takeW, takeT, Bool.and_eq_true] at h ⊢
  obtain ⟨⟨⟨⟨⟨h1, h2⟩, h3⟩, h4⟩, h5⟩, h6⟩ := h
  refine ⟨⟨⟨⟨⟨h1, h2⟩, h3⟩, h4⟩, ?_⟩, h6⟩
  unfold lastW at h5
  unfold lastT
  rw [List.all_eq_true] at h5 ⊢
  intro d hd
  have h7 := h5 d hd
  rw [Bool.or_eq_true, Bool.and_eq_true, decide_eq_true_eq] at h7
  rcases h7 with h7 | ⟨h8, h9⟩
  · rw [h7, Bool.true_or]
  · rw [reach_bit hB _ d h8 h8 h9, Bool.or_true]
theorem with_tabW {P : Program} {Q : Exit → Act → World → Prop} {S : World → Prop} {n : Nat} {a : Act} {w : World} {B : List Nat} (hT : rtab md ops = T) (hB : waitsOk T.2 B = true) (h : Aside0 (rtab md ops = T) → Aside0 (waitsOk T.2 B = true) → wpAnyLast P md ops Q S ds n l a w) : wpAnyLast P md ops Q S ds n l a w := h ⟨hT⟩ ⟨hB⟩
end
/-- The operations of a region, by its number. -/
def opsIn : Code → Nat → Option (Array Oper)
  | .region id ops _, k => if id == k then some ops else none
  | .seq a b, k => match opsIn a k with
    | some o => some o
    | none => opsIn b k
  | .cond _ a b, k => match opsIn a k with
    | some o => some o
    | none => opsIn b k
  | .block _ c, k => opsIn c k
  | .loop c, k => opsIn c k
  | .scope c, k => opsIn c k
  | .rangeFunc _ _ a b, k => match opsIn a k with
    | some o => some o
    | none => opsIn b k
  | _, _ => none
def opsOf (f : Func) (k : Nat) : Array Oper := ((f.body.bind fun c => opsIn c k)).getD #[]
end Go.Proofs.YtlklclebjeeaaaaW.PrintLast
end
section
/-! ### 56. Four, five, six operations that may come up next, in any order -/
namespace Go.Proofs.YtlklclebjeeaaaaW.PrintLast
section
variable {P : Program} {ops : Array Oper} {Q : Exit → Act → World → Prop} {md : Region.Mode} {S : World → Prop} {ds : List Nat} {T : Bool × List (List Nat × List Nat)}
end
end Go.Proofs.YtlklclebjeeaaaaW.PrintLast
end
section
/-! ### 39. Stores into a row that may begin inside its block (Q): Q_form, Q_elem, Q_seg; scalars: Q_cell, Q_putg -/
namespace Go.Proofs.YtlklclebjeeaaaaW.PrintWords
open Go.RowKit
namespace Kd
section
variable {α : Type} {d : Kd α} {e base g o n cap : Nat} {ok okp : Nat → Prop} {w W : World} {v : Value} {xs : List α}
theorem Q_form (h : d.Q e w base ok v xs) (hp : 0 < xs.length) : ∃ g o cap, v = .slice (some ⟨g, o, none⟩) xs.length cap ∧ base ≤ g ∧ g < w.heap.size ∧ ∃ cells, w.heap[g]? = some (.cells cells e (0, 0)) := by
  obtain ⟨h0, inner, hq, hr⟩ := h
  rcases hq.2 with ⟨h1, _⟩ | ⟨g, off, cap, cur, rfl, hb, hh, r⟩
  · omega
  · exact ⟨g, off * d.sz, cap, rfl, hb, blk_lt hh, cur, hh⟩
/-- Element i of such a row: its cells. -/
theorem Q_elem (h : d.Q e W base ok (.slice (some ⟨g, o, none⟩) n cap) xs) (z : α) (i : Int) (h0 : 0 ≤ i) (h1 : i < n) :
    ∃ c, c.length = d.sz ∧ d.M W base (fun k => ok k ∧ k ≠ g) (xs.getD i.toNat z) c ∧ (∀ j u, c[j]? = some u → W.cell? ⟨g, o + i.toNat * d.sz + j, none⟩ = some u) ∧ ∀ j, W.frozen? ⟨g, o + i.toNat * d.sz + j, none⟩ = false := by
  obtain ⟨hn, hnc, hC⟩ := Q_reads' h
  obtain ⟨_, inner, ho, hr⟩ := h
  have hil : i.toNat < xs.length := by omega
  have hseg : i.toNat * d.sz + d.sz ≤ inner.length := by rw [hr.1, ← Nat.succ_mul]; exact Nat.mul_le_mul_right _ hil
  have hM := hr.2 i.toNat _ (List.getElem?_eq_getElem hil)
  refine ⟨(inner.drop (i.toNat * d.sz)).take d.sz, by rw [List.length_take, List.length_drop]; omega, ?_, fun j u hu => ?_, fun j => ?_⟩
  · rw [List.getD_eq_getElem?_getD, List.getElem?_eq_getElem hil]
    exact d.M_mono (fun k hk => ⟨hk.1, fun he => hk.2 (by rw [he]; simp [Value.ownBlock])⟩) hM
  · rw [List.getElem?_take] at hu
    split at hu
    · rw [List.getElem?_drop] at hu
      subst hn
      obtain ⟨ad, he, hc⟩ := q_cells ho (by omega)
      injection he with he
      subst he
      have := hc _ u hu
      rwa [add_at, ← Nat.add_assoc] at this
    · cases hu
  · obtain ⟨_, cells, hc⟩ := q_typed ho g (by simp [Value.ownBlock])
    exact blk_frozen hc _
/-- A run of cells of element i is written: element i is x' then. c: the element's cells before (Q_elem). -/
theorem Q_seg (h : d.Q e W base ok (.slice (some ⟨g, o, none⟩) n cap) xs) (i : Int) (h0 : 0 ≤ i) (h1 : i < n) {c seg : List Value} {j : Nat} (hcl : c.length = d.sz) (hcc : ∀ j u, c[j]? = some u → W.cell? ⟨g, o + i.toNat * d.sz + j, none⟩ = some u)
    (hj : j + seg.length ≤ d.sz) {x' : α} (hM : d.M W base okp x' (c.take j ++ seg ++ c.drop (j + seg.length))) (hokp : ∀ k, okp k → ok k ∧ k ≠ g) :
    d.Q e (W.setCells g (o + i.toNat * d.sz + j) seg) base ok (.slice (some ⟨g, o, none⟩) n cap) (xs.set i.toNat x') ∧ W.grownBy (W.setCells g (o + i.toNat * d.sz + j) seg) (some g) := by
  obtain ⟨hn, hnc, _⟩ := Q_reads' h
  obtain ⟨hok, inner, ho, hr⟩ := h
  have hil : i.toNat < xs.length := by omega
  have hseg : i.toNat * d.sz + d.sz ≤ inner.length := by rw [hr.1, ← Nat.succ_mul]; exact Nat.mul_le_mul_right _ hil
  have hin : inner.length = n * d.sz := by rw [hr.1, hn]
  obtain ⟨ho1, ho2⟩ := ho
  rcases ho2 with ⟨hz, _⟩ | ⟨g', off, cap', cur, hv, hb, hh, hnc', hcm, hcs, ht⟩
  · omega
  injection hv with ha _ hc
  injection ha with ha
  injection ha with hg hoff
  subst hg; subst hc; subst hoff
  have hcap : n * d.sz ≤ cap * d.sz := Nat.mul_le_mul_right _ hnc
  have hcs' : cur.size = off * d.sz + cap * d.sz := by rw [hcs, Nat.add_mul]
  have hfit : off * d.sz + i.toNat * d.sz + j + seg.length ≤ cur.size := by omega
  obtain ⟨cur', h3, h4, h5⟩ := setCells_row seg (off * d.sz + i.toNat * d.sz + j) W cur hh hfit
  obtain ⟨s1, s2, s3, s4⟩ := setCells_same g seg (off * d.sz + i.toNat * d.sz + j) W
  have hfar : ∀ k, k ≠ g → (W.setCells g (off * d.sz + i.toNat * d.sz + j) seg).heap[k]? = W.heap[k]? := fun k hk => setCells_far seg _ k hk
  rw [← hn] at ht
  -- the row's cells are the block's from off on
  have hat : ∀ q, q < n * d.sz → cur.toList[off * d.sz + q]? = inner[q]? := by
    intro q hq
    rw [← ht, List.getElem?_take, if_pos hq, List.getElem?_drop]
  have hcin : ∀ q, q < d.sz → c[q]? = inner[i.toNat * d.sz + q]? := by
    intro q hq
    have hq' : q < c.length := by omega
    have h6 := hcc q _ (List.getElem?_eq_getElem hq')
    rw [cell_of_row W g _ cur e (0, 0) hh] at h6
    rw [List.getElem?_eq_getElem hq', ← h6, ← hat _ (by omega), Array.getElem?_toList, Nat.add_assoc]
  refine ⟨⟨hok, inner.take (i.toNat * d.sz + j) ++ seg ++ inner.drop (i.toNat * d.sz + j + seg.length), ⟨?_, .inr ⟨g, off, cap, cur', by rw [List.length_set, hn], hb, h3, by rw [List.length_set, ← hn]; exact hnc, hcm, by rw [h4, hcs], ?_⟩⟩, ?_⟩,
    ⟨s1, s2, s3, by rw [s4]; exact Nat.le_refl _, fun k _ hk => hfar k (fun he => hk (by rw [he]))⟩⟩
  · rw [List.length_set]
    simp only [List.length_append, List.length_take, List.length_drop]
    rw [hr.1] at hseg ⊢
    omega
  · rw [List.length_set, ← hn]
    apply List.ext_getElem?
    intro q
    rw [List.getElem?_take, List.getElem?_drop, h5]
    rw [seg_get cur.toList seg (off * d.sz + i.toNat * d.sz + j) (by rw [Array.length_toList]; omega) (off * d.sz + q), seg_get inner seg (i.toNat * d.sz + j) (by omega) q]
    by_cases hq : q < n * d.sz
    · rw [if_pos hq]
      by_cases hq1 : q < i.toNat * d.sz + j
      · rw [if_pos (by omega), if_pos hq1, hat q hq]
      · rw [if_neg (by omega), if_neg hq1]
        by_cases hq2 : q < i.toNat * d.sz + j + seg.length
        · rw [if_pos (by omega), if_pos hq2]
          congr 1
          omega
        · rw [if_neg (by omega), if_neg hq2, hat q hq]
    · rw [if_neg hq, if_neg (by omega), if_neg (by omega), List.getElem?_eq_none (by omega)]
  · refine ⟨?_, fun m p hm => ?_⟩
    · rw [List.length_set]
      simp only [List.length_append, List.length_take, List.length_drop]
      rw [hr.1] at hseg ⊢
      omega
    · have hml : m < xs.length := by
        have := (List.getElem?_eq_some_iff.1 hm).1
        rwa [List.length_set] at this
      have hmfit : m * d.sz + d.sz ≤ inner.length := by rw [hr.1, ← Nat.succ_mul]; exact Nat.mul_le_mul_right _ hml
      have hgo : some g = (Value.slice (some ⟨g, off * d.sz, none⟩) n cap).ownBlock := by simp [Value.ownBlock]
      by_cases hmi : m = i.toNat
      · subst hmi
        rw [List.getElem?_set_self (by omega)] at hm
        injection hm with hm
        subst hm
        have hcells : ((inner.take (i.toNat * d.sz + j) ++ seg ++ inner.drop (i.toNat * d.sz + j + seg.length)).drop (i.toNat * d.sz)).take d.sz = c.take j ++ seg ++ c.drop (j + seg.length) := by
          apply List.ext_getElem?
          intro q
          rw [List.getElem?_take, List.getElem?_drop, seg_get inner seg _ (by omega), seg_get c seg j (by omega) q]
          by_cases hq : q < d.sz
          · rw [if_pos hq, hcin q hq]
            by_cases hq1 : q < j
            · rw [if_pos (by omega), if_pos hq1]
            · rw [if_neg (by omega), if_neg hq1]
              by_cases hq2 : q < j + seg.length
              · rw [if_pos (by omega), if_pos hq2]
                congr 1
                omega
              · rw [if_neg (by omega), if_neg hq2]
          · rw [if_neg hq, if_neg (by omega), if_neg (by omega), List.getElem?_eq_none (by omega)]
        rw [hcells]
        refine d.M_mono (fun k hk => ?_) (d.M_move (w1 := W.setCells g (off * d.sz + i.toNat * d.sz + j) seg) (fun k hk => hfar k (hokp k hk).2) hM)
        exact ⟨(hokp k hk).1, fun he => (hokp k hk).2 (by rw [← hgo] at he; injection he)⟩
      · rw [List.getElem?_set_ne (by omega)] at hm
        have hold := hr.2 m p hm
        have hcells : ((inner.take (i.toNat * d.sz + j) ++ seg ++ inner.drop (i.toNat * d.sz + j + seg.length)).drop (m * d.sz)).take d.sz = (inner.drop (m * d.sz)).take d.sz := by
          apply List.ext_getElem?
          intro q
          rw [List.getElem?_take, List.getElem?_take, List.getElem?_drop, List.getElem?_drop, seg_get inner seg _ (by omega)]
          by_cases hq : q < d.sz
          · rw [if_pos hq, if_pos hq]
            rcases Nat.lt_or_gt_of_ne hmi with hlt | hgt
            · have : m * d.sz + d.sz ≤ i.toNat * d.sz := by rw [← Nat.succ_mul]; exact Nat.mul_le_mul_right _ hlt
              rw [if_pos (by omega)]
            · have : i.toNat * d.sz + d.sz ≤ m * d.sz := by rw [← Nat.succ_mul]; exact Nat.mul_le_mul_right _ hgt
              rw [if_neg (by omega), if_neg (by omega)]
          · rw [if_neg hq, if_neg hq]
        rw [hcells]
        refine d.M_move (fun k hk => hfar k (fun he => hk.2 (by rw [he]; exact hgo))) hold
end
section
variable {α : Type} {enc : α → Value} {h1 : ∀ x, (enc x).oneCell' = true} {e base g o n cap : Nat} {ok : Nat → Prop} {W : World} {xs : List α}
theorem Q_cell (d : α) (h : (scalar enc h1).Q e W base ok (.slice (some ⟨g, o, none⟩) n cap) xs) (i : Int) (h0 : 0 ≤ i) (hi : i < n) : W.cell? ⟨g, o + i.toNat, none⟩ = some (enc (rdOf d xs i)) ∧ W.frozen? ⟨g, o + i.toNat, none⟩ = false := by
  obtain ⟨c, _, hM, hcc, hf⟩ := Q_elem h d i h0 hi
  have hM' : c = [enc (xs.getD i.toNat d)] := hM
  subst hM'
  have h2 := hcc 0 _ rfl
  have h3 := hf 0
  rw [show (scalar enc h1).sz = 1 from rfl, Nat.mul_one, Nat.add_zero] at h2 h3
  exact ⟨h2, h3⟩
theorem Q_putg (h : (scalar enc h1).Q e W base ok (.slice (some ⟨g, o, none⟩) n cap) xs) (i : Int) (h0 : 0 ≤ i) (hi : i < n) (x : α) : (scalar enc h1).Q e (W.setCell ⟨g, o + i.toNat, none⟩ (enc x)) base ok (.slice (some ⟨g, o, none⟩) n cap) (xs.set i.toNat x) ∧ W.grownBy (W.setCell ⟨g, o + i.toNat, none⟩ (enc x)) (some g) := by
  have hp : 0 < xs.length := by have := (Q_reads' h).1; omega
  obtain ⟨c, hcl, _, hcc, _⟩ := Q_elem h (xs[0]'hp) i h0 hi
  have h2 := Q_seg h i h0 hi (c := c) (seg := [enc x]) (j := 0) (okp := fun _ => False) (x' := x) hcl hcc (Nat.le_refl 1) (by
    have hl : c.length = 1 := hcl
    show c.take 0 ++ [enc x] ++ c.drop (0 + 1) = [enc x]
    rw [List.drop_eq_nil_of_le (by omega)]
    rfl) (fun _ hk => hk.elim)
  rw [show (scalar enc h1).sz = 1 from rfl, Nat.mul_one, Nat.add_zero] at h2
  exact h2
end
end Kd
end Go.Proofs.YtlklclebjeeaaaaW.PrintWords
end
section
/-! ### 40. Elements whose inner rows lie apart: what is stored into one says nothing of the others.
   S: as_ R, with an owner function f (block to element's index). H: as_ S with a hole: of element i its cells alone are told, its blocks are oki. -/
namespace Go.Proofs.YtlklclebjeeaaaaW.PrintWords
open Go.RowKit
namespace Kd
/-- An element with its index: its blocks are those that f gives to it. -/
def tag {α : Type} (f : Nat → Nat) (d : Kd α) : Kd (α × Nat) where
  sz := d.sz
  E := d.E
  K := fun w x cs => d.K w x.1 cs
  M := fun w base ok x cs => d.M w base (fun k => ok k ∧ f k = x.2) x.1 cs
  K_len := fun h => d.K_len h
  K_one := fun h => d.K_one h
  K_below := fun hb h => d.K_below hb h
  K_of_M := fun h => d.K_of_M h
  M_mono := fun hok h => d.M_mono (fun k hk => ⟨hok k hk.1, hk.2⟩) h
  M_bound := fun h => d.M_mono (fun _ hk => ⟨⟨hk.1.1, hk.2⟩, hk.1.2⟩) (d.M_bound h)
  M_move := fun hm h => d.M_move (fun k hk => hm k hk.1) h
  M_lower := fun hb h => d.M_lower hb h
/-- Nothing but its cells: no block is said of it. -/
def bare {α : Type} (d : Kd α) : Kd α where
  sz := d.sz
  E := d.E
  K := d.K
  M := fun w base _ x cs => d.M w base (fun _ => False) x cs
  K_len := fun h => d.K_len h
  K_one := fun h => d.K_one h
  K_below := fun hb h => d.K_below hb h
  K_of_M := fun h => d.K_of_M h
  M_mono := fun _ h => h
  M_bound := fun h => h
  M_move := fun _ h => d.M_move (fun _ hk => hk.elim) h
  M_lower := fun hb h => d.M_lower hb h
/-- The cells themselves. -/
def raw (sz : Nat) : Kd (List Value) where
  sz := sz
  E := []
  K := fun _ x cs => cs = x ∧ cs.length = sz ∧ ∀ u ∈ cs, u.oneCell' = true
  M := fun _ _ _ x cs => cs = x ∧ cs.length = sz ∧ ∀ u ∈ cs, u.oneCell' = true
  K_len := fun h => h.2.1
  K_one := fun h => h.2.2
  K_below := fun _ h => h
  K_of_M := fun h => h
  M_mono := fun _ h => h
  M_bound := fun h => h
  M_move := fun _ h => h
  M_lower := fun _ h => h
/-- A row of elements (type e) of the call's own, no two of which lead to one block. -/
def S {α : Type} (d : Kd α) (e : Nat) (w : World) (base : Nat) (ok : Nat → Prop) (v : Value) (xs : List α) : Prop := ∃ f, (tag f d).R e w base ok v xs.zipIdx
section
variable {α β : Type} {d : Kd α} {d' : Kd β} {e e' : Nat} {w w1 W : World} {base b : Nat} {ok ok' okv oku : Nat → Prop} {u v : Value} {xs : List α} {ys : List β}
end
section
variable {α β : Type} {d : Kd α} {d' : Kd β} {e e' g : Nat} {w w1 W : World} {base b : Nat} {ok ok' okv oku : Nat → Prop} {u v : Value} {xs : List α} {ys : List β}
end
/-! #### append, make, literals: the new element's blocks are none of the elder ones' -/
section
variable {P : Program} {ops : Array Oper} {rest : List Oper} {o : Oper} {a : Act} {Q : Exit → Act → World → Prop} {Kc : Act → World → Prop} {α : Type}
end
/-! #### a row with a hole: element i is lent, its blocks are oki; of it the row says its cells alone -/
/-- Element i is these cells; the others are d's. -/
def gap {α : Type} (f : Nat → Nat) (d : Kd α) (i : Nat) (c : List Value) : Kd (α × Nat) where
  sz := d.sz
  E := d.E
  K := fun w x cs => (x.2 = i → cs = c ∧ cs.length = d.sz ∧ ∀ u ∈ cs, u.oneCell' = true) ∧ (x.2 ≠ i → d.K w x.1 cs)
  M := fun w base ok x cs => (x.2 = i → cs = c ∧ cs.length = d.sz ∧ ∀ u ∈ cs, u.oneCell' = true) ∧ (x.2 ≠ i → d.M w base (fun k => ok k ∧ f k = x.2) x.1 cs)
  K_len := fun {w x cs} h => by
    by_cases hx : x.2 = i
    · exact (h.1 hx).2.1
    · exact d.K_len (h.2 hx)
  K_one := fun {w x cs} h => by
    by_cases hx : x.2 = i
    · exact (h.1 hx).2.2
    · exact d.K_one (h.2 hx)
  K_below := fun hb h => ⟨h.1, fun hx => d.K_below hb (h.2 hx)⟩
  K_of_M := fun h => ⟨h.1, fun hx => d.K_of_M (h.2 hx)⟩
  M_mono := fun hok h => ⟨h.1, fun hx => d.M_mono (fun k hk => ⟨hok k hk.1, hk.2⟩) (h.2 hx)⟩
  M_bound := fun h => ⟨h.1, fun hx => d.M_mono (fun _ hk => ⟨⟨hk.1.1, hk.2⟩, hk.1.2⟩) (d.M_bound (h.2 hx))⟩
  M_move := fun hm h => ⟨h.1, fun hx => d.M_move (fun k hk => hm k hk.1) (h.2 hx)⟩
  M_lower := fun hb h => ⟨h.1, fun hx => d.M_lower hb (h.2 hx)⟩
def H {α : Type} (d : Kd α) (e : Nat) (w : World) (base : Nat) (ok : Nat → Prop) (v : Value) (xs : List α) (i : Int) (oki : Nat → Prop) (c : List Value) : Prop :=
  (∀ k, oki k → ok k) ∧ ∃ f, (gap f d i.toNat c).R e w base (fun k => ok k ∧ ¬ oki k) v xs.zipIdx
section
variable {α β : Type} {d : Kd α} {e e' g n cap : Nat} {w w1 W : World} {base : Nat} {ok ok' oki okp : Nat → Prop} {u v : Value} {xs : List α} {i : Int} {c : List Value}
end
section
variable {P : Program} {ops : Array Oper} {rest : List Oper} {o : Oper} {a : Act} {Q : Exit → Act → World → Prop} {α : Type}
end
end Kd
end Go.Proofs.YtlklclebjeeaaaaW.PrintWords
end
section
/-! ### 41. Arrays '[n]T' as_ values: a kind (a field, an element of a row), an element read, an element set -/
namespace Go.Proofs.YtlklclebjeeaaaaW.PrintWords
open Go.RowKit
namespace Kd
theorem reps_one {α : Type} {R : α → List Value → Prop} {size : Nat} {ps : List α} {cs : List Value} (h : Reps R size ps cs) (hs0 : 0 < size) (hR : ∀ p c, R p c → ∀ u ∈ c, u.oneCell' = true) : ∀ u ∈ cs, u.oneCell' = true := by
  intro u hu
  obtain ⟨q, hq, rfl⟩ := List.mem_iff_getElem.1 hu
  have hql : q / size < ps.length := by
    rw [Nat.div_lt_iff_lt_mul hs0, ← h.1]
    exact hq
  refine hR _ _ (h.2 (q / size) _ (List.getElem?_eq_getElem hql)) _ ?_
  rw [List.mem_iff_getElem?]
  refine ⟨q % size, ?_⟩
  rw [List.getElem?_take, if_pos (Nat.mod_lt _ hs0), List.getElem?_drop, Nat.mul_comm, Nat.div_add_mod, List.getElem?_eq_getElem hq]
/-- An array of n elements of kind d. -/
def arr {α : Type} (n : Nat) (d : Kd α) (hs : 0 < d.sz) : Kd (List α) where
  sz := n * d.sz
  E := d.E
  K := fun w xs cs => xs.length = n ∧ Reps (d.K w) d.sz xs cs
  M := fun w base ok xs cs => xs.length = n ∧ Reps (d.M w base ok) d.sz xs cs
  K_len := fun h => by rw [← h.1]; exact h.2.1
  K_one := fun h => reps_one h.2 hs (fun _ _ hk => d.K_one hk)
  K_below := fun hb h => ⟨h.1, h.2.imp_ (fun _ _ hk => d.K_below hb hk)⟩
  K_of_M := fun h => ⟨h.1, h.2.imp_ (fun _ _ hk => d.K_of_M hk)⟩
  M_mono := fun hok h => ⟨h.1, h.2.imp_ (fun _ _ hk => d.M_mono hok hk)⟩
  M_bound := fun h => ⟨h.1, h.2.imp_ (fun _ _ hk => d.M_bound hk)⟩
  M_move := fun hm h => ⟨h.1, h.2.imp_ (fun _ _ hk => d.M_move hm hk)⟩
  M_lower := fun hb h => ⟨h.1, h.2.imp_ (fun _ _ hk => d.M_lower hb hk)⟩
section
variable {α : Type} {n : Nat} {d : Kd α} {hs : 0 < d.sz} {w : World} {base : Nat} {ok : Nat → Prop} {xs : List α} {cs : List Value}
end
section
variable {α : Type} {n : Nat} {enc : α → Value} {h1 : ∀ x, (enc x).oneCell' = true} {hs : 0 < (scalar enc h1).sz} {w : World} {base : Nat} {ok : Nat → Prop} {xs : List α} {cs : List Value}
end
end Kd
end Go.Proofs.YtlklclebjeeaaaaW.PrintWords
end
section
/-! ### 42. append(v, make([]T, n)...): the operation comes as_ append with the number in the second place -/
namespace Go.Proofs.YtlklclebjeeaaaaW.PrintWords
open Go.RowKit
section
variable {P : Program}
end
namespace Kd
section
variable {P : Program} {ops : Array Oper} {rest : List Oper} {o : Oper} {a : Act} {Q : Exit → Act → World → Prop} {Kc : Act → World → Prop} {α : Type}
end
/-! #### the same for rows whose elements lie apart -/
/-- As_ tag; an element without index leads to nothing. -/
def tagO {α : Type} (f : Nat → Nat) (d : Kd α) : Kd (α × Option Nat) where
  sz := d.sz
  E := d.E
  K := fun w x cs => d.K w x.1 cs
  M := fun w base ok x cs => d.M w base (fun k => ok k ∧ some (f k) = x.2) x.1 cs
  K_len := fun h => d.K_len h
  K_one := fun h => d.K_one h
  K_below := fun hb h => d.K_below hb h
  K_of_M := fun h => d.K_of_M h
  M_mono := fun hok h => d.M_mono (fun k hk => ⟨hok k hk.1, hk.2⟩) h
  M_bound := fun h => d.M_mono (fun _ hk => ⟨⟨hk.1.1, hk.2⟩, hk.1.2⟩) (d.M_bound h)
  M_move := fun hm h => d.M_move (fun k hk => hm k hk.1) h
  M_lower := fun hb h => d.M_lower hb h
section
variable {α : Type} {d : Kd α} {e : Nat} {w : World} {base : Nat} {ok : Nat → Prop} {v : Value} {xs : List α}
def zipO (xs : List α) (z : α) (m : Nat) : List (α × Option Nat) := xs.zipIdx.map (fun p => (p.1, some p.2)) ++ List.replicate m (z, none)
end
section
variable {P : Program} {ops : Array Oper} {rest : List Oper} {o : Oper} {a : Act} {Q : Exit → Act → World → Prop} {Kc : Act → World → Prop} {α : Type}
end
end Kd
end Go.Proofs.YtlklclebjeeaaaaW.PrintWords
end
section
/-! ### 43. What is read beside a state: it stays read whatever the state's calls turn ('∀ W', KeepBut w W' g none → d.C W' A n xs') -/
namespace Go.Proofs.YtlklclebjeeaaaaW.PrintWords
open Go.RowKit
namespace Kd
/-- What a kind reads lies in the blocks: nothing else of the world is looked at. -/
structure Heap {α : Type} (d : Kd α) : Prop where
  K : ∀ {w w1 : World} {x : α} {cs : List Value}, (∀ k, k < w.heap.size → w1.heap[k]? = w.heap[k]?) → d.K w x cs → d.K w1 x cs
theorem cell_heap {w w1 : World} (hb : ∀ k, k < w.heap.size → w1.heap[k]? = w.heap[k]?) {a : Addr} {v : Value} (h : w.cell? a = some v) : w1.cell? a = some v := by
  have := hb a.block (World.block_lt_of_cell? w a h)
  simpa [World.cell?, this] using h
theorem Heap.C {α : Type} {d : Kd α} (hd : Heap d) {w w1 : World} {A : Option Addr} {n : Nat} {xs : List α} (hb : ∀ k, k < w.heap.size → w1.heap[k]? = w.heap[k]?) (h : d.C w A n xs) : d.C w1 A n xs :=
  ⟨h.1, h.2.1, fun hn => by
    obtain ⟨ad, e, hc⟩ := h.2.2 hn
    refine ⟨ad, e, fun j p hj => ?_⟩
    obtain ⟨c, hs, hr, hcell⟩ := hc j p hj
    exact ⟨c, hs, hd.K hb hr, fun i u hu => cell_heap hb (hcell i u hu)⟩⟩
section
variable {α : Type} {d : Kd α} {e base g n c : Nat} {ok : Nat → Prop} {w w0 W : World} {A : Option Addr} {xs : List α}
end
end Kd
end Go.Proofs.YtlklclebjeeaaaaW.PrintWords
end
section
/-! ### 45. What a call keeps: all but the blocks of S (the rows that it was given to write) and what is new since -/
namespace Go.Proofs.YtlklclebjeeaaaaW.PrintWords
open Go.RowKit
def Kept (w W : World) (S : Nat → Prop) : Prop := w.heap.size ≤ W.heap.size ∧ ∀ i, i < w.heap.size → ¬ S i → W.heap[i]? = w.heap[i]?
section
variable {w W W2 : World} {S S2 S' : Nat → Prop}
theorem Kept.refl (w : World) (S : Nat → Prop) : Kept w w S := ⟨Nat.le_refl _, fun _ _ _ => rfl⟩
theorem Kept.of_below (h : Below w.heap.size w W) (S : Nat → Prop) : Kept w W S := ⟨h.size, fun i hi _ => h.block i hi⟩
theorem Kept.mono (h : Kept w W S) (hs : ∀ k, S k → S' k) : Kept w W S' := ⟨h.1, fun i hi hn => h.2 i hi (fun hk => hn (hs i hk))⟩
theorem Kept.then_ (h : Kept w W S) (k : Kept W W2 S2) (hs : ∀ k, S2 k → S k ∨ w.heap.size ≤ k) : Kept w W2 S :=
  ⟨Nat.le_trans h.1 k.1, fun i hi hn => (k.2 i (Nat.lt_of_lt_of_le hi h.1) (fun h2 => (hs i h2).elim hn (fun h3 => by omega))).trans (h.2 i hi hn)⟩
theorem Kept.below (h : Kept w W S) (hb : Below W.heap.size W W2) : Kept w W2 S := h.then_ (Kept.of_below hb (fun _ => False)) (fun _ hk => hk.elim)
theorem Kept.alloc (h : Kept w W S) (o : Obj) : Kept w (W.alloc o) S := h.below (below_alloc (Below.refl _ _) o)
theorem Kept.drew (h : Kept w W S) : Kept w W.drew S := h
theorem Kept.drewN (h : Kept w W S) (m : Nat) : Kept w (W.drewN m) S := h
theorem Kept.setCell (h : Kept w W S) {p : Addr} (hp : S p.block ∨ w.heap.size ≤ p.block) (u : Value) : Kept w (W.setCell p u) S :=
  h.then_ (S2 := fun k => k = p.block) ⟨by simp [World.setCell], fun i _ hn => Below.heap_setCell W p u i hn⟩ (fun k hk => by rw [hk]; exact hp)
/-- Beside a state: what was written is new since. -/
theorem Kept.keep {g : Nat} (h : KeepBut w W g none) (k : Kept W W2 S2) (hs : ∀ k, S2 k → w.heap.size ≤ k) : KeepBut w W2 g none :=
  ⟨Nat.le_trans h.1 k.1, fun i hi hg hr => (k.2 i (Nat.lt_of_lt_of_le hi h.1) (fun h2 => by have := hs i h2; omega)).trans (h.2 i hi hg hr)⟩
end
namespace Kd
section
variable {α : Type} {d : Kd α} {e base n c : Nat} {ok oki S S2 : Nat → Prop} {w w0 W W1 W2 : World} {v : Value} {A : Option Addr} {xs : List α} {i : Int} {cs : List Value}
end
end Kd
end Go.Proofs.YtlklclebjeeaaaaW.PrintWords
end
section
/-! ### 46. Values that share: what is only read, with the blocks it lies in (its footprint 'ok'): Foot, F (a row that is read), FK (an element's cells) -/
namespace Go.Proofs.YtlklclebjeeaaaaW.PrintWords
open Go.RowKit
/-- P holds in W and in every world that has W's blocks of ok. -/
def Foot (P : World → Prop) (W : World) (ok : Nat → Prop) : Prop := ∀ W' : World, (∀ k, ok k → k < W.heap.size → W'.heap[k]? = W.heap[k]?) → P W'
theorem heap_lt {W W1 : World} {k : Nat} (h : W1.heap[k]? = W.heap[k]?) (hlt : k < W.heap.size) : k < W1.heap.size := by
  rw [Array.getElem?_eq_getElem hlt] at h
  exact (Array.getElem?_eq_some_iff.1 h).1
namespace Foot
variable {P Q : World → Prop} {W W1 : World} {ok ok' : Nat → Prop}
theorem now (h : Foot P W ok) : P W := h W (fun _ _ _ => rfl)
theorem mono (h : Foot P W ok) (hok : ∀ k, ok k → ok' k) : Foot P W ok' := fun W' hW => h W' (fun k hk hlt => hW k (hok k hk) hlt)
theorem bound (h : Foot P W ok) : Foot P W (fun k => ok k ∧ k < W.heap.size) := fun W' hW => h W' (fun k hk hlt => hW k ⟨hk, hlt⟩ hlt)
theorem step (h : Foot P W ok) (hm : ∀ k, ok k → k < W.heap.size → W1.heap[k]? = W.heap[k]?) : Foot P W1 ok := fun W' hW => h W' (fun k hk hlt => (hW k hk (heap_lt (hm k hk hlt) hlt)).trans (hm k hk hlt))
theorem imp (h : Foot P W ok) (hi : ∀ W', P W' → Q W') : Foot Q W ok := fun W' hW => hi W' (h W' hW)
/-- Moved, and still elder than what is new since W. -/
theorem old (h : Foot P W ok) (hb : Below W.heap.size W W1) : Foot P W1 (fun k => ok k ∧ k < W.heap.size) := (h.bound).step (fun k _ hlt => hb.block k hlt)
end Foot
namespace Kd
/-- A row that is only read: what it leads to lies in ok. -/
def F {α : Type} (d : Kd α) (W : World) (ok : Nat → Prop) (A : Option Addr) (n : Nat) (xs : List α) : Prop := Foot (fun W => d.C W A n xs) W ok
/-- An element's cells: what they lead to lies in ok. -/
def FK {α : Type} (d : Kd α) (W : World) (ok : Nat → Prop) (x : α) (c : List Value) : Prop := Foot (fun W => d.K W x c) W ok
section
variable {α β : Type} {d : Kd α} {e base n n' cc g N : Nat} {ok ok' okp S : Nat → Prop} {w w0 w1 W W1 : World} {A A' : Option Addr} {u v v1 : Value} {xs : List α} {xs' : List β} {d' : Kd β} {x : α} {c : List Value}
/-- The same of an element's cells. -/
theorem FK_now (h : FK d W ok x c) : d.K W x c := Foot.now h
end
end Kd
end Go.Proofs.YtlklclebjeeaaaaW.PrintWords
end
section
/-! ### 47. N: a row of the call's own whose elements share (what they lead to is only read) -/
namespace Go.Proofs.YtlklclebjeeaaaaW.PrintWords
open Go.RowKit
namespace Kd
/-- The cells one behind the other, element by element. -/
def chunks (sz : Nat) (n : Nat) (inner : List Value) : List (List Value) := (List.range n).map fun j => (inner.drop (j * sz)).take sz
section
variable {α : Type} {d : Kd α} {e base n cc g : Nat} {ok ok' okp S : Nat → Prop} {w w1 W W1 : World} {A : Option Addr} {u v v1 : Value} {xs : List α} {x : α} {c : List Value}
/-- A row of elements (type e) of the call's own; what the elements lead to is only read, and is not this row. -/
def N {α : Type} (d : Kd α) (e : Nat) (w : World) (base : Nat) (ok : Nat → Prop) (v : Value) (xs : List α) : Prop :=
  (∀ k, v.ownBlock = some k → ok k) ∧ ∃ rows : List (List Value), rows.length = xs.length ∧ (raw d.sz).R e w base (fun k => some k = v.ownBlock) v rows ∧ ∀ (j : Nat) (x : α) (c : List Value), xs[j]? = some x → rows[j]? = some c → FK d w (fun k => ok k ∧ some k ≠ v.ownBlock) x c
end
end Kd
end Go.Proofs.YtlklclebjeeaaaaW.PrintWords
end
section
/-! ### 52. A row that stays read whatever happens to a block (a set of blocks) doesn't lie there -/
namespace Go.Proofs.YtlklclebjeeaaaaW.PrintWords
open Go.RowKit
namespace Kd
section
variable {α : Type} {d : Kd α} {W : World} {g n : Nat} {S ok : Nat → Prop} {A : Option Addr} {ad : Addr} {xs : List α}
end
end Kd
end Go.Proofs.YtlklclebjeeaaaaW.PrintWords
end
section
/-! ### 54. Behind orders that were drawn quietly: the same facts at the world's new name; a flat row's foot -/
namespace Go.Proofs.YtlklclebjeeaaaaW.PrintWords
open Go.RowKit
section
variable {w w' u : World} {m B g : Nat} {o : Obj} {row : Option Nat} {S : Nat → Prop} {a : Addr} {v : Value}
end
namespace Kd
section
variable {α : Type} {d : Kd α} {e base n m : Nat} {ok : Nat → Prop} {w w' : World} {v : Value} {A : Option Addr} {xs : List α}
end
end Kd
end Go.Proofs.YtlklclebjeeaaaaW.PrintWords
end
section
/-! ### 53. '==' of structs as_ one Bool -/
namespace Go.Proofs.YtlklclebjeeaaaaW.PrintWords
open Go.RowKit
section
variable {P : Program} {d : Nat} {xs ys : Array Value} {f : Field} {fs : List Field} {a b : Value} {r s : Bool} {w : World}
end
end Go.Proofs.YtlklclebjeeaaaaW.PrintWords
end
section
/-! ### 55. Reps told from the front, no append: for rows of one-cell elements and of wider ones -/
namespace Go.Proofs.YtlklclebjeeaaaaW.PrintWords
/-- One cell an element. -/
theorem Reps.one {α : Type} {R : α → List Value → Prop} {ps : List α} {cs : List Value} {p : α} {v : Value} (hp : R p [v]) (h : Reps R 1 ps cs) : Reps R 1 (p :: ps) (v :: cs) := by
  refine ⟨by simp [h.1], fun j q hq => ?_⟩
  cases j with
  | zero =>
    simp only [List.getElem?_cons_zero, Option.some.injEq] at hq
    subst hq
    simpa using hp
  | succ j =>
    simp only [List.getElem?_cons_succ] at hq
    have h1 := h.2 j q hq
    simpa [Nat.mul_one] using h1
/-- More cells an element: told apart by the cells' list. -/
theorem Reps.front {α : Type} {R : α → List Value → Prop} {size : Nat} {ps : List α} {cs c all : List Value} {p : α} (hp : R p c) (hc : c.length = size) (h : Reps R size ps cs) (ha : c ++ cs = all) : Reps R size (p :: ps) all := by
  subst ha
  refine ⟨by rw [List.length_append, hc, h.1, List.length_cons, Nat.succ_mul, Nat.add_comm], fun j q hq => ?_⟩
  cases j with
  | zero =>
    simp only [List.getElem?_cons_zero, Option.some.injEq] at hq
    subst hq
    rw [Nat.zero_mul, List.drop_zero, List.take_append_of_le_length (by omega), List.take_of_length_le (by omega)]
    exact hp
  | succ j =>
    simp only [List.getElem?_cons_succ] at hq
    have h1 := h.2 j q hq
    rw [Nat.succ_mul, List.drop_append, List.drop_of_length_le (by rw [hc]; exact Nat.le_add_left _ _), List.nil_append, hc, Nat.add_sub_cancel]
    exact h1
theorem Reps.c2 {α : Type} {R : α → List Value → Prop} {ps : List α} {cs : List Value} {p : α} {va vb : Value} (hp : R p [va, vb]) (h : Reps R 2 ps cs) : Reps R 2 (p :: ps) (va :: vb :: cs) := Reps.front hp rfl h rfl
theorem Reps.c3 {α : Type} {R : α → List Value → Prop} {ps : List α} {cs : List Value} {p : α} {va vb vc : Value} (hp : R p [va, vb, vc]) (h : Reps R 3 ps cs) : Reps R 3 (p :: ps) (va :: vb :: vc :: cs) := Reps.front hp rfl h rfl
theorem Reps.c4 {α : Type} {R : α → List Value → Prop} {ps : List α} {cs : List Value} {p : α} {va vb vc vd : Value} (hp : R p [va, vb, vc, vd]) (h : Reps R 4 ps cs) : Reps R 4 (p :: ps) (va :: vb :: vc :: vd :: cs) := Reps.front hp rfl h rfl
theorem Reps.c5 {α : Type} {R : α → List Value → Prop} {ps : List α} {cs : List Value} {p : α} {va vb vc vd ve : Value} (hp : R p [va, vb, vc, vd, ve]) (h : Reps R 5 ps cs) : Reps R 5 (p :: ps) (va :: vb :: vc :: vd :: ve :: cs) := Reps.front hp rfl h rfl
theorem Reps.c6 {α : Type} {R : α → List Value → Prop} {ps : List α} {cs : List Value} {p : α} {va vb vc vd ve vf : Value} (hp : R p [va, vb, vc, vd, ve, vf]) (h : Reps R 6 ps cs) : Reps R 6 (p :: ps) (va :: vb :: vc :: vd :: ve :: vf :: cs) := Reps.front hp rfl h rfl
theorem Reps.c7 {α : Type} {R : α → List Value → Prop} {ps : List α} {cs : List Value} {p : α} {va vb vc vd ve vf vg : Value} (hp : R p [va, vb, vc, vd, ve, vf, vg]) (h : Reps R 7 ps cs) : Reps R 7 (p :: ps) (va :: vb :: vc :: vd :: ve :: vf :: vg :: cs) := Reps.front hp rfl h rfl
theorem Reps.c8 {α : Type} {R : α → List Value → Prop} {ps : List α} {cs : List Value} {p : α} {va vb vc vd ve vf vg vh : Value} (hp : R p [va, vb, vc, vd, ve, vf, vg, vh]) (h : Reps R 8 ps cs) : Reps R 8 (p :: ps) (va :: vb :: vc :: vd :: ve :: vf :: vg :: vh :: cs) := Reps.front hp rfl h rfl
theorem Reps.c9 {α : Type} {R : α → List Value → Prop} {ps : List α} {cs : List Value} {p : α} {va vb vc vd ve vf vg vh vi : Value} (hp : R p [va, vb, vc, vd, ve, vf, vg, vh, vi]) (h : Reps R 9 ps cs) : Reps R 9 (p :: ps) (va :: vb :: vc :: vd :: ve :: vf :: vg :: vh :: vi :: cs) := Reps.front hp rfl h rfl
theorem Reps.c10 {α : Type} {R : α → List Value → Prop} {ps : List α} {cs : List Value} {p : α} {va vb vc vd ve vf vg vh vi vj : Value} (hp : R p [va, vb, vc, vd, ve, vf, vg, vh, vi, vj]) (h : Reps R 10 ps cs) : Reps R 10 (p :: ps) (va :: vb :: vc :: vd :: ve :: vf :: vg :: vh :: vi :: vj :: cs) := Reps.front hp rfl h rfl
end Go.Proofs.YtlklclebjeeaaaaW.PrintWords
end
section
/-! ### 57. A region of open order by ONE relation over what is listed so far: each operation is shown once, whatever came up before it -/
namespace Go.Proofs.YtlklclebjeeaaaaW.PrintLast
/-- Number i is listed too. -/
def up (b : Nat → Bool) (i : Nat) : Nat → Bool := fun j => if j = i then true else b j
/-- What is listed: O's operations by b, all else already. -/
def lof (n : Nat) (O : List Nat) (b : Nat → Bool) : List Bool := (List.range n).map fun j => if O.contains j then b j else true
/-- The destinations of what is listed are filled. -/
def putSel (a : Act) (b : Nat → Bool) : List (Nat × Tmp × Value) → Act
  | [] => a
  | e :: r => putSel (if b e.1 = true then a.put (some e.2.1) e.2.2 else a) b r
section
variable {P : Program} {ops : Array Oper} {Q : Exit → Act → World → Prop} {md : Region.Mode} {T : Bool × List (List Nat × List Nat)} {B : List Nat} {O : List Nat} {b : Nat → Bool} {i j n : Nat}
/-- The step of operation i: out of the relation, it not being listed, all it waits for being so, and nothing that waits for it. -/
def StepAt (P : Program) (ops : Array Oper) (Q : Exit → Act → World → Prop) (B : List Nat) (O : List Nat) (I : (Nat → Bool) → Act → World → Prop) (i : Nat) : Prop :=
  ∀ b a w, I b a w → b i = false → (∀ j, (O.contains j && (B.getD i 0).testBit j) = true → b j = true) → (∀ d, (O.contains d && (B.getD d 0).testBit i) = true → b d = false) →
    ∃ oi, ops[i]? = some oi ∧ ∀ K : Act → World → Prop, Shut (∀ a' w', I (up b i) a' w' → K a' w') → if Region.wanted oi (yielded ops a.tmps) = true then Oper.wp P oi a w K Q else K (a.put oi.dst undef) w
/-- Every edge goes to an earlier operation; what is listed already waits for nothing of O; O's numbers are the region's, each once. -/
def baseOk (T : List (List Nat × List Nat)) (O : List Nat) : Bool :=
  (List.range T.length).all (fun d => match T[d]? with
    | some r => (O.contains d || r.1.all fun n => !O.contains n) && r.1.all fun n => decide (n < d)
    | none => false) && O.all (fun i => decide (i < T.length)) && decide O.Nodup
def Closed (T : List (List Nat × List Nat)) (O : List Nat) (b : Nat → Bool) : Prop := ∀ d r, T[d]? = some r → O.contains d = true → b d = true → ∀ n ∈ r.1, O.contains n = true → b n = true
/-! The frame: what is listed has its destination filled. -/
end
end Go.Proofs.YtlklclebjeeaaaaW.PrintLast
end
section
namespace Go.Proofs.YtlklclebjeeaaaaW.PrintWords
open Go.RowKit
end Go.Proofs.YtlklclebjeeaaaaW.PrintWords
namespace Go.Proofs.YtlklclebjeeaaaaW.PrintLast
section
variable {ops : Array Oper} {a : Act} {o og : Oper} {g : Nat} {t : Tmp} {u : Bool}
end
end Go.Proofs.YtlklclebjeeaaaaW.PrintLast
end
section
/-! ### 58. A guarded operation whose guard is known to want it: the same goal without the guard -/
namespace Go.Proofs.YtlklclebjeeaaaaW.PrintWords
open Go.RowKit
section
variable {P : Program} {ops : Array Oper} {rest : List Oper} {o : Oper} {a : Act} {Q : Exit → Act → World → Prop} {W : World}
end
end Go.Proofs.YtlklclebjeeaaaaW.PrintWords
end
section
/-! ### 48. N's events: append, a whole row appended, zeros appended, literals, make, stores, cuts, an element taken out -/
namespace Go.Proofs.YtlklclebjeeaaaaW.PrintWords
open Go.RowKit
namespace Kd
section
variable {α : Type} {d : Kd α} {e base n cap g : Nat} {ok ok' okp : Nat → Prop} {w w1 W : World} {v v1 : Value} {xs ys : List α}
end
section
variable {P : Program} {ops : Array Oper} {rest : List Oper} {o : Oper} {a : Act} {Q : Exit → Act → World → Prop} {Kc : Act → World → Prop} {α : Type}
end
end Kd
end Go.Proofs.YtlklclebjeeaaaaW.PrintWords
end
section
-- PRINTED WORDS (module Derived/Print/More.lean): go-gate-2's additions: an AI agent of Go's test side, Tue Nov 17 2026; no person has read it. Lean checks it.
namespace Go.Proofs.YtlklclebjeeaaaaW.PrintMore
open Go.RowKit Go.Proofs.YtlklclebjeeaaaaW.PrintWords
namespace Kd
open Go.Proofs.YtlklclebjeeaaaaW.PrintWords.Kd
end Kd

namespace Kd
open Go.Proofs.YtlklclebjeeaaaaW.PrintWords.Kd
section
variable {α : Type} {d : Kd α} {e base g N : Nat} {ok : Nat → Prop} {W w1 : World} {u v : Value} {xs : List α}
end
end Kd
/-- 'max' and 'min' of two whole numbers. -/
theorem max2_int (k k' : IntKind) (x y : Int) : Builtin.max2 (.int k x) (.int k' y) = pure (.int k (if x < y then y else x)) := by simp only [Builtin.max2, gt_iff_lt]
theorem min2_int (k k' : IntKind) (x y : Int) : Builtin.min2 (.int k x) (.int k' y) = pure (.int k (if y < x then y else x)) := by simp only [Builtin.min2]
theorem max_two (ats : Array TypeId) (ty : TypeId) (a b : Value) : Builtin.max_ ats ty #[a, b] = (Builtin.max2 a b >>= fun s => pure s) := by simp only [Builtin.max_, List.foldlM_cons, List.foldlM_nil]
theorem min_two (ats : Array TypeId) (ty : TypeId) (a b : Value) : Builtin.min_ ats ty #[a, b] = (Builtin.min2 a b >>= fun s => pure s) := by simp only [Builtin.min_, List.foldlM_cons, List.foldlM_nil]
theorem max_three (ats : Array TypeId) (ty : TypeId) (a b c : Value) : Builtin.max_ ats ty #[a, b, c] = (Builtin.max2 a b >>= fun s => Builtin.max2 s c >>= fun s => pure s) := by simp only [Builtin.max_, List.foldlM_cons, List.foldlM_nil]
theorem min_three (ats : Array TypeId) (ty : TypeId) (a b c : Value) : Builtin.min_ ats ty #[a, b, c] = (Builtin.min2 a b >>= fun s => Builtin.min2 s c >>= fun s => pure s) := by simp only [Builtin.min_, List.foldlM_cons, List.foldlM_nil]
theorem max_four (ats : Array TypeId) (ty : TypeId) (a b c d : Value) : Builtin.max_ ats ty #[a, b, c, d] = (Builtin.max2 a b >>= fun s => Builtin.max2 s c >>= fun s => Builtin.max2 s d >>= fun s => pure s) := by simp only [Builtin.max_, List.foldlM_cons, List.foldlM_nil]
theorem min_four (ats : Array TypeId) (ty : TypeId) (a b c d : Value) : Builtin.min_ ats ty #[a, b, c, d] = (Builtin.min2 a b >>= fun s => Builtin.min2 s c >>= fun s => Builtin.min2 s d >>= fun s => pure s) := by simp only [Builtin.min_, List.foldlM_cons, List.foldlM_nil]
end Go.Proofs.YtlklclebjeeaaaaW.PrintMore
namespace Go.Proofs.YtlklclebjeeaaaaW.PrintWords
open Go.RowKit
section
variable {P : Program} {ops : Array Oper} {rest : List Oper} {o : Oper} {a : Act} {Q : Exit → Act → World → Prop} {W : World}
/-- The operation is a call of this function (a cheap look ahead of a dear step). -/
theorem gate_callee {f : FuncId} {as_ : Array Operand} {ts : Array TypeId} (_ho : o.op = .call { callee := .value (.func f), args := as_, argTypes := ts }) (h : wpList P ops Q (o :: rest) a W) : wpList P ops Q (o :: rest) a W := h
end
/-- The greater of two whole numbers, as_ Go's max tells it. -/
def mx (a b : Int) : Int := if a < b then b else a
/-- The smaller of two whole numbers, as_ Go's min tells it. -/
def mn (a b : Int) : Int := if b < a then b else a
/-- A shift to the left, as_ Go tells it: a count beyond the width leaves nothing. -/
def shl (k : IntKind) (x y : Int) : Int := k.wrap (x * 2 ^ min y.toNat k.bits)
/-- A shift to the right: a count beyond the width leaves the sign. -/
def shr (k : IntKind) (x y : Int) : Int := x / 2 ^ min y.toNat k.bits
namespace Kd
section
variable {α : Type} {d : Kd α} {e base : Nat} {ok : Nat → Prop} {W w1 : World} {v : Value} {xs : List α}
end
section
variable {α : Type} {d : Kd α} {e base g n cap : Nat} {ok oki okp : Nat → Prop} {W : World} {xs : List α} {i : Int} {c : List Value}
end
section
variable {α : Type} {d : Kd α} {e base b b' g N : Nat} {ok ok1 : Nat → Prop} {W W2 w1 : World} {u v : Value} {xs ys : List α} {S : Nat → Prop}
end
end Kd
end Go.Proofs.YtlklclebjeeaaaaW.PrintWords
namespace Go.Proofs.YtlklclebjeeaaaaW.PrintWords
open Go.RowKit
namespace Kd
/-- A row that is only read, told by its value: its form, its length, what it leads to (in ok). e and base say nothing; they make it as_ the others are. -/
def V {α : Type} (d : Kd α) (_e : Nat) (W : World) (_base : Nat) (ok : Nat → Prop) (v : Value) (xs : List α) : Prop := ∃ A c, v = .slice A xs.length c ∧ xs.length ≤ c ∧ F d W ok A xs.length xs
section
variable {α β : Type} {d : Kd α} {e base base' n m c g N' lo hi : Nat} {ok ok' S : Nat → Prop} {w W w1 : World} {A : Option Addr} {ad : Addr} {u v v1 : Value} {xs : List α}
end
end Kd
end Go.Proofs.YtlklclebjeeaaaaW.PrintWords
end
section
namespace Go.Proofs.Ytlklclebjeeaaaa.Q
open Go.RowKit Go.Proofs.YtlklclebjeeaaaaW.PrintWords Go.Proofs.YtlklclebjeeaaaaW.PrintLast Go.Proofs.YtlklclebjeeaaaaW.PrintMore
attribute [local go_sem] max2_int min2_int max_two min_two max_three min_three max_four min_four   -- for this text's walks alone
set_option linter.unusedVariables false
set_option linter.unusedSimpArgs false



def errW : Option Int → Value
  | none => .nilIface
  | some c => .iface 0 (.int .i64 c)
theorem errW_none : errW none = .nilIface := rfl
theorem errW_some (c : Int) : errW (some c) = .iface 0 (.int .i64 c) := rfl

theorem info34 : (Try.prog.info? 34).map (fun i => (i.zero, i.size, i.bytes)) = some (some (.agg #[(.int .i64 0), (.string ⟨#[]⟩), (.int .i64 0), (.slice none 0 0), (.slice none 0 0)]), 5, 80) := by kernel_rfl
-- the values' own types
def rd_L2 (xs : List (List Int)) (i : Int) : (List Int) := xs.getD i.toNat ([] : List Int)
abbrev S34 := Fm
def z34 : S34 := ⟨(0 : Int), (⟨#[]⟩ : ByteArray), (0 : Int), ([] : List Int), ([] : List S34)⟩
def F34 (d : Kd S34) : Kd S34 := Kd.iso (Kd.pair (Kd.int .i64) (Kd.pair Kd.string (Kd.pair (Kd.int .i64) (Kd.pair (Kd.slice 3 (Kd.int .i64)) (Kd.slice 34 d))))) (fun x : S34 => (x.f0, x.f1, x.f2, x.f3, x.f4))
theorem mono34 : Kd.Mono F34 := Kd.mono_iso _ (Kd.mono_pair (Kd.mono_const _) (Kd.mono_pair (Kd.mono_const _) (Kd.mono_pair (Kd.mono_const _) (Kd.mono_pair (Kd.mono_const _) (Kd.mono_slice 34 Kd.mono_id)))))
theorem sub34 : Kd.Sub F34 [3, 34] := Kd.sub_iso _ (Kd.sub_pair (Kd.sub_const _ (by decide)) (Kd.sub_pair (Kd.sub_const _ (by decide)) (Kd.sub_pair (Kd.sub_const _ (by decide)) (Kd.sub_pair (Kd.sub_const _ (by decide)) (Kd.sub_slice 34 (by decide) Kd.sub_id)))))
theorem sz34 : ∀ n, (Kd.upto F34 5 [3, 34] n).sz = 5 := Kd.upto_sz (fun _ => rfl)
def k34 : Kd S34 := Kd.fix F34 5 [3, 34] sz34 (Kd.upto_E sub34)
theorem k34_open {w : World} {x : S34} {cs : List Value} (h : k34.K w x cs) : ∃ A3 c3 A4 c4, cs = [.int .i64 x.f0, .string x.f1, .int .i64 x.f2, .slice A3 x.f3.length c3, .slice A4 x.f4.length c4] ∧ x.f3.length ≤ c3 ∧ (Kd.int .i64).C w A3 x.f3.length x.f3 ∧ x.f4.length ≤ c4 ∧ k34.C w A4 x.f4.length x.f4 := by
  obtain ⟨n, h⟩ := h
  cases n with
  | zero => exact h.elim
  | succ n =>
    obtain ⟨_, _, rfl, rfl, ⟨_, _, rfl, rfl, ⟨_, _, rfl, rfl, ⟨_, _, rfl, ⟨A3, c3, rfl, l3, g3⟩, ⟨A4, c4, rfl, l4, g4⟩⟩⟩⟩⟩ := h
    exact ⟨A3, c3, A4, c4, rfl, l3, g3, l4, Kd.fix_C g4⟩
theorem k34_mk (w : World) (x : S34) {A3 : Option Addr} {c3 : Nat} (l3 : x.f3.length ≤ c3) (g3 : (Kd.int .i64).C w A3 x.f3.length x.f3) {A4 : Option Addr} {c4 : Nat} (l4 : x.f4.length ≤ c4) (g4 : k34.C w A4 x.f4.length x.f4) : k34.K w x [.int .i64 x.f0, .string x.f1, .int .i64 x.f2, .slice A3 x.f3.length c3, .slice A4 x.f4.length c4] := by
  obtain ⟨n4, q4⟩ := Kd.fix_C_back mono34 g4
  have r4 := Kd.upto_C_le mono34 sz34 (show n4 ≤ n4 by omega) q4
  exact ⟨n4 + 1, ⟨[.int .i64 x.f0], [.string x.f1, .int .i64 x.f2, .slice A3 x.f3.length c3, .slice A4 x.f4.length c4], rfl, rfl, ⟨[.string x.f1], [.int .i64 x.f2, .slice A3 x.f3.length c3, .slice A4 x.f4.length c4], rfl, rfl, ⟨[.int .i64 x.f2], [.slice A3 x.f3.length c3, .slice A4 x.f4.length c4], rfl, rfl, ⟨[.slice A3 x.f3.length c3], [.slice A4 x.f4.length c4], rfl, ⟨A3, c3, rfl, l3, g3⟩, ⟨A4, c4, rfl, l4, r4⟩⟩⟩⟩⟩⟩
theorem k34_mkM (w : World) (base : Nat) (ok : Nat → Prop) (x : S34) {v3 : Value} (g3 : (Kd.int .i64).R 3 w base ok v3 x.f3) {v4 : Value} (g4 : k34.R 34 w base ok v4 x.f4) : k34.M w base ok x [.int .i64 x.f0, .string x.f1, .int .i64 x.f2, v3, v4] := by
  obtain ⟨n4, q4⟩ := Kd.fix_R_back mono34 g4
  have r4 := Kd.upto_R_le mono34 sz34 (show n4 ≤ n4 by omega) q4
  exact ⟨n4 + 1, ⟨[.int .i64 x.f0], [.string x.f1, .int .i64 x.f2, v3, v4], rfl, rfl, ⟨[.string x.f1], [.int .i64 x.f2, v3, v4], rfl, rfl, ⟨[.int .i64 x.f2], [v3, v4], rfl, rfl, ⟨[v3], [v4], rfl, ⟨v3, rfl, g3⟩, ⟨v4, rfl, r4⟩⟩⟩⟩⟩⟩
theorem k34_openF {W : World} {ok : Nat → Prop} {x : S34} {cs : List Value} (h : Kd.FK k34 W ok x cs) : ∃ A3 c3 A4 c4, cs = [.int .i64 x.f0, .string x.f1, .int .i64 x.f2, .slice A3 x.f3.length c3, .slice A4 x.f4.length c4] ∧ x.f3.length ≤ c3 ∧ Kd.F (Kd.int .i64) W ok A3 x.f3.length x.f3 ∧ x.f4.length ≤ c4 ∧ Kd.F k34 W ok A4 x.f4.length x.f4 := by
  obtain ⟨A3, c3, A4, c4, rfl, l3, _, l4, _⟩ := k34_open (Kd.FK_now h)
  exact ⟨A3, c3, A4, c4, rfl, l3, (fun W' hW => by obtain ⟨A3_, c3_, A4_, c4_, he, l3_, g3_, l4_, g4_⟩ := k34_open (h W' hW); injection (Option.some.inj (show some (Value.slice A3 x.f3.length c3) = some (Value.slice A3_ x.f3.length c3_) from congrArg (fun l => l[3]?) he)) with ha_ _ _; rw [ha_]; exact g3_), l4, (fun W' hW => by obtain ⟨A3_, c3_, A4_, c4_, he, l3_, g3_, l4_, g4_⟩ := k34_open (h W' hW); injection (Option.some.inj (show some (Value.slice A4 x.f4.length c4) = some (Value.slice A4_ x.f4.length c4_) from congrArg (fun l => l[4]?) he)) with ha_ _ _; rw [ha_]; exact g4_)⟩
theorem k34_mkF (W : World) (ok : Nat → Prop) (x : S34) {A3 : Option Addr} {c3 : Nat} (l3 : x.f3.length ≤ c3) (g3 : Kd.F (Kd.int .i64) W ok A3 x.f3.length x.f3) {A4 : Option Addr} {c4 : Nat} (l4 : x.f4.length ≤ c4) (g4 : Kd.F k34 W ok A4 x.f4.length x.f4) : Kd.FK k34 W ok x [.int .i64 x.f0, .string x.f1, .int .i64 x.f2, .slice A3 x.f3.length c3, .slice A4 x.f4.length c4] := fun W2 hW => k34_mk W2 x l3 (g3 W2 hW) l4 (g4 W2 hW)
def rd_T34 (xs : List S34) (i : Int) : S34 := xs.getD i.toNat z34
theorem at_T34 {w : World} {A : Option Addr} {n : Nat} {xs : List S34} (h : Kd.C k34 w A n xs) (i : Int) (h0 : 0 ≤ i) (h1 : i < n) : ∃ ad A3 c3 A4 c4, A = some ad ∧ w.cell? (ad.add (i.toNat * 5)) = some (.int .i64 (rd_T34 xs i).f0) ∧ w.cell? ⟨(ad.add (i.toNat * 5)).block, (ad.add (i.toNat * 5)).off + 1, none⟩ = some (.string (rd_T34 xs i).f1) ∧ w.cell? ⟨(ad.add (i.toNat * 5)).block, (ad.add (i.toNat * 5)).off + 2, none⟩ = some (.int .i64 (rd_T34 xs i).f2) ∧ w.cell? ⟨(ad.add (i.toNat * 5)).block, (ad.add (i.toNat * 5)).off + 3, none⟩ = some (.slice A3 (rd_T34 xs i).f3.length c3) ∧ w.cell? ⟨(ad.add (i.toNat * 5)).block, (ad.add (i.toNat * 5)).off + 4, none⟩ = some (.slice A4 (rd_T34 xs i).f4.length c4) ∧ (rd_T34 xs i).f3.length ≤ c3 ∧ (Kd.int .i64).C w A3 (rd_T34 xs i).f3.length (rd_T34 xs i).f3 ∧ (rd_T34 xs i).f4.length ≤ c4 ∧ k34.C w A4 (rd_T34 xs i).f4.length (rd_T34 xs i).f4 := by
  obtain ⟨ad, c, e, _, hK, hc0⟩ := Kd.C_get h z34 i h0 h1
  have hc : ∀ j u, c[j]? = some u → w.cell? (ad.add (i.toNat * 5 + j)) = some u := hc0
  obtain ⟨A3, c3, A4, c4, rfl, l3, g3, l4, g4⟩ := k34_open hK
  exact ⟨ad, A3, c3, A4, c4, e, hc 0 _ rfl, by rw [← add_field _ _ 1 (by omega)]; exact hc 1 _ rfl, by rw [← add_field _ _ 2 (by omega)]; exact hc 2 _ rfl, by rw [← add_field _ _ 3 (by omega)]; exact hc 3 _ rfl, by rw [← add_field _ _ 4 (by omega)]; exact hc 4 _ rfl, l3, g3, l4, g4⟩

abbrev S80 := Ht
def z80 : S80 := ⟨z34, (0 : Int), z34, ([] : List S80)⟩
def F80 (d : Kd S80) : Kd S80 := Kd.iso (Kd.pair k34 (Kd.pair (Kd.int .i64) (Kd.pair k34 (Kd.slice 80 d)))) (fun x : S80 => (x.f0, x.f1, x.f2, x.f3))
theorem mono80 : Kd.Mono F80 := Kd.mono_iso _ (Kd.mono_pair (Kd.mono_const _) (Kd.mono_pair (Kd.mono_const _) (Kd.mono_pair (Kd.mono_const _) (Kd.mono_slice 80 Kd.mono_id))))
theorem sub80 : Kd.Sub F80 [3, 34, 80] := Kd.sub_iso _ (Kd.sub_pair (Kd.sub_const _ (by decide)) (Kd.sub_pair (Kd.sub_const _ (by decide)) (Kd.sub_pair (Kd.sub_const _ (by decide)) (Kd.sub_slice 80 (by decide) Kd.sub_id))))
theorem sz80 : ∀ n, (Kd.upto F80 12 [3, 34, 80] n).sz = 12 := Kd.upto_sz (fun _ => rfl)
def k80 : Kd S80 := Kd.fix F80 12 [3, 34, 80] sz80 (Kd.upto_E sub80)
theorem k80_open {w : World} {x : S80} {cs : List Value} (h : k80.K w x cs) : ∃ A3 c3 A4 c4 A9 c9 A10 c10 A11 c11, cs = [.int .i64 x.f0.f0, .string x.f0.f1, .int .i64 x.f0.f2, .slice A3 x.f0.f3.length c3, .slice A4 x.f0.f4.length c4, .int .i64 x.f1, .int .i64 x.f2.f0, .string x.f2.f1, .int .i64 x.f2.f2, .slice A9 x.f2.f3.length c9, .slice A10 x.f2.f4.length c10, .slice A11 x.f3.length c11] ∧ x.f0.f3.length ≤ c3 ∧ (Kd.int .i64).C w A3 x.f0.f3.length x.f0.f3 ∧ x.f0.f4.length ≤ c4 ∧ k34.C w A4 x.f0.f4.length x.f0.f4 ∧ x.f2.f3.length ≤ c9 ∧ (Kd.int .i64).C w A9 x.f2.f3.length x.f2.f3 ∧ x.f2.f4.length ≤ c10 ∧ k34.C w A10 x.f2.f4.length x.f2.f4 ∧ x.f3.length ≤ c11 ∧ k80.C w A11 x.f3.length x.f3 := by
  obtain ⟨n, h⟩ := h
  cases n with
  | zero => exact h.elim
  | succ n =>
    obtain ⟨_, _, rfl, s0, ⟨_, _, rfl, rfl, ⟨_, _, rfl, s6, ⟨A11, c11, rfl, l11, g11⟩⟩⟩⟩ := h
    obtain ⟨A3, c3, A4, c4, rfl, l3, g3, l4, g4⟩ := k34_open s0
    obtain ⟨A9, c9, A10, c10, rfl, l9, g9, l10, g10⟩ := k34_open s6
    exact ⟨A3, c3, A4, c4, A9, c9, A10, c10, A11, c11, rfl, l3, g3, l4, g4, l9, g9, l10, g10, l11, Kd.fix_C g11⟩
theorem k80_mk (w : World) (x : S80) {A3 : Option Addr} {c3 : Nat} (l3 : x.f0.f3.length ≤ c3) (g3 : (Kd.int .i64).C w A3 x.f0.f3.length x.f0.f3) {A4 : Option Addr} {c4 : Nat} (l4 : x.f0.f4.length ≤ c4) (g4 : k34.C w A4 x.f0.f4.length x.f0.f4) {A9 : Option Addr} {c9 : Nat} (l9 : x.f2.f3.length ≤ c9) (g9 : (Kd.int .i64).C w A9 x.f2.f3.length x.f2.f3) {A10 : Option Addr} {c10 : Nat} (l10 : x.f2.f4.length ≤ c10) (g10 : k34.C w A10 x.f2.f4.length x.f2.f4) {A11 : Option Addr} {c11 : Nat} (l11 : x.f3.length ≤ c11) (g11 : k80.C w A11 x.f3.length x.f3) : k80.K w x [.int .i64 x.f0.f0, .string x.f0.f1, .int .i64 x.f0.f2, .slice A3 x.f0.f3.length c3, .slice A4 x.f0.f4.length c4, .int .i64 x.f1, .int .i64 x.f2.f0, .string x.f2.f1, .int .i64 x.f2.f2, .slice A9 x.f2.f3.length c9, .slice A10 x.f2.f4.length c10, .slice A11 x.f3.length c11] := by
  obtain ⟨n11, q11⟩ := Kd.fix_C_back mono80 g11
  have r11 := Kd.upto_C_le mono80 sz80 (show n11 ≤ n11 by omega) q11
  exact ⟨n11 + 1, ⟨[.int .i64 x.f0.f0, .string x.f0.f1, .int .i64 x.f0.f2, .slice A3 x.f0.f3.length c3, .slice A4 x.f0.f4.length c4], [.int .i64 x.f1, .int .i64 x.f2.f0, .string x.f2.f1, .int .i64 x.f2.f2, .slice A9 x.f2.f3.length c9, .slice A10 x.f2.f4.length c10, .slice A11 x.f3.length c11], rfl, (k34_mk w x.f0 l3 g3 l4 g4), ⟨[.int .i64 x.f1], [.int .i64 x.f2.f0, .string x.f2.f1, .int .i64 x.f2.f2, .slice A9 x.f2.f3.length c9, .slice A10 x.f2.f4.length c10, .slice A11 x.f3.length c11], rfl, rfl, ⟨[.int .i64 x.f2.f0, .string x.f2.f1, .int .i64 x.f2.f2, .slice A9 x.f2.f3.length c9, .slice A10 x.f2.f4.length c10], [.slice A11 x.f3.length c11], rfl, (k34_mk w x.f2 l9 g9 l10 g10), ⟨A11, c11, rfl, l11, r11⟩⟩⟩⟩⟩
theorem k80_openF {W : World} {ok : Nat → Prop} {x : S80} {cs : List Value} (h : Kd.FK k80 W ok x cs) : ∃ A3 c3 A4 c4 A9 c9 A10 c10 A11 c11, cs = [.int .i64 x.f0.f0, .string x.f0.f1, .int .i64 x.f0.f2, .slice A3 x.f0.f3.length c3, .slice A4 x.f0.f4.length c4, .int .i64 x.f1, .int .i64 x.f2.f0, .string x.f2.f1, .int .i64 x.f2.f2, .slice A9 x.f2.f3.length c9, .slice A10 x.f2.f4.length c10, .slice A11 x.f3.length c11] ∧ x.f0.f3.length ≤ c3 ∧ Kd.F (Kd.int .i64) W ok A3 x.f0.f3.length x.f0.f3 ∧ x.f0.f4.length ≤ c4 ∧ Kd.F k34 W ok A4 x.f0.f4.length x.f0.f4 ∧ x.f2.f3.length ≤ c9 ∧ Kd.F (Kd.int .i64) W ok A9 x.f2.f3.length x.f2.f3 ∧ x.f2.f4.length ≤ c10 ∧ Kd.F k34 W ok A10 x.f2.f4.length x.f2.f4 ∧ x.f3.length ≤ c11 ∧ Kd.F k80 W ok A11 x.f3.length x.f3 := by
  obtain ⟨A3, c3, A4, c4, A9, c9, A10, c10, A11, c11, rfl, l3, _, l4, _, l9, _, l10, _, l11, _⟩ := k80_open (Kd.FK_now h)
  exact ⟨A3, c3, A4, c4, A9, c9, A10, c10, A11, c11, rfl, l3, (fun W' hW => by obtain ⟨A3_, c3_, A4_, c4_, A9_, c9_, A10_, c10_, A11_, c11_, he, l3_, g3_, l4_, g4_, l9_, g9_, l10_, g10_, l11_, g11_⟩ := k80_open (h W' hW); injection (Option.some.inj (show some (Value.slice A3 x.f0.f3.length c3) = some (Value.slice A3_ x.f0.f3.length c3_) from congrArg (fun l => l[3]?) he)) with ha_ _ _; rw [ha_]; exact g3_), l4, (fun W' hW => by obtain ⟨A3_, c3_, A4_, c4_, A9_, c9_, A10_, c10_, A11_, c11_, he, l3_, g3_, l4_, g4_, l9_, g9_, l10_, g10_, l11_, g11_⟩ := k80_open (h W' hW); injection (Option.some.inj (show some (Value.slice A4 x.f0.f4.length c4) = some (Value.slice A4_ x.f0.f4.length c4_) from congrArg (fun l => l[4]?) he)) with ha_ _ _; rw [ha_]; exact g4_), l9, (fun W' hW => by obtain ⟨A3_, c3_, A4_, c4_, A9_, c9_, A10_, c10_, A11_, c11_, he, l3_, g3_, l4_, g4_, l9_, g9_, l10_, g10_, l11_, g11_⟩ := k80_open (h W' hW); injection (Option.some.inj (show some (Value.slice A9 x.f2.f3.length c9) = some (Value.slice A9_ x.f2.f3.length c9_) from congrArg (fun l => l[9]?) he)) with ha_ _ _; rw [ha_]; exact g9_), l10, (fun W' hW => by obtain ⟨A3_, c3_, A4_, c4_, A9_, c9_, A10_, c10_, A11_, c11_, he, l3_, g3_, l4_, g4_, l9_, g9_, l10_, g10_, l11_, g11_⟩ := k80_open (h W' hW); injection (Option.some.inj (show some (Value.slice A10 x.f2.f4.length c10) = some (Value.slice A10_ x.f2.f4.length c10_) from congrArg (fun l => l[10]?) he)) with ha_ _ _; rw [ha_]; exact g10_), l11, (fun W' hW => by obtain ⟨A3_, c3_, A4_, c4_, A9_, c9_, A10_, c10_, A11_, c11_, he, l3_, g3_, l4_, g4_, l9_, g9_, l10_, g10_, l11_, g11_⟩ := k80_open (h W' hW); injection (Option.some.inj (show some (Value.slice A11 x.f3.length c11) = some (Value.slice A11_ x.f3.length c11_) from congrArg (fun l => l[11]?) he)) with ha_ _ _; rw [ha_]; exact g11_)⟩
theorem k80_mkF (W : World) (ok : Nat → Prop) (x : S80) {A3 : Option Addr} {c3 : Nat} (l3 : x.f0.f3.length ≤ c3) (g3 : Kd.F (Kd.int .i64) W ok A3 x.f0.f3.length x.f0.f3) {A4 : Option Addr} {c4 : Nat} (l4 : x.f0.f4.length ≤ c4) (g4 : Kd.F k34 W ok A4 x.f0.f4.length x.f0.f4) {A9 : Option Addr} {c9 : Nat} (l9 : x.f2.f3.length ≤ c9) (g9 : Kd.F (Kd.int .i64) W ok A9 x.f2.f3.length x.f2.f3) {A10 : Option Addr} {c10 : Nat} (l10 : x.f2.f4.length ≤ c10) (g10 : Kd.F k34 W ok A10 x.f2.f4.length x.f2.f4) {A11 : Option Addr} {c11 : Nat} (l11 : x.f3.length ≤ c11) (g11 : Kd.F k80 W ok A11 x.f3.length x.f3) : Kd.FK k80 W ok x [.int .i64 x.f0.f0, .string x.f0.f1, .int .i64 x.f0.f2, .slice A3 x.f0.f3.length c3, .slice A4 x.f0.f4.length c4, .int .i64 x.f1, .int .i64 x.f2.f0, .string x.f2.f1, .int .i64 x.f2.f2, .slice A9 x.f2.f3.length c9, .slice A10 x.f2.f4.length c10, .slice A11 x.f3.length c11] := fun W2 hW => k80_mk W2 x l3 (g3 W2 hW) l4 (g4 W2 hW) l9 (g9 W2 hW) l10 (g10 W2 hW) l11 (g11 W2 hW)
def rd_T80 (xs : List S80) (i : Int) : S80 := xs.getD i.toNat z80
theorem at_T80 {w : World} {A : Option Addr} {n : Nat} {xs : List S80} (h : Kd.C k80 w A n xs) (i : Int) (h0 : 0 ≤ i) (h1 : i < n) : ∃ ad A3 c3 A4 c4 A9 c9 A10 c10 A11 c11, A = some ad ∧ w.cell? (ad.add (i.toNat * 12)) = some (.int .i64 (rd_T80 xs i).f0.f0) ∧ w.cell? ⟨(ad.add (i.toNat * 12)).block, (ad.add (i.toNat * 12)).off + 1, none⟩ = some (.string (rd_T80 xs i).f0.f1) ∧ w.cell? ⟨(ad.add (i.toNat * 12)).block, (ad.add (i.toNat * 12)).off + 2, none⟩ = some (.int .i64 (rd_T80 xs i).f0.f2) ∧ w.cell? ⟨(ad.add (i.toNat * 12)).block, (ad.add (i.toNat * 12)).off + 3, none⟩ = some (.slice A3 (rd_T80 xs i).f0.f3.length c3) ∧ w.cell? ⟨(ad.add (i.toNat * 12)).block, (ad.add (i.toNat * 12)).off + 4, none⟩ = some (.slice A4 (rd_T80 xs i).f0.f4.length c4) ∧ w.cell? ⟨(ad.add (i.toNat * 12)).block, (ad.add (i.toNat * 12)).off + 5, none⟩ = some (.int .i64 (rd_T80 xs i).f1) ∧ w.cell? ⟨(ad.add (i.toNat * 12)).block, (ad.add (i.toNat * 12)).off + 6, none⟩ = some (.int .i64 (rd_T80 xs i).f2.f0) ∧ w.cell? ⟨(ad.add (i.toNat * 12)).block, (ad.add (i.toNat * 12)).off + 7, none⟩ = some (.string (rd_T80 xs i).f2.f1) ∧ w.cell? ⟨(ad.add (i.toNat * 12)).block, (ad.add (i.toNat * 12)).off + 8, none⟩ = some (.int .i64 (rd_T80 xs i).f2.f2) ∧ w.cell? ⟨(ad.add (i.toNat * 12)).block, (ad.add (i.toNat * 12)).off + 9, none⟩ = some (.slice A9 (rd_T80 xs i).f2.f3.length c9) ∧ w.cell? ⟨(ad.add (i.toNat * 12)).block, (ad.add (i.toNat * 12)).off + 10, none⟩ = some (.slice A10 (rd_T80 xs i).f2.f4.length c10) ∧ w.cell? ⟨(ad.add (i.toNat * 12)).block, (ad.add (i.toNat * 12)).off + 11, none⟩ = some (.slice A11 (rd_T80 xs i).f3.length c11) ∧ (rd_T80 xs i).f0.f3.length ≤ c3 ∧ (Kd.int .i64).C w A3 (rd_T80 xs i).f0.f3.length (rd_T80 xs i).f0.f3 ∧ (rd_T80 xs i).f0.f4.length ≤ c4 ∧ k34.C w A4 (rd_T80 xs i).f0.f4.length (rd_T80 xs i).f0.f4 ∧ (rd_T80 xs i).f2.f3.length ≤ c9 ∧ (Kd.int .i64).C w A9 (rd_T80 xs i).f2.f3.length (rd_T80 xs i).f2.f3 ∧ (rd_T80 xs i).f2.f4.length ≤ c10 ∧ k34.C w A10 (rd_T80 xs i).f2.f4.length (rd_T80 xs i).f2.f4 ∧ (rd_T80 xs i).f3.length ≤ c11 ∧ k80.C w A11 (rd_T80 xs i).f3.length (rd_T80 xs i).f3 := by
  obtain ⟨ad, c, e, _, hK, hc0⟩ := Kd.C_get h z80 i h0 h1
  have hc : ∀ j u, c[j]? = some u → w.cell? (ad.add (i.toNat * 12 + j)) = some u := hc0
  obtain ⟨A3, c3, A4, c4, A9, c9, A10, c10, A11, c11, rfl, l3, g3, l4, g4, l9, g9, l10, g10, l11, g11⟩ := k80_open hK
  exact ⟨ad, A3, c3, A4, c4, A9, c9, A10, c10, A11, c11, e, hc 0 _ rfl, by rw [← add_field _ _ 1 (by omega)]; exact hc 1 _ rfl, by rw [← add_field _ _ 2 (by omega)]; exact hc 2 _ rfl, by rw [← add_field _ _ 3 (by omega)]; exact hc 3 _ rfl, by rw [← add_field _ _ 4 (by omega)]; exact hc 4 _ rfl, by rw [← add_field _ _ 5 (by omega)]; exact hc 5 _ rfl, by rw [← add_field _ _ 6 (by omega)]; exact hc 6 _ rfl, by rw [← add_field _ _ 7 (by omega)]; exact hc 7 _ rfl, by rw [← add_field _ _ 8 (by omega)]; exact hc 8 _ rfl, by rw [← add_field _ _ 9 (by omega)]; exact hc 9 _ rfl, by rw [← add_field _ _ 10 (by omega)]; exact hc 10 _ rfl, by rw [← add_field _ _ 11 (by omega)]; exact hc 11 _ rfl, l3, g3, l4, g4, l9, g9, l10, g10, l11, g11⟩

abbrev S26 := S34
abbrev z26 := @z34
abbrev k26 := @k34
abbrev k26_open := @k34_open
abbrev k26_mk := @k34_mk
abbrev k26_openF := @k34_openF
abbrev k26_mkF := @k34_mkF
abbrev rd_T26 := @rd_T34
abbrev at_T26 := @at_T34
abbrev S78 := S80
abbrev z78 := @z80
abbrev k78 := @k80
abbrev k78_open := @k80_open
abbrev k78_mk := @k80_mk
abbrev k78_openF := @k80_openF
abbrev k78_mkF := @k80_mkF
abbrev rd_T78 := @rd_T80
abbrev at_T78 := @at_T80
end Go.Proofs.Ytlklclebjeeaaaa.Q
end
section
namespace Go.Proofs.Ytlklclebjeeaaaa
open Go.RowKit Go.Proofs.YtlklclebjeeaaaaW.PrintWords Go.Proofs.YtlklclebjeeaaaaW.PrintLast Go.Proofs.YtlklclebjeeaaaaW.PrintMore
set_option linter.unusedVariables false

def zFm : Fm := ⟨0, ⟨#[]⟩, 0, [], []⟩
theorem Fm.ind {P : Fm → Prop} (h : ∀ x : Fm, (∀ k, k ∈ x.f4 → P k) → P x) (x : Fm) : P x := by
  have key : ∀ n (x : Fm), SizeOf.sizeOf x < n → P x := by
    intro n
    induction n with
    | zero => intro x hx; omega
    | succ n ih =>
      intro x hx
      refine h x (fun k hk => ih k ?_)
      have h1 := List.sizeOf_lt_of_mem hk
      cases x with
      | mk a b c d e =>
        simp only [Fm.mk.sizeOf_spec] at hx
        simp only at h1
        omega
  exact key _ x (Nat.lt_succ_self _)

/-! The kind: the one of the printed texts. -/
abbrev kF : Kd Fm := Q.k34
abbrev kI : Kd Int := Kd.int .i64

/-- What the five cells of a form lead to: x reads in w. -/
structure FmIn (w : World) (x : Fm) (A3 : Option Addr) (c3 : Nat) (A4 : Option Addr) (c4 : Nat) : Prop where
  l3 : x.f3.length ≤ c3
  g3 : kI.C w A3 x.f3.length x.f3
  l4 : x.f4.length ≤ c4
  g4 : kF.C w A4 x.f4.length x.f4
@[reducible] def fmC (x : Fm) (A3 : Option Addr) (c3 : Nat) (A4 : Option Addr) (c4 : Nat) : List Value :=
  [.int .i64 x.f0, .string x.f1, .int .i64 x.f2, .slice A3 x.f3.length c3, .slice A4 x.f4.length c4]

theorem kF_open {w : World} {x : Fm} {cs : List Value} (h : kF.K w x cs) : ∃ A3 c3 A4 c4, cs = fmC x A3 c3 A4 c4 ∧ FmIn w x A3 c3 A4 c4 := by
  obtain ⟨A3, c3, A4, c4, e, l3, g3, l4, g4⟩ := Q.k34_open h
  exact ⟨A3, c3, A4, c4, e, l3, g3, l4, g4⟩
theorem kF_mk {w : World} {x : Fm} {A3 : Option Addr} {c3 : Nat} {A4 : Option Addr} {c4 : Nat} (h : FmIn w x A3 c3 A4 c4) : kF.K w x (fmC x A3 c3 A4 c4) := Q.k34_mk w x h.l3 h.g3 h.l4 h.g4
theorem kF_mkM {w : World} {base : Nat} {ok : Nat → Prop} {x : Fm} {v3 : Value} (g3 : kI.R 3 w base ok v3 x.f3) {v4 : Value} (g4 : kF.R 34 w base ok v4 x.f4) : kF.M w base ok x [.int .i64 x.f0, .string x.f1, .int .i64 x.f2, v3, v4] := Q.k34_mkM w base ok x g3 g4
theorem FmIn.below {w w1 : World} {x : Fm} {A3 : Option Addr} {c3 : Nat} {A4 : Option Addr} {c4 : Nat} (h : FmIn w x A3 c3 A4 c4) (hb : Below w.heap.size w w1) : FmIn w1 x A3 c3 A4 c4 :=
  ⟨h.l3, Kd.C_below h.g3 hb, h.l4, Kd.C_below h.g4 hb⟩
/-- The kid at place i: its cells, and what they lead to. -/
theorem kid_at {w : World} {A : Option Addr} {n : Nat} {xs : List Fm} (h : kF.C w A n xs) (i : Nat) (h1 : i < xs.length) : ∃ ad A3 c3 A4 c4, A = some ad ∧ w.cell? (ad.add (i * 5)) = some (.int .i64 xs[i].f0) ∧ w.cell? ⟨(ad.add (i * 5)).block, (ad.add (i * 5)).off + 1, none⟩ = some (.string xs[i].f1) ∧ w.cell? ⟨(ad.add (i * 5)).block, (ad.add (i * 5)).off + 2, none⟩ = some (.int .i64 xs[i].f2) ∧ w.cell? ⟨(ad.add (i * 5)).block, (ad.add (i * 5)).off + 3, none⟩ = some (.slice A3 xs[i].f3.length c3) ∧ w.cell? ⟨(ad.add (i * 5)).block, (ad.add (i * 5)).off + 4, none⟩ = some (.slice A4 xs[i].f4.length c4) ∧ FmIn w xs[i] A3 c3 A4 c4 := by
  have hn := h.1
  obtain ⟨ad, c, e, _, hK, hc0⟩ := Kd.C_get h zFm (i : Int) (by omega) (by omega)
  rw [Int.toNat_natCast] at hK hc0
  rw [show xs.getD i zFm = xs[i] from by rw [List.getD_eq_getElem?_getD, List.getElem?_eq_getElem h1]; rfl] at hK
  have hc : ∀ j u, c[j]? = some u → w.cell? (ad.add (i * 5 + j)) = some u := hc0
  obtain ⟨A3, c3, A4, c4, rfl, hin⟩ := kF_open hK
  exact ⟨ad, A3, c3, A4, c4, e, hc 0 _ rfl, by rw [← add_field _ _ 1 (by omega)]; exact hc 1 _ rfl, by rw [← add_field _ _ 2 (by omega)]; exact hc 2 _ rfl, by rw [← add_field _ _ 3 (by omega)]; exact hc 3 _ rfl, by rw [← add_field _ _ 4 (by omega)]; exact hc 4 _ rfl, hin⟩
/-- The number at place i. -/
theorem int_at {w : World} {A : Option Addr} {n : Nat} {xs : List Int} (h : kI.C w A n xs) (i : Nat) (h1 : i < xs.length) : ∃ ad, A = some ad ∧ w.cell? (ad.add i) = some (.int .i64 xs[i]) := by
  have hn := h.1
  obtain ⟨ad, e, hx⟩ := Kd.at_int h (i : Int) (by omega) (by omega)
  rw [Int.toNat_natCast] at hx
  refine ⟨ad, e, ?_⟩
  rw [hx]
  simp [rd, h1]

theorem fill_step {α : Type} (xs : List α) (z : α) (i : Nat) (h : i < xs.length) : (xs.take i ++ List.replicate (xs.length - i) z).set i xs[i] = xs.take (i + 1) ++ List.replicate (xs.length - (i + 1)) z := by
  have e : i - (xs.take i).length = 0 := by simp; omega
  rw [show xs.length - i = (xs.length - (i + 1)) + 1 from by omega, List.replicate_succ, List.take_succ_eq_append_getElem h, List.set_append, if_neg (by simp; omega), e, List.set_cons_zero, List.append_assoc]
  rfl
theorem fill_len {α : Type} (xs : List α) (z : α) (i : Nat) (h : i ≤ xs.length) : (xs.take i ++ List.replicate (xs.length - i) z).length = xs.length := by
  simp; omega
/-- A row of plain elements that is the call's own: element i, and what a store leaves. -/
theorem own_at {α : Type} {enc : α → Value} {h1 : ∀ x : α, (enc x).oneCell' = true} {e : Nat} {w : World} {base : Nat} {ok : Nat → Prop} {v : Value} {xs : List α} (h : (Kd.scalar enc h1).R e w base ok v xs) (i : Nat) (hi : i < xs.length) :
    ∃ g cap, v = .slice (some ⟨g, 0, none⟩) xs.length cap ∧ base ≤ g ∧ ok g ∧ w.cell? ⟨g, i, none⟩ = some (enc xs[i]) ∧ w.frozen? ⟨g, i, none⟩ = false ∧ g < w.heap.size ∧
      ∀ y, (Kd.scalar enc h1).R e (w.setCell ⟨g, i, none⟩ (enc y)) base ok (.slice (some ⟨g, 0, none⟩) xs.length cap) (xs.set i y) := by
  obtain ⟨g, cap, rfl, hb, hl, _⟩ := Kd.R_form h (by omega)
  have hc := Kd.R_celln xs[i] h (i : Int) (by omega) (by omega)
  rw [Int.toNat_natCast] at hc
  refine ⟨g, cap, rfl, hb, h.1 g rfl, ?_, hc.2, hl, fun y => ?_⟩
  · rw [hc.1]
    simp [rdOf, hi]
  · have := (Kd.R_putg h (i : Int) y).1
    rwa [Int.toNat_natCast] at this

/-- The five cells of a variable that holds a form. -/
theorem fm_cells {w : World} {g : Nat} {v0 v1 v2 v3 v4 : Value} {t : TypeId} (h : w.heap[g]? = some (.cells #[v0, v1, v2, v3, v4] t (0, 0))) : w.cell? ⟨g, 0, none⟩ = some v0 ∧ w.cell? ⟨g, 1, none⟩ = some v1 ∧ w.cell? ⟨g, 2, none⟩ = some v2 ∧ w.cell? ⟨g, 3, none⟩ = some v3 ∧ w.cell? ⟨g, 4, none⟩ = some v4 :=
  ⟨(blk_cell h 0).trans rfl, (blk_cell h 1).trans rfl, (blk_cell h 2).trans rfl, (blk_cell h 3).trans rfl, (blk_cell h 4).trans rfl⟩
theorem fm_free {w : World} {g : Nat} {v0 v1 v2 v3 v4 : Value} {t : TypeId} (h : w.heap[g]? = some (.cells #[v0, v1, v2, v3, v4] t (0, 0))) : w.frozen? ⟨g, 0, none⟩ = false ∧ w.frozen? ⟨g, 1, none⟩ = false ∧ w.frozen? ⟨g, 2, none⟩ = false ∧ w.frozen? ⟨g, 3, none⟩ = false ∧ w.frozen? ⟨g, 4, none⟩ = false :=
  ⟨blk_frozen h 0, blk_frozen h 1, blk_frozen h 2, blk_frozen h 3, blk_frozen h 4⟩
theorem below_new (w : World) (o : Obj) : Below w.heap.size w (w.alloc o) := (Below.refl _ _).alloc (Nat.le_refl _) _
theorem blk_new (w : World) (o : Obj) : (w.alloc o).heap[w.heap.size]? = some o := by simpa using heap_alloc_new w o

theorem ck {w w1 : World} (hb : Below w.drew.heap.size w.drew w1) {a : Addr} {v : Value} (h : w.cell? a = some v) : w1.cell? a = some v := (hb.cell (World.block_lt_of_cell? w _ h)).trans h
theorem ck0 {w w1 : World} (hb : Below w.heap.size w w1) {a : Addr} {v : Value} (h : w.cell? a = some v) : w1.cell? a = some v := (hb.cell (World.block_lt_of_cell? w _ h)).trans h
theorem one_new {w w1 : World} {O1 : Obj} (hb : Below (w.alloc O1).heap.size (w.alloc O1) w1) : w1.heap[w.heap.size]? = some O1 ∧ Below w.heap.size w w1 := ⟨blk_below (blk_new w O1) hb, below_step (below_new w O1) hb⟩
theorem two_new {w w1 : World} {O1 O2 : Obj} (hb : Below ((w.alloc O1).alloc O2).heap.size ((w.alloc O1).alloc O2) w1) : w1.heap[w.heap.size]? = some O1 ∧ w1.heap[w.heap.size + 1]? = some O2 ∧ Below w.heap.size w w1 := by
  have h2 := blk_below (blk_new (w.alloc O1) O2) hb
  rw [show (w.alloc O1).heap.size = w.heap.size + 1 from by simp] at h2
  exact ⟨blk_below (blk_below (blk_new w O1) (below_new _ O2)) hb, h2, below_step (below_step (below_new w O1) (below_new _ O2)) hb⟩
theorem three_new {w w1 : World} {O1 O2 O3 : Obj} (hb : Below (((w.alloc O1).alloc O2).alloc O3).heap.size (((w.alloc O1).alloc O2).alloc O3) w1) : w1.heap[w.heap.size]? = some O1 ∧ w1.heap[w.heap.size + 1]? = some O2 ∧ w1.heap[w.heap.size + 1 + 1]? = some O3 ∧ Below w.heap.size w w1 := by
  have h2 := blk_below (blk_below (blk_new (w.alloc O1) O2) (below_new _ O3)) hb
  have h3 := blk_below (blk_new ((w.alloc O1).alloc O2) O3) hb
  rw [show (w.alloc O1).heap.size = w.heap.size + 1 from by simp] at h2
  rw [show ((w.alloc O1).alloc O2).heap.size = w.heap.size + 1 + 1 from by simp] at h3
  exact ⟨blk_below (blk_below (blk_below (blk_new w O1) (below_new _ O2)) (below_new _ O3)) hb, h2, h3, below_step (below_step (below_step (below_new w O1) (below_new _ O2)) (below_new _ O3)) hb⟩

/-- A value under a condition. -/
noncomputable def gIf {α : Type} (p : Prop) (a : α) : Option α := @ite _ p (Classical.propDecidable p) (some a) none
theorem gIf_some {α : Type} {p : Prop} {a r : α} (h : gIf p a = some r) : p ∧ a = r := by
  unfold gIf at h
  by_cases hp : p
  · rw [if_pos hp] at h; exact ⟨hp, Option.some.inj h⟩
  · rw [if_neg hp] at h; cases h
theorem gIf_yes {α : Type} {p : Prop} (hp : p) (a : α) : gIf p a = some a := by unfold gIf; rw [if_pos hp]
/-! What calls leave. -/
def Ret (w : World) (v : Value) (e : Ending) (w' : World) : Prop := e = .returned v ∧ Below w.heap.size w w'
end Go.Proofs.Ytlklclebjeeaaaa
end
section
namespace Go.Proofs.Ytlklclebjeeaaaa
open Go.RowKit Go.Proofs.YtlklclebjeeaaaaW.PrintWords Go.Proofs.YtlklclebjeeaaaaW.PrintLast Go.Proofs.YtlklclebjeeaaaaW.PrintMore
set_option linter.unusedVariables false
set_option linter.unusedSimpArgs false

theorem infoI : (Try.prog.info? 3).map (fun i => (i.zero, i.size, i.bytes)) = some (some (.int .i64 0), 1, 8) := by kernel_rfl
theorem ret_b {a b : Bool} (h : a = b) : Ending.returned (.bool a) = .returned (.bool b) := by rw [h]
theorem ret_i {a b : Int} (h : a = b) : Ending.returned (.int .i64 a) = .returned (.int .i64 b) := by rw [h]

/-! where the first element is that has p: slices.Index and its kin -/
def fidx {α : Type} (p : α → Bool) (xs : List α) : Int := if xs.findIdx p < xs.length then (xs.findIdx p : Int) else -1
theorem fidx_hit {α : Type} {p : α → Bool} {xs : List α} {i : Nat} (h : i < xs.length) (hp : p xs[i] = true) (hn : ∀ j (hj : j < i), p (xs[j]'(by omega)) = false) : fidx p xs = i := by
  have e : xs.findIdx p = i := by
    rw [List.findIdx_eq h]
    exact ⟨hp, fun j hj => hn j hj⟩
  unfold fidx
  rw [e, if_pos h]
theorem fidx_miss {α : Type} {p : α → Bool} {xs : List α} (hn : ∀ j (hj : j < xs.length), p xs[j] = false) : fidx p xs = -1 := by
  have e : ¬ xs.findIdx p < xs.length := by
    intro h
    have := List.findIdx_getElem (w := h)
    rw [hn _ h] at this
    cases this
  unfold fidx
  rw [if_neg e]
theorem fidx_any {α : Type} (p : α → Bool) (xs : List α) : decide (0 ≤ fidx p xs) = xs.any p := by
  unfold fidx
  by_cases h : xs.findIdx p < xs.length
  · rw [if_pos h]
    have := List.findIdx_getElem (w := h)
    rw [decide_eq_true (by omega)]
    exact (List.any_eq_true.2 ⟨_, List.getElem_mem h, this⟩).symm
  · rw [if_neg h]
    rw [decide_eq_false (by omega)]
    symm
    rw [List.any_eq_false]
    intro x hx hp
    exact h (List.findIdx_lt_length_of_exists ⟨x, hx, hp⟩)
theorem within_any (a b c : Int) (w : World) : Calls Try.prog 86 #[.int .i64 a, .int .i64 b, .int .i64 c] w (Ret w (.bool (decide (b ≤ a ∧ a ≤ c)))) := by
  by_cases h1 : b ≤ a
  · have h1' : decide (b ≤ a) = true := decide_eq_true h1
    by_cases h2 : a ≤ c
    · have h2' : decide (a ≤ c) = true := decide_eq_true h2
      have H := Lib.hid (And.intro h1 h2); clear h1 h2
      go_enter Try.func86, Try.ntmps86
      go_wp2_with fail
      go_ret
      exact ⟨ret_b (decide_eq_true H.out).symm, Below.refl _ _⟩
    · have h2' : decide (a ≤ c) = false := decide_eq_false h2
      have H := Lib.hid h2; clear h1 h2
      go_enter Try.func86, Try.ntmps86
      go_wp2_with fail
      go_ret
      exact ⟨rfl, Below.refl _ _⟩
  · have h1' : decide (b ≤ a) = false := decide_eq_false h1
    have H := Lib.hid h1; clear h1
    go_enter Try.func86, Try.ntmps86
    go_wp2_with fail
    go_ret
    exact ⟨rfl, Below.refl _ _⟩
set_option maxHeartbeats 1000000 in
theorem eqIntS_any (xs ys : List Int) (A B : Option Addr) (c d : Nat) (w : World) (hr : kI.C w A xs.length xs) (hc : xs.length ≤ c) (hr2 : kI.C w B ys.length ys) (hc2 : ys.length ≤ d) :
    Calls Try.prog 16 #[.slice A xs.length c, .slice B ys.length d] w (Ret w (.bool (decide (xs = ys)))) := by
  have hmax := hr.2.1
  by_cases hl : xs.length = ys.length
  · have hl1 : ((xs.length : Int) == (ys.length : Int)) = true := by simp [hl]
    have hl2 : ((xs.length : Int) != (ys.length : Int)) = false := by simp [hl]
    have hl3 : (xs.length == ys.length) = true := by simp [hl]
    have hl4 : (xs.length != ys.length) = false := by simp [hl]
    have HL := Lib.hid hl
    clear hl
    go_enter Try.func16, Try.ntmps16
    go_wp2_with fail
    go_loopg [5] xs.length (fun kq v5 w' => ∃ i : Nat, i ≤ xs.length ∧ xs.length - i ≤ kq ∧ v5 = .int .i64 i ∧ Aside0 (∀ j (h : j < xs.length) (h2 : j < ys.length), j < i → xs[j] = ys[j]) ∧ Aside0 (Below w.heap.size w w'))
    case atStart => exact ⟨0, Nat.zero_le _, by omega, rfl, ⟨fun j _ _ h => absurd h (by omega)⟩, ⟨Below.refl _ _⟩⟩
    case round =>
      obtain ⟨i, hi, hg, rfl, HN, HW⟩ := hrel
      by_cases hlt : i < xs.length
      · have hlt2 : i < ys.length := by have := HL.out; omega
        obtain ⟨ad, e, hcell⟩ := int_at (Kd.C_below hr HW.out) i hlt
        subst e
        obtain ⟨ad2, e2, hcell2⟩ := int_at (Kd.C_below hr2 HW.out) i hlt2
        subst e2
        by_cases he : xs[i] = ys[i]
        · have hb1 : (xs[i] == ys[i]) = true := by simpa using he
          have hb2 : (xs[i] != ys[i]) = false := by simpa using he
          have HE := Lib.hid he
          clear he
          go_wp2_with fail
          go_quiet (fail)
          go_wp2_with fail
          go_roundg (xs.length - (i + 1))
          case measure => omega
          case rel =>
            refine ⟨i + 1, by omega, Nat.le_refl _, by go_num, ⟨fun j hj hj2 hji => ?_⟩, ⟨pw_below_drewN HW.out _⟩⟩
            rcases Nat.lt_or_ge j i with h | h
            · exact HN.out j hj hj2 h
            · obtain rfl : j = i := by omega
              exact HE.out
        · have hb1 : (xs[i] == ys[i]) = false := by simpa using he
          have hb2 : (xs[i] != ys[i]) = true := by simpa using he
          have HE := Lib.hid he
          clear he
          go_wp2_with fail
          go_quiet (fail)
          go_wp2_with fail
          go_ret
          refine ⟨ret_b (decide_eq_false (fun h => HE.out ?_)).symm, pw_below_drewN HW.out _⟩
          subst h
          rfl
      · obtain rfl : i = xs.length := by omega
        go_wp2_with fail
        go_ret
        refine ⟨ret_b (decide_eq_true (List.ext_getElem HL.out (fun j hj hj2 => HN.out j hj hj2 hj))).symm, HW.out⟩
  · have hl1 : ((xs.length : Int) == (ys.length : Int)) = false := by simp; omega
    have hl2 : ((xs.length : Int) != (ys.length : Int)) = true := by simp; omega
    have hl3 : (xs.length == ys.length) = false := by simp [hl]
    have hl4 : (xs.length != ys.length) = true := by simp [hl]
    have HL := Lib.hid hl
    clear hl
    go_enter Try.func16, Try.ntmps16
    go_wp2_with fail
    go_ret
    exact ⟨ret_b (decide_eq_false (fun h => HL.out (by rw [h]))).symm, Below.refl _ _⟩
set_option maxHeartbeats 1000000 in
theorem toIntS_any (xs : List Int) (A : Option Addr) (c : Nat) (w : World) (hr : kI.C w A xs.length xs) (hc : xs.length ≤ c) (hs : xs.length ≤ 35184372088832) :
    Calls Try.prog 49 #[.slice A xs.length c] w (fun e w' => ∃ v, e = .returned v ∧ kI.R 3 w' w.heap.size (fun _ => True) v xs ∧ Below w.heap.size w w') := by
  have hmax := hr.2.1
  have hdt : decide (0 ≤ (xs.length : Int)) = true := decide_eq_true (by omega)
  go_enter Try.func49, Try.ntmps49
  go_wp2_with (first | ((with_reducible refine gate_dst (N := 7) rfl ?_); refine Kd.R_make kI _ 3 rfl (N := 7) rfl 23 _ _ rfl (xs.length : Int) rfl rfl Try.underlying23 (.int .i64 0) 8 infoI rfl (by decide) (by omega) 0 (ok := fun _ => True) (okp := fun _ => True) rfl (fun _ hk => hk) trivial (by omega) (by omega) (Below.refl _ _) (Nat.le_refl _) ?_; intro v0 w0 ho0 hb0 hg0 hn0))
  go_loopg [4] xs.length (fun kq v4 w' => ∃ i : Nat, i ≤ xs.length ∧ xs.length - i ≤ kq ∧ v4 = .int .i64 i ∧ Aside0 (kI.R 3 w' w.heap.size (fun _ => True) v0 (xs.take i ++ List.replicate (xs.length - i) 0)) ∧ Aside0 (Below w.heap.size w w'))
  case atStart => exact ⟨0, Nat.zero_le _, by omega, rfl, ⟨by simpa using ho0⟩, ⟨hb0⟩⟩
  case round =>
    obtain ⟨i, hi, hg, rfl, HO, HW⟩ := hrel
    clear ho0 hb0 hg0 hn0
    by_cases hlt : i < xs.length
    · obtain ⟨ad, e, hcell⟩ := int_at (Kd.C_below hr HW.out) i hlt
      subst e
      obtain ⟨g, cap, e, hg1, _, hx, hf, _, HP⟩ := own_at HO.out i (by simp; omega)
      rw [fill_len xs 0 i hi] at e HP
      subst e
      have HP := Lib.hid (HP xs[i])
      have HG := Lib.hid hg1
      clear hg1
      go_wp2_with fail
      go_roundg (xs.length - (i + 1))
      case measure => omega
      case rel =>
        refine ⟨i + 1, by omega, Nat.le_refl _, by go_num, ⟨?_⟩, ⟨below_set HW.out HG.out⟩⟩
        have := HP.out
        rwa [fill_step xs 0 i hlt] at this
    · obtain rfl : i = xs.length := by omega
      go_wp2_with fail
      go_ret
      refine ⟨_, rfl, ?_, HW.out⟩
      have := HO.out
      rw [List.take_length, Nat.sub_self] at this
      simpa using this
end Go.Proofs.Ytlklclebjeeaaaa
end
section
namespace Go.Proofs.Ytlklclebjeeaaaa
set_option linter.unusedVariables false
set_option linter.unusedSimpArgs false

mutual
def Fm.size : Fm → Nat
  | ⟨_, _, _, _, ks⟩ => 1 + sizes ks
def sizes : List Fm → Nat
  | [] => 0
  | k :: ks => k.size + sizes ks
end
theorem Fm.size_eq (x : Fm) : x.size = 1 + sizes x.f4 := by cases x; rfl
theorem sizes_append (a b : List Fm) : sizes (a ++ b) = sizes a + sizes b := by
  induction a with
  | nil => simp [sizes]
  | cons x xs ih => simp only [List.cons_append, sizes, ih]; omega
theorem sizes_take (l : List Fm) (i : Nat) (h : i < l.length) : sizes (l.take (i + 1)) = sizes (l.take i) + l[i].size := by
  rw [List.take_succ_eq_append_getElem h, sizes_append]; simp [sizes]
theorem sizes_take_le (l : List Fm) (i : Nat) : sizes (l.take i) ≤ sizes l := by
  have h := sizes_append (l.take i) (l.drop i)
  rw [List.take_append_drop] at h
  omega
/-! values and letters: what szForm counts -/
mutual
def Fm.tot : Fm → Nat
  | ⟨_, nm, _, sc, ks⟩ => nm.size + sc.length + totL ks
def totL : List Fm → Nat
  | [] => 0
  | k :: ks => 1 + k.tot + totL ks
end
theorem Fm.tot_eq (x : Fm) : x.tot = x.f1.size + x.f3.length + totL x.f4 := by cases x; rfl
theorem totL_append (a b : List Fm) : totL (a ++ b) = totL a + totL b := by
  induction a with
  | nil => simp [totL]
  | cons x xs ih => simp only [List.cons_append, totL, ih]; omega
theorem totL_take (l : List Fm) (i : Nat) (h : i < l.length) : totL (l.take (i + 1)) = totL (l.take i) + (1 + l[i].tot) := by
  rw [List.take_succ_eq_append_getElem h, totL_append]; simp [totL]
theorem totL_mem {l : List Fm} {k : Fm} (h : k ∈ l) : k.tot + 1 ≤ totL l := by
  induction l with
  | nil => cases h
  | cons x xs ih =>
    simp only [totL]
    rcases List.mem_cons.1 h with rfl | h
    · omega
    · have := ih h; omega
theorem len_totL (l : List Fm) : l.length ≤ totL l := by
  induction l with
  | nil => simp
  | cons x xs ih => simp only [totL, List.length_cons]; omega
theorem sizes_totL : ∀ x : Fm, x.size ≤ 1 + x.tot := by
  intro x
  induction x using Fm.ind with
  | h x ih =>
    rw [Fm.size_eq, Fm.tot_eq]
    have key : ∀ l : List Fm, (∀ k, k ∈ l → k.size ≤ 1 + k.tot) → sizes l ≤ totL l := by
      intro l
      induction l with
      | nil => intro _; simp [sizes, totL]
      | cons y ys ih2 =>
        intro h
        simp only [sizes, totL]
        have h1 := h y List.mem_cons_self
        have h2 := ih2 (fun k hk => h k (List.mem_cons_of_mem _ hk))
        omega
    have := key x.f4 ih
    omega
/-- Names are not longer than any string is. -/
inductive NmSmall : Fm → Prop
  | mk (x : Fm) (h : x.f1.size ≤ 9223372036854775807) (hk : ∀ k, k ∈ x.f4 → NmSmall k) : NmSmall x
theorem NmSmall.nm {x : Fm} (h : NmSmall x) : x.f1.size ≤ 9223372036854775807 := by cases h; assumption
theorem NmSmall.kid {x : Fm} (h : NmSmall x) : ∀ k, k ∈ x.f4 → NmSmall k := by cases h; assumption
/-- What szForm returns. -/
def szR (L : Int) (t : Nat) : Int := if (t : Int) ≤ L then L - t else -1
theorem szR_neg {L : Int} {t : Nat} : szR L t < 0 ↔ L < t := by unfold szR; split <;> omega
theorem szR_yes {L : Int} {t : Nat} (h : (t : Int) ≤ L) : szR L t = L - t := by unfold szR; rw [if_pos h]
theorem szR_no {L : Int} {t : Nat} (h : L < t) : szR L t = -1 := by unfold szR; rw [if_neg (by omega)]
end Go.Proofs.Ytlklclebjeeaaaa
end
section
namespace Go.Proofs.Ytlklclebjeeaaaa
open Go.RowKit Go.Proofs.YtlklclebjeeaaaaW.PrintWords Go.Proofs.YtlklclebjeeaaaaW.PrintLast Go.Proofs.YtlklclebjeeaaaaW.PrintMore
set_option linter.unusedVariables false
set_option linter.unusedSimpArgs false

theorem szIntS_any (A : Option Addr) (n c : Nat) (L : Int) (w : World) (h0 : 0 ≤ L) (h1 : L ≤ 1048576) (hn : n ≤ 9223372036854775807) : Calls Try.prog 44 #[.slice A n c, .int .i64 L] w (Ret w (.int .i64 (szR L n))) := by
  by_cases h : (n : Int) ≤ L
  · have hd : decide (L - (n : Int) < 0) = false := decide_eq_false (by omega)
    have H := Lib.hid (szR_yes h)
    go_enter Try.func44, Try.ntmps44
    go_wp2_with fail
    go_ret
    exact ⟨ret_i H.out.symm, Below.refl _ _⟩
  · have hd : decide (L - (n : Int) < 0) = true := decide_eq_true (by omega)
    have H := Lib.hid (szR_no (L := L) (t := n) (by omega))
    go_enter Try.func44, Try.ntmps44
    go_wp2_with fail
    go_ret
    exact ⟨ret_i H.out.symm, Below.refl _ _⟩
/-- What is asked of szForm at a form. -/
def SzForm (x : Fm) : Prop := ∀ (A3 : Option Addr) (c3 : Nat) (A4 : Option Addr) (c4 : Nat) (L : Int) (w : World), FmIn w x A3 c3 A4 c4 → NmSmall x → 0 ≤ L → L ≤ 1048576 →
    Calls Try.prog 11 #[.agg #[.int .i64 x.f0, .string x.f1, .int .i64 x.f2, .slice A3 x.f3.length c3, .slice A4 x.f4.length c4], .int .i64 L] w (Ret w (.int .i64 (szR L x.tot)))
theorem totL_split (ks : List Fm) (i : Nat) : totL (ks.take i) + (ks.length - i) ≤ totL ks := by
  have h := totL_append (ks.take i) (ks.drop i)
  rw [List.take_append_drop] at h
  have := len_totL (ks.drop i)
  rw [List.length_drop] at this
  omega
set_option maxHeartbeats 1000000 in
theorem szFormS_of (ks : List Fm) (hks : ∀ k, k ∈ ks → SzForm k) (A : Option Addr) (c : Nat) (L : Int) (w : World) (hr : kF.C w A ks.length ks) (hc : ks.length ≤ c) (hnm : ∀ k, k ∈ ks → NmSmall k) (h0 : 0 ≤ L) (h1 : L ≤ 1048576) :
    Calls Try.prog 35 #[.slice A ks.length c, .int .i64 L] w (Ret w (.int .i64 (szR L (totL ks)))) := by
  have hmax := hr.2.1
  by_cases hlen : (ks.length : Int) ≤ L
  · have hd : decide (L - (ks.length : Int) < 0) = false := decide_eq_false (by omega)
    have HK := Lib.hid hks
    have HM := Lib.hid hnm
    clear hks hnm
    go_enter Try.func35, Try.ntmps35
    go_wp2_with fail
    go_loopg [1, 5] ks.length (fun kq v1 v5 w' => ∃ (i : Nat) (M : Int), i ≤ ks.length ∧ ks.length - i ≤ kq ∧ v5 = .int .i64 i ∧ v1 = .int .i64 M ∧ 0 ≤ M ∧ M ≤ L ∧ Aside0 (M = L - ((ks.length - i : Nat) : Int) - (totL (ks.take i) : Int)) ∧ Aside0 (Below w.heap.size w w'))
    case atStart => exact ⟨0, L - ks.length, Nat.zero_le _, by omega, rfl, rfl, by omega, by omega, ⟨by simp [totL]⟩, ⟨Below.refl _ _⟩⟩
    case round =>
      obtain ⟨i, M, hi, hg, rfl, rfl, hM0, hM1, HM1, HW⟩ := hrel
      by_cases hlt : i < ks.length
      · obtain ⟨ad, B3, d3, B4, d4, e, g0, g1, g2, g3, g4, hk⟩ := kid_at (Kd.C_below hr HW.out) i hlt
        have HC := Lib.hid (HK.out _ (List.getElem_mem hlt) B3 d3 B4 d4 M wr hk (HM.out _ (List.getElem_mem hlt)) hM0 (by omega))
        have HT := Lib.hid (totL_take ks i hlt)
        have HS := Lib.hid (totL_split ks (i + 1))
        clear hk
        subst e
        by_cases hq : (ks[i].tot : Int) ≤ M
        · rw [szR_yes hq] at HC
          have hd2 : decide (M - (ks[i].tot : Int) < 0) = false := decide_eq_false (by omega)
          go_wp2_with fail
          refine HC.out.mono ?_
          rintro e w1 ⟨rfl, hb1⟩
          go_wp2_with fail
          go_roundg (ks.length - (i + 1))
          case measure => omega
          case rel => exact ⟨i + 1, M - ks[i].tot, by omega, Nat.le_refl _, by go_num, rfl, by omega, by omega, ⟨by have := HM1.out; have := HT.out; omega⟩, ⟨below_step HW.out hb1⟩⟩
        · rw [szR_no (by omega)] at HC
          have HN := Lib.hid (szR_no (L := L) (t := totL ks) (by have := HM1.out; have := HT.out; have := HS.out; omega))
          go_wp2_with fail
          refine HC.out.mono ?_
          rintro e w1 ⟨rfl, hb1⟩
          go_wp2_with fail
          go_ret
          exact ⟨ret_i HN.out.symm, below_step HW.out hb1⟩
      · obtain rfl : i = ks.length := by omega
        have HN := Lib.hid (szR_yes (L := L) (t := totL ks) (by have := HM1.out; rw [List.take_length] at this; omega))
        have HE := Lib.hid (show M = L - (totL ks : Int) by have := HM1.out; rw [List.take_length] at this; omega)
        go_wp2_with fail
        go_ret
        exact ⟨ret_i (by rw [HN.out, HE.out]), HW.out⟩
  · have hd : decide (L - (ks.length : Int) < 0) = true := decide_eq_true (by omega)
    have HN := Lib.hid (szR_no (L := L) (t := totL ks) (by have := len_totL ks; omega))
    go_enter Try.func35, Try.ntmps35
    go_wp2_with fail
    go_ret
    exact ⟨ret_i HN.out.symm, Below.refl _ _⟩
theorem szR_step {L : Int} {a b : Nat} (h : (a : Int) ≤ L) : szR (L - a) b = szR L (a + b) := by unfold szR; split <;> split <;> omega
set_option maxHeartbeats 1000000 in
theorem szForm_any (x : Fm) : SzForm x := by
  induction x using Fm.ind with
  | h x ih =>
    intro A3 c3 A4 c4 L w hin hnm h0 h1
    have hn := hnm.nm
    have H3 := hin.g3.2.1
    rw [Fm.tot_eq]
    by_cases h2 : (x.f1.size : Int) ≤ L
    · have hd : decide (L - (x.f1.size : Int) < 0) = false := decide_eq_false (by omega)
      by_cases h3 : (x.f3.length : Int) ≤ L - x.f1.size
      · have HE : Hid (szR (L - x.f1.size - x.f3.length) (totL x.f4) = szR L (x.f1.size + x.f3.length + totL x.f4)) := Lib.hid (by rw [szR_step h3, szR_step h2]; congr 1; omega)
        go_enter Try.func11, Try.ntmps11
        go_wp2_with fail
        refine (szIntS_any A3 x.f3.length c3 _ _ (by omega) (by omega) H3).mono ?_
        rintro e w1 ⟨rfl, hb1⟩
        rw [szR_yes h3]
        have hd2 : decide (L - (x.f1.size : Int) - (x.f3.length : Int) < 0) = false := decide_eq_false (by omega)
        have hb0 : Below w.heap.size w w1 := below_step (below_new w _) hb1
        obtain ⟨q0, q1, q2, q3, q4⟩ := fm_cells (blk_below (blk_new w _) hb1)
        go_wp2_with fail
        refine (szFormS_of x.f4 ih A4 c4 _ _ (Kd.C_below hin.g4 hb0) hin.l4 hnm.kid (by omega) (by omega)).mono ?_
        rintro e w2 ⟨rfl, hb2⟩
        rw [HE.out]
        have hb3 := below_step hb0 hb2
        by_cases hz : szR L (x.f1.size + x.f3.length + totL x.f4) < 0
        · have hd3 := decide_eq_true hz
          have HZ : Hid (szR L (x.f1.size + x.f3.length + totL x.f4) = -1) := Lib.hid (szR_no (szR_neg.1 hz))
          clear hz
          go_wp2_with fail
          go_ret
          exact ⟨ret_i HZ.out.symm, hb3⟩
        · have hd3 := decide_eq_false hz
          clear hz
          go_wp2_with fail
          go_ret
          exact ⟨rfl, hb3⟩
      · have HZ : Hid (szR L (x.f1.size + x.f3.length + totL x.f4) = -1) := Lib.hid (szR_no (by omega))
        go_enter Try.func11, Try.ntmps11
        go_wp2_with fail
        refine (szIntS_any A3 x.f3.length c3 _ _ (by omega) (by omega) H3).mono ?_
        rintro e w1 ⟨rfl, hb1⟩
        rw [szR_no (by omega)]
        have hb0 : Below w.heap.size w w1 := ((Below.refl _ _).alloc (Nat.le_refl _) _).trans (hb1.mono (by simp))
        go_wp2_with fail
        go_ret
        exact ⟨ret_i HZ.out.symm, hb0⟩
    · have hd : decide (L - (x.f1.size : Int) < 0) = true := decide_eq_true (by omega)
      have HZ : Hid (szR L (x.f1.size + x.f3.length + totL x.f4) = -1) := Lib.hid (szR_no (by omega))
      go_enter Try.func11, Try.ntmps11
      go_wp2_with fail
      go_ret
      exact ⟨ret_i HZ.out.symm, (Below.refl _ _).alloc (Nat.le_refl _) _⟩
theorem szFormS_any (ks : List Fm) (A : Option Addr) (c : Nat) (L : Int) (w : World) (hr : kF.C w A ks.length ks) (hc : ks.length ≤ c) (hnm : ∀ k, k ∈ ks → NmSmall k) (h0 : 0 ≤ L) (h1 : L ≤ 1048576) :
    Calls Try.prog 35 #[.slice A ks.length c, .int .i64 L] w (Ret w (.int .i64 (szR L (totL ks)))) := szFormS_of ks (fun k _ => szForm_any k) A c L w hr hc hnm h0 h1
end Go.Proofs.Ytlklclebjeeaaaa
end
section
namespace Go.Proofs.Ytlklclebjeeaaaa
open Go.RowKit Go.Proofs.YtlklclebjeeaaaaW.PrintWords Go.Proofs.YtlklclebjeeaaaaW.PrintLast Go.Proofs.YtlklclebjeeaaaaW.PrintMore
set_option linter.unusedVariables false
set_option linter.unusedSimpArgs false

abbrev encI (xs : List Int) : List Value := encs (Value.int .i64) xs
abbrev obs (v : Value) : List Nat := v.ownBlock.toList
mutual
inductive TrF (w : World) : Fm → Value → Value → List Nat → Prop
  | mk (x : Fm) (v3 v4 : Value) (inner : List Value) (fp : List Nat) (h3 : w.ownsRow 0 3 1 v3 x.f3.length (encI x.f3)) (h4 : w.ownsRow 0 34 5 v4 x.f4.length inner) (hk : TrL w x.f4 inner fp) : TrF w x v3 v4 (obs v3 ++ (obs v4 ++ fp))
inductive TrL (w : World) : List Fm → List Value → List Nat → Prop
  | nil : TrL w [] [] []
  | cons (k : Fm) (ks : List Fm) (v3 v4 : Value) (rest : List Value) (fk fs : List Nat) (hk : TrF w k v3 v4 fk) (hs : TrL w ks rest fs) : TrL w (k :: ks) ([.int .i64 k.f0, .string k.f1, .int .i64 k.f2, v3, v4] ++ rest) (fk ++ fs)
end
theorem TrF.open {w : World} {x : Fm} {v3 v4 : Value} {fp : List Nat} (h : TrF w x v3 v4 fp) : ∃ inner fk, fp = obs v3 ++ (obs v4 ++ fk) ∧ w.ownsRow 0 3 1 v3 x.f3.length (encI x.f3) ∧ w.ownsRow 0 34 5 v4 x.f4.length inner ∧ TrL w x.f4 inner fk := by
  cases h with
  | mk _ _ _ inner fk h3 h4 hk => exact ⟨inner, fk, rfl, h3, h4, hk⟩
theorem TrL.cons_inv {w : World} {k : Fm} {ks : List Fm} {inner : List Value} {fp : List Nat} (h : TrL w (k :: ks) inner fp) : ∃ v3 v4 rest fk fs, inner = [.int .i64 k.f0, .string k.f1, .int .i64 k.f2, v3, v4] ++ rest ∧ fp = fk ++ fs ∧ TrF w k v3 v4 fk ∧ TrL w ks rest fs := by
  cases h with
  | cons _ _ v3 v4 rest fk fs hk hs => exact ⟨v3, v4, rest, fk, fs, rfl, rfl, hk, hs⟩
theorem TrL.nil_inv {w : World} {inner : List Value} {fp : List Nat} (h : TrL w [] inner fp) : inner = [] ∧ fp = [] := by
  cases h
  exact ⟨rfl, rfl⟩
/-- A fact on forms, shown for forms and lists of forms at once. -/
theorem TrL.of {w : World} {Q : List Fm → List Value → List Nat → Prop} (hn : Q [] [] []) (hc : ∀ k ks v3 v4 rest fk fs, TrF w k v3 v4 fk → TrL w ks rest fs → Q ks rest fs → Q (k :: ks) ([.int .i64 k.f0, .string k.f1, .int .i64 k.f2, v3, v4] ++ rest) (fk ++ fs)) : ∀ {ks : List Fm} {inner : List Value} {fp : List Nat}, TrL w ks inner fp → Q ks inner fp := by
  intro ks
  induction ks with
  | nil => intro inner fp h; obtain ⟨rfl, rfl⟩ := h.nil_inv; exact hn
  | cons k ks ih =>
    intro inner fp h
    obtain ⟨v3, v4, rest, fk, fs, rfl, rfl, hk, hs⟩ := h.cons_inv
    exact hc k ks v3 v4 rest fk fs hk hs (ih hs)
theorem TrL.len {w : World} {ks : List Fm} {inner : List Value} {fp : List Nat} (h : TrL w ks inner fp) : inner.length = ks.length * 5 := by
  refine TrL.of (Q := fun ks inner _ => inner.length = ks.length * 5) rfl ?_ h
  intro k ks v3 v4 rest fk fs _ _ ih
  simp [ih]; omega
theorem TrL.append {w : World} {a b : List Fm} {ia ib : List Value} {fa fb : List Nat} (ha : TrL w a ia fa) (hb : TrL w b ib fb) : TrL w (a ++ b) (ia ++ ib) (fa ++ fb) := by
  refine TrL.of (Q := fun a ia fa => TrL w (a ++ b) (ia ++ ib) (fa ++ fb)) hb ?_ ha
  intro k ks v3 v4 rest fk fs hk _ ih
  rw [List.cons_append, List.append_assoc, List.append_assoc]
  exact .cons k _ v3 v4 _ fk _ hk ih
theorem TrL.one {w : World} {k : Fm} {v3 v4 : Value} {fk : List Nat} (hk : TrF w k v3 v4 fk) : TrL w [k] [.int .i64 k.f0, .string k.f1, .int .i64 k.f2, v3, v4] fk := by
  have := TrL.cons k [] v3 v4 [] fk [] hk .nil
  simpa using this
theorem TrL.split {w : World} (a : List Fm) : ∀ {b : List Fm} {inner : List Value} {fp : List Nat}, TrL w (a ++ b) inner fp → ∃ ia ib fa fb, inner = ia ++ ib ∧ fp = fa ++ fb ∧ TrL w a ia fa ∧ TrL w b ib fb := by
  induction a with
  | nil => intro b inner fp h; exact ⟨[], inner, [], fp, rfl, rfl, .nil, h⟩
  | cons k ks ih =>
    intro b inner fp h
    obtain ⟨v3, v4, rest, fk, fs, rfl, rfl, hk, hs⟩ := TrL.cons_inv (ks := ks ++ b) h
    obtain ⟨ia, ib, fa, fb, rfl, rfl, h1, h2⟩ := ih hs
    exact ⟨_ ++ ia, ib, fk ++ fa, fb, by rw [List.append_assoc], by rw [List.append_assoc], .cons k ks v3 v4 ia fk fa hk h1, h2⟩
theorem obs_mem {v : Value} {k : Nat} : k ∈ obs v ↔ v.ownBlock = some k := by
  unfold obs
  cases v.ownBlock <;> simp [eq_comm]
theorem own_base_ {w : World} {e sz n B : Nat} {v : Value} {xs : List Value} (h : w.ownsRow 0 e sz v n xs) (hb : ∀ b, v.ownBlock = some b → B ≤ b) : w.ownsRow B e sz v n xs := by
  obtain ⟨h1, h2⟩ := h
  refine ⟨h1, ?_⟩
  rcases h2 with h2 | ⟨g, cap, cur, rfl, hg, r⟩
  · exact .inl h2
  · exact .inr ⟨g, cap, cur, rfl, hb g rfl, r⟩
/-- Where the blocks of the footprint stand as_ they stood, the form stands. -/
theorem TrF.move {w w1 : World} : ∀ (x : Fm) {v3 v4 : Value} {fp : List Nat}, TrF w x v3 v4 fp → (∀ b, b ∈ fp → w1.heap[b]? = w.heap[b]?) → TrF w1 x v3 v4 fp := by
  intro x
  induction x using Fm.ind with
  | h x ih =>
    intro v3 v4 fp h hm
    obtain ⟨inner, fk, rfl, h3, h4, hk⟩ := h.open
    refine .mk x v3 v4 inner fk (own_move h3 (fun k hk => hm k (by simp [obs_mem, hk]))) (own_move h4 (fun k hk => hm k (by simp [obs_mem, hk]))) ?_
    have key : ∀ (ks : List Fm), (∀ k, k ∈ ks → k ∈ x.f4) → ∀ {inner : List Value} {fk : List Nat}, TrL w ks inner fk → (∀ b, b ∈ fk → w1.heap[b]? = w.heap[b]?) → TrL w1 ks inner fk := by
      intro ks
      induction ks with
      | nil => intro _ inner fk h _; obtain ⟨rfl, rfl⟩ := h.nil_inv; exact .nil
      | cons k ks ih2 =>
        intro hsub inner fk h hm
        obtain ⟨u3, u4, rest, f1, f2, rfl, rfl, hk, hs⟩ := h.cons_inv
        exact .cons k ks u3 u4 rest f1 f2 (ih k (hsub k List.mem_cons_self) hk (fun b hb => hm b (List.mem_append_left _ hb))) (ih2 (fun k hk => hsub k (List.mem_cons_of_mem _ hk)) hs (fun b hb => hm b (List.mem_append_right _ hb)))
    exact key x.f4 (fun _ h => h) hk (fun b hb => hm b (by simp [hb]))
theorem TrL.move {w w1 : World} : ∀ (ks : List Fm) {inner : List Value} {fk : List Nat}, TrL w ks inner fk → (∀ b, b ∈ fk → w1.heap[b]? = w.heap[b]?) → TrL w1 ks inner fk := by
  intro ks
  induction ks with
  | nil => intro inner fk h _; obtain ⟨rfl, rfl⟩ := h.nil_inv; exact .nil
  | cons k ks ih2 =>
    intro inner fk h hm
    obtain ⟨u3, u4, rest, f1, f2, rfl, rfl, hk, hs⟩ := h.cons_inv
    exact .cons k ks u3 u4 rest f1 f2 (hk.move k (fun b hb => hm b (List.mem_append_left _ hb))) (ih2 hs (fun b hb => hm b (List.mem_append_right _ hb)))
theorem TrF.lt {w : World} : ∀ (x : Fm) {v3 v4 : Value} {fp : List Nat}, TrF w x v3 v4 fp → ∀ b, b ∈ fp → b < w.heap.size := by
  intro x
  induction x using Fm.ind with
  | h x ih =>
    intro v3 v4 fp h b hb
    obtain ⟨inner, fk, rfl, h3, h4, hk⟩ := h.open
    rcases List.mem_append.1 hb with hb | hb
    · exact own_lt h3 b (obs_mem.1 hb)
    rcases List.mem_append.1 hb with hb | hb
    · exact own_lt h4 b (obs_mem.1 hb)
    have key : ∀ (ks : List Fm), (∀ k, k ∈ ks → k ∈ x.f4) → ∀ {inner : List Value} {fk : List Nat}, TrL w ks inner fk → ∀ b, b ∈ fk → b < w.heap.size := by
      intro ks
      induction ks with
      | nil => intro _ inner fk h b hb; obtain ⟨rfl, rfl⟩ := h.nil_inv; cases hb
      | cons k ks ih2 =>
        intro hsub inner fk h b hb
        obtain ⟨u3, u4, rest, f1, f2, rfl, rfl, hk, hs⟩ := h.cons_inv
        rcases List.mem_append.1 hb with hb | hb
        · exact ih k (hsub k List.mem_cons_self) hk b hb
        · exact ih2 (fun k hk => hsub k (List.mem_cons_of_mem _ hk)) hs b hb
    exact key x.f4 (fun _ h => h) hk b hb
theorem TrL.lt {w : World} : ∀ (ks : List Fm) {inner : List Value} {fk : List Nat}, TrL w ks inner fk → ∀ b, b ∈ fk → b < w.heap.size := by
  intro ks
  induction ks with
  | nil => intro inner fk h b hb; obtain ⟨rfl, rfl⟩ := h.nil_inv; cases hb
  | cons k ks ih2 =>
    intro inner fk h b hb
    obtain ⟨u3, u4, rest, f1, f2, rfl, rfl, hk, hs⟩ := h.cons_inv
    rcases List.mem_append.1 hb with hb | hb
    · exact hk.lt k b hb
    · exact ih2 hs b hb
theorem TrF.later {w w1 : World} {x : Fm} {v3 v4 : Value} {fp : List Nat} (h : TrF w x v3 v4 fp) (hb : Below w.heap.size w w1) : TrF w1 x v3 v4 fp := h.move x (fun b hb2 => hb.block b (h.lt x b hb2))
theorem TrL.later {w w1 : World} {ks : List Fm} {inner : List Value} {fp : List Nat} (h : TrL w ks inner fp) (hb : Below w.heap.size w w1) : TrL w1 ks inner fp := h.move ks (fun b hb2 => hb.block b (h.lt ks b hb2))
/-- A row of numbers reads. -/
theorem own_C {w : World} {v : Value} {xs : List Int} (h : w.ownsRow 0 3 1 v xs.length (encI xs)) : ∃ A c, v = .slice A xs.length c ∧ xs.length ≤ c ∧ kI.C w A xs.length xs := by
  obtain ⟨A, c, e, hr⟩ := own_reads_row (R := kI.K w) h (Kd.reps_scalar xs) rfl
  subst e
  exact ⟨A, c, rfl, own_le h, hr⟩
/-- A form in new memory reads. -/
theorem TrF.In {w : World} : ∀ (x : Fm) {v3 v4 : Value} {fp : List Nat}, TrF w x v3 v4 fp → ∃ A3 c3 A4 c4, v3 = .slice A3 x.f3.length c3 ∧ v4 = .slice A4 x.f4.length c4 ∧ FmIn w x A3 c3 A4 c4 := by
  intro x
  induction x using Fm.ind with
  | h x ih =>
    intro v3 v4 fp h
    obtain ⟨inner, fk, rfl, h3, h4, hk⟩ := h.open
    obtain ⟨A3, c3, rfl, l3, r3⟩ := own_C h3
    have key : ∀ (ks : List Fm), (∀ k, k ∈ ks → k ∈ x.f4) → ∀ {inner : List Value} {fk : List Nat}, TrL w ks inner fk → Reps (kF.K w) 5 ks inner := by
      intro ks
      induction ks with
      | nil => intro _ inner fk h; obtain ⟨rfl, rfl⟩ := h.nil_inv; exact Reps.none _ _
      | cons k ks ih2 =>
        intro hsub inner fk h
        obtain ⟨u3, u4, rest, f1, f2, rfl, rfl, hk, hs⟩ := h.cons_inv
        obtain ⟨B3, d3, B4, d4, rfl, rfl, hin⟩ := ih k (hsub k List.mem_cons_self) hk
        have hr := ih2 (fun k hk => hsub k (List.mem_cons_of_mem _ hk)) hs
        refine ⟨by rw [List.length_append, hr.1]; simp; omega, fun j p hj => ?_⟩
        cases j with
        | zero =>
          have : k = p := by simpa using hj
          subst this
          simpa using kF_mk hin
        | succ j =>
          have h2 := hr.2 j p (by simpa using hj)
          rw [show (j + 1) * 5 = 5 + j * 5 from by omega, ← List.drop_drop]
          simpa using h2
    obtain ⟨A4, c4, e, r4⟩ := own_reads_row (R := kF.K w) h4 (key x.f4 (fun _ h => h) hk) rfl
    subst e
    exact ⟨A3, c3, A4, c4, rfl, rfl, l3, r3, own_le h4, r4⟩
theorem TrL.reps {w : World} : ∀ (ks : List Fm) {inner : List Value} {fk : List Nat}, TrL w ks inner fk → Reps (kF.K w) 5 ks inner := by
  intro ks
  induction ks with
  | nil => intro inner fk h; obtain ⟨rfl, rfl⟩ := h.nil_inv; exact Reps.none _ _
  | cons k ks ih2 =>
    intro inner fk h
    obtain ⟨u3, u4, rest, f1, f2, rfl, rfl, hk, hs⟩ := h.cons_inv
    obtain ⟨B3, d3, B4, d4, rfl, rfl, hin⟩ := hk.In k
    have hr := ih2 hs
    refine ⟨by rw [List.length_append, hr.1]; simp; omega, fun j p hj => ?_⟩
    cases j with
    | zero =>
      have : k = p := by simpa using hj
      subst this
      simpa using kF_mk hin
    | succ j =>
      have h2 := hr.2 j p (by simpa using hj)
      rw [show (j + 1) * 5 = 5 + j * 5 from by omega, ← List.drop_drop]
      simpa using h2
theorem TrL.C {w : World} {ks : List Fm} {inner : List Value} {fk : List Nat} {v : Value} (h : TrL w ks inner fk) (h4 : w.ownsRow 0 34 5 v ks.length inner) : ∃ A c, v = .slice A ks.length c ∧ ks.length ≤ c ∧ kF.C w A ks.length ks := by
  obtain ⟨A4, c4, e, r4⟩ := own_reads_row (R := kF.K w) h4 (h.reps ks) rfl
  subst e
  exact ⟨A4, c4, rfl, own_le h4, r4⟩
/-- Five stores, one behind the other: an element of a row. -/
abbrev set5 (w : World) (g o : Nat) (b0 b1 b2 b3 b4 : Value) : World := ((((w.setCell ⟨g, o, none⟩ b0).setCell ⟨g, o + 1, none⟩ b1).setCell ⟨g, o + 2, none⟩ b2).setCell ⟨g, o + 3, none⟩ b3).setCell ⟨g, o + 4, none⟩ b4
theorem set5_far (w : World) (g o : Nat) (b0 b1 b2 b3 b4 : Value) (k : Nat) (h : k ≠ g) : (set5 w g o b0 b1 b2 b3 b4).heap[k]? = w.heap[k]? := by
  unfold set5
  rw [Below.heap_setCell _ _ _ _ h, Below.heap_setCell _ _ _ _ h, Below.heap_setCell _ _ _ _ h, Below.heap_setCell _ _ _ _ h, Below.heap_setCell _ _ _ _ h]
theorem set5_below {B : Nat} {a w : World} (h : Below B a w) {g : Nat} (hg : B ≤ g) (o : Nat) (b0 b1 b2 b3 b4 : Value) : Below B a (set5 w g o b0 b1 b2 b3 b4) :=
  ((((h.setCell (p := ⟨g, _, none⟩) hg _).setCell (p := ⟨g, _, none⟩) hg _).setCell (p := ⟨g, _, none⟩) hg _).setCell (p := ⟨g, _, none⟩) hg _).setCell (p := ⟨g, _, none⟩) hg _
theorem row_put {w : World} {e g n cap i : Nat} {inner rest : List Value} {a0 a1 a2 a3 a4 : Value} (h : w.ownsRow 0 e 5 (.slice (some ⟨g, 0, none⟩) n cap) n (inner ++ ([a0, a1, a2, a3, a4] ++ rest))) (hl : inner.length = i * 5) :
    (w.cell? ⟨g, i * 5, none⟩ = some a0 ∧ w.cell? ⟨g, i * 5 + 1, none⟩ = some a1 ∧ w.cell? ⟨g, i * 5 + 2, none⟩ = some a2 ∧ w.cell? ⟨g, i * 5 + 3, none⟩ = some a3 ∧ w.cell? ⟨g, i * 5 + 4, none⟩ = some a4) ∧
    (∀ j, w.frozen? ⟨g, j, none⟩ = false) ∧
    ∀ b0 b1 b2 b3 b4, (set5 w g (i * 5) b0 b1 b2 b3 b4).ownsRow 0 e 5 (.slice (some ⟨g, 0, none⟩) n cap) n (inner ++ ([b0, b1, b2, b3, b4] ++ rest)) := by
  have hn : inner.length + 5 + rest.length = n * 5 := by have := h.1; simp at this; omega
  have hc : ∀ j, j < 5 → w.cell? ⟨g, i * 5 + j, none⟩ = ([a0, a1, a2, a3, a4] ++ rest)[j]? := by
    intro j hj
    rw [World.ownsRow.cellAt h _ (by omega), List.getElem?_append_right (by omega)]
    congr 1
    omega
  refine ⟨⟨hc 0 (by omega), hc 1 (by omega), hc 2 (by omega), hc 3 (by omega), hc 4 (by omega)⟩, fun j => World.ownsRow.frozenAt h j, fun b0 b1 b2 b3 b4 => ?_⟩
  have s0 := (World.ownsRow.stored h (i * 5) b0).1
  have s1 := (World.ownsRow.stored s0 (i * 5 + 1) b1).1
  have s2 := (World.ownsRow.stored s1 (i * 5 + 2) b2).1
  have s3 := (World.ownsRow.stored s2 (i * 5 + 3) b3).1
  have s4 := (World.ownsRow.stored s3 (i * 5 + 4) b4).1
  have e : ((((((inner ++ ([a0, a1, a2, a3, a4] ++ rest)).set (i * 5) b0).set (i * 5 + 1) b1).set (i * 5 + 2) b2).set (i * 5 + 3) b3).set (i * 5 + 4) b4) = inner ++ ([b0, b1, b2, b3, b4] ++ rest) := by
    rw [← hl]
    simp [List.set_append]
  rw [e] at s4
  exact s4
end Go.Proofs.Ytlklclebjeeaaaa
end
section
namespace Go.Proofs.Ytlklclebjeeaaaa
open Go.RowKit Go.Proofs.YtlklclebjeeaaaaW.PrintWords Go.Proofs.YtlklclebjeeaaaaW.PrintLast Go.Proofs.YtlklclebjeeaaaaW.PrintMore
set_option linter.unusedVariables false
set_option linter.unusedSimpArgs false

theorem infoF : (Try.prog.info? 34).map (fun i => (i.zero, i.size, i.bytes)) = some (some (.agg #[(.int .i64 0), (.string ⟨#[]⟩), (.int .i64 0), (.slice none 0 0), (.slice none 0 0)]), 5, 80) := by kernel_rfl
/-- A form in new memory, from block B on. -/
def NewF (B : Nat) (w' : World) (x : Fm) (v3 v4 : Value) : Prop := ∃ fp, TrF w' x v3 v4 fp ∧ fp.Nodup ∧ ∀ b, b ∈ fp → B ≤ b
/-- A list of forms in new memory, from block B on. -/
def NewL (B : Nat) (w' : World) (ks : List Fm) (v : Value) : Prop := ∃ inner fp, w'.ownsRow 0 34 5 v ks.length inner ∧ TrL w' ks inner fp ∧ (obs v ++ fp).Nodup ∧ ∀ b, b ∈ obs v ++ fp → B ≤ b
def RetF (w : World) (x : Fm) (e : Ending) (w' : World) : Prop := ∃ v3 v4, e = .returned (.agg #[.int .i64 x.f0, .string x.f1, .int .i64 x.f2, v3, v4]) ∧ NewF w.heap.size w' x v3 v4 ∧ Below w.heap.size w w'
def RetL (w : World) (ks : List Fm) (e : Ending) (w' : World) : Prop := ∃ v, e = .returned v ∧ NewL w.heap.size w' ks v ∧ Below w.heap.size w w'

/-- As the print tells what is the call's own. -/
theorem TrF.R {w : World} {B : Nat} : ∀ (x : Fm) {v3 v4 : Value} {fp : List Nat} {ok : Nat → Prop}, TrF w x v3 v4 fp → fp.Nodup → (∀ b, b ∈ fp → B ≤ b) → (∀ b, b ∈ fp → ok b) → kI.R 3 w B ok v3 x.f3 ∧ kF.R 34 w B (fun k => ok k ∧ some k ≠ v3.ownBlock) v4 x.f4 := by
  intro x
  induction x using Fm.ind with
  | h x ih =>
    intro v3 v4 fp ok h hnd hge hok
    obtain ⟨inner, fk, rfl, h3, h4, hk⟩ := h.open
    obtain ⟨n1, n2, n3⟩ := List.nodup_append.1 hnd
    obtain ⟨n4, n5, n6⟩ := List.nodup_append.1 n2
    refine ⟨Kd.R_of_own (own_base_ h3 (fun b hb => hge b (by simp [obs_mem, hb]))) (fun k hk => hok k (by simp [obs_mem, hk])), fun k hk => ⟨hok k (by simp [obs_mem, hk]), fun he => n3 k (obs_mem.2 he.symm) k (by simp [obs_mem, hk]) rfl⟩, inner, own_base_ h4 (fun b hb => hge b (by simp [obs_mem, hb])), ?_⟩
    have key : ∀ (ks : List Fm), (∀ k, k ∈ ks → k ∈ x.f4) → ∀ {inner : List Value} {fk : List Nat}, TrL w ks inner fk → fk.Nodup → (∀ b, b ∈ fk → B ≤ b) → (∀ b, b ∈ fk → ok b ∧ some b ≠ v3.ownBlock ∧ some b ≠ v4.ownBlock) → Reps (kF.M w B (fun k => (ok k ∧ some k ≠ v3.ownBlock) ∧ some k ≠ v4.ownBlock)) 5 ks inner := by
      intro ks
      induction ks with
      | nil => intro _ inner fk h _ _ _; obtain ⟨rfl, rfl⟩ := h.nil_inv; exact Reps.none _ _
      | cons k ks ih2 =>
        intro hsub inner fk h hnd hge hok
        obtain ⟨u3, u4, rest, f1, f2, rfl, rfl, hk, hs⟩ := h.cons_inv
        obtain ⟨m1, m2, m3⟩ := List.nodup_append.1 hnd
        have hR := ih k (hsub k List.mem_cons_self) (ok := fun k => (ok k ∧ some k ≠ v3.ownBlock) ∧ some k ≠ v4.ownBlock) hk m1 (fun b hb => hge b (List.mem_append_left _ hb)) (fun b hb => ⟨⟨(hok b (List.mem_append_left _ hb)).1, (hok b (List.mem_append_left _ hb)).2.1⟩, (hok b (List.mem_append_left _ hb)).2.2⟩)
        have hr := ih2 (fun k hk => hsub k (List.mem_cons_of_mem _ hk)) hs m2 (fun b hb => hge b (List.mem_append_right _ hb)) (fun b hb => hok b (List.mem_append_right _ hb))
        refine ⟨by rw [List.length_append, hr.1]; simp; omega, fun j p hj => ?_⟩
        cases j with
        | zero =>
          have : k = p := by simpa using hj
          subst this
          simpa using kF_mkM hR.1 (Kd.R_mono hR.2 (fun _ h => h.1))
        | succ j =>
          have h2 := hr.2 j p (by simpa using hj)
          rw [show (j + 1) * 5 = 5 + j * 5 from by omega, ← List.drop_drop]
          simpa using h2
    refine key x.f4 (fun _ h => h) hk n5 (fun b hb => hge b (by simp [hb])) (fun b hb => ⟨hok b (by simp [hb]), fun he => n3 b (obs_mem.2 he.symm) b (by simp [hb]) rfl, fun he => n6 b (obs_mem.2 he.symm) b hb rfl⟩)
abbrev zc : List Value := [.int .i64 0, .string ⟨#[]⟩, .int .i64 0, .slice none 0 0, .slice none 0 0]
theorem zc_raw (w : World) (base : Nat) (ok : Nat → Prop) : (Kd.raw 5).M w base ok zc (Value.agg #[(.int .i64 0), (.string ⟨#[]⟩), (.int .i64 0), (.slice none 0 0), (.slice none 0 0)]).cells.toList := by
  refine ⟨rfl, rfl, fun u hu => ?_⟩
  have hu' : u ∈ zc := hu
  simp only [zc, List.mem_cons, List.not_mem_nil, or_false] at hu'
  rcases hu' with rfl | rfl | rfl | rfl | rfl <;> rfl
theorem reps_flat {sz : Nat} (hs : 0 < sz) : ∀ (rows : List (List Value)) (inner : List Value), Reps (fun x cs => cs = x ∧ cs.length = sz ∧ ∀ u ∈ cs, u.oneCell' = true) sz rows inner → inner = rows.flatten := by
  intro rows
  induction rows with
  | nil => intro inner h; have := h.1; simp at this; simp [this]
  | cons r rows ih =>
    intro inner h
    have h0 := h.2 0 r rfl
    simp only [Nat.zero_mul, List.drop_zero] at h0
    have h1 : Reps (fun x cs => cs = x ∧ cs.length = sz ∧ ∀ u ∈ cs, u.oneCell' = true) sz rows (inner.drop sz) := by
      refine ⟨by rw [List.length_drop, h.1, List.length_cons, Nat.add_mul]; omega, fun j p hj => ?_⟩
      have := h.2 (j + 1) p (by simpa using hj)
      rwa [Nat.add_mul, Nat.one_mul, Nat.add_comm, ← List.drop_drop] at this
    rw [List.flatten_cons, ← ih _ h1, ← h0.1, List.take_append_drop]
/-- What make([]Form, n) leaves. -/
theorem zeros_of {w : World} {base : Nat} {ok : Nat → Prop} {v : Value} {n : Nat} (h : (Kd.raw 5).R 34 w base ok v (List.replicate n zc)) : w.ownsRow 0 34 5 v n (List.replicate n zc).flatten := by
  obtain ⟨_, inner, ho, hr⟩ := h
  rw [reps_flat (by omega) _ _ hr, List.length_replicate] at ho
  exact own_weaken ho (Nat.zero_le _)
def ToForm (x : Fm) : Prop := ∀ (A3 : Option Addr) (c3 : Nat) (A4 : Option Addr) (c4 : Nat) (w : World), FmIn w x A3 c3 A4 c4 → x.tot ≤ 1048576 →
    Calls Try.prog 14 #[.agg #[.int .i64 x.f0, .string x.f1, .int .i64 x.f2, .slice A3 x.f3.length c3, .slice A4 x.f4.length c4]] w (RetF w x)
set_option maxHeartbeats 4000000 in
theorem toFormS_of (ks : List Fm) (hks : ∀ k, k ∈ ks → ToForm k) (A : Option Addr) (c : Nat) (w : World) (hr : kF.C w A ks.length ks) (hc : ks.length ≤ c) (ht : totL ks ≤ 1048576) :
    Calls Try.prog 37 #[.slice A ks.length c] w (RetL w ks) := by
  have hmax := hr.2.1
  have hlen := len_totL ks
  have HK := Lib.hid hks
  clear hks
  go_enter Try.func37, Try.ntmps37
  go_wp2_with (first | ((with_reducible refine gate_dst (N := 7) rfl ?_); refine Kd.R_make (Kd.raw 5) _ 34 rfl (N := 7) rfl 32 _ _ rfl (ks.length : Int) rfl rfl Try.underlying32 (.agg #[(.int .i64 0), (.string ⟨#[]⟩), (.int .i64 0), (.slice none 0 0), (.slice none 0 0)]) 80 infoF rfl (by decide) (by omega) zc (ok := fun _ => True) (okp := fun _ => True) (zc_raw _ _ _) (fun _ hk => hk) trivial (by omega) (by omega) (Below.refl _ _) (Nat.le_refl _) ?_; intro v0 w0 ho0 hb0 hg0 hn0))
  rw [Int.toNat_natCast] at ho0
  have hz := zeros_of ho0
  obtain ⟨bn, hbn1, hbn2⟩ := hn0
  go_loopg [4] ks.length (fun kq v4 w' => ∃ i : Nat, i ≤ ks.length ∧ ks.length - i ≤ kq ∧ v4 = .int .i64 i ∧ Aside0 (∃ inner fp, w'.ownsRow 0 34 5 v0 ks.length (inner ++ (List.replicate (ks.length - i) zc).flatten) ∧ TrL w' (ks.take i) inner fp ∧ (obs v0 ++ fp).Nodup ∧ ∀ b, b ∈ obs v0 ++ fp → w.heap.size ≤ b) ∧ Aside0 (Below w.heap.size w w'))
  case atStart =>
    refine ⟨0, Nat.zero_le _, by omega, rfl, ⟨[], [], by simpa using hz, by simpa using TrL.nil, by simp [obs, hbn1], by simpa [obs, hbn1] using hbn2⟩, ⟨hb0⟩⟩
  case round =>
    obtain ⟨i, hi, hg, rfl, HO, HW⟩ := hrel
    clear ho0 hz hb0 hg0 hbn1 hbn2
    by_cases hlt : i < ks.length
    · obtain ⟨ad, B3, d3, B4, d4, e, g0, g1, g2, g3, g4, hk⟩ := kid_at (Kd.C_below hr HW.out) i hlt
      subst e
      have hkt := totL_mem (List.getElem_mem hlt)
      have HC := Lib.hid (HK.out ks[i] (List.getElem_mem hlt) B3 d3 B4 d4 wr hk (by omega))
      clear hk
      go_wp2_with fail
      refine HC.out.mono ?_
      rintro e w1 ⟨v3, v4, rfl, HN, hb1⟩
      obtain ⟨C3, j3, C4, j4, e3, e4⟩ : ∃ C3 j3 C4 j4, v3 = .slice C3 ks[i].f3.length j3 ∧ v4 = .slice C4 ks[i].f4.length j4 := by
        obtain ⟨fk, hkt2, _⟩ := HN
        obtain ⟨C3, j3, C4, j4, e3, e4, _⟩ := hkt2.In
        exact ⟨C3, j3, C4, j4, e3, e4⟩
      subst e3
      subst e4
      have HO2 := HO.out
      clear HO
      obtain ⟨inner, fp, ho, htr, hnd, hge⟩ := HO2
      rw [show ks.length - i = (ks.length - (i + 1)) + 1 from by omega, List.replicate_succ, List.flatten_cons] at ho
      obtain ⟨g, cap, e, hg0, hg1⟩ := ho.form (by omega)
      subst e
      have ho1 := own_move (w1 := w1) ho (fun k hk => by
        have : g = k := by simpa [Value.ownBlock] using hk
        subst this
        exact hb1.block g hg1)
      have htr1 := htr.later hb1
      have hl := htr.len
      rw [List.length_take, Nat.min_eq_left hi] at hl
      obtain ⟨⟨q0, q1, q2, q3, q4⟩, hfz, hput⟩ := row_put ho1 hl
      have z0 := hfz (i * 5)
      have z1 := hfz (i * 5 + 1)
      have z2 := hfz (i * 5 + 2)
      have z3 := hfz (i * 5 + 3)
      have z4 := hfz (i * 5 + 4)
      have hgw : w.heap.size ≤ g := hge g (by simp [obs, Value.ownBlock])
      have HF : Hid (∃ inner' fp', (set5 w1 g (i * 5) (.int .i64 ks[i].f0) (.string ks[i].f1) (.int .i64 ks[i].f2) (.slice C3 ks[i].f3.length j3) (.slice C4 ks[i].f4.length j4)).ownsRow 0 34 5 (.slice (some ⟨g, 0, none⟩) ks.length cap) ks.length (inner' ++ (List.replicate (ks.length - (i + 1)) zc).flatten) ∧ TrL (set5 w1 g (i * 5) (.int .i64 ks[i].f0) (.string ks[i].f1) (.int .i64 ks[i].f2) (.slice C3 ks[i].f3.length j3) (.slice C4 ks[i].f4.length j4)) (ks.take (i + 1)) inner' fp' ∧ (obs (.slice (some ⟨g, 0, none⟩) ks.length cap) ++ fp').Nodup ∧ ∀ b, b ∈ obs (.slice (some ⟨g, 0, none⟩) ks.length cap) ++ fp' → w.heap.size ≤ b) := by
        obtain ⟨fk, hkt2, hknd, hkge⟩ := HN
        have hold : ∀ b, b ∈ obs (Value.slice (some ⟨g, 0, none⟩) ks.length cap) ++ fp → b < wr.heap.size := by
          intro b hb
          rcases List.mem_append.1 hb with hb | hb
          · have : b = g := by simpa [obs, Value.ownBlock] using hb
            omega
          · exact htr.lt _ b hb
        have hgf : ∀ b, b ∈ fp → b ≠ g := by
          intro b hb he
          subst he
          rw [show obs (Value.slice (some ⟨b, 0, none⟩) ks.length cap) = [b] from rfl] at hnd
          simp [hb] at hnd
        have hgk : ∀ b, b ∈ fk → b ≠ g := by
          intro b hb he
          have := hkge b hb
          omega
        refine ⟨inner ++ [.int .i64 ks[i].f0, .string ks[i].f1, .int .i64 ks[i].f2, .slice C3 ks[i].f3.length j3, .slice C4 ks[i].f4.length j4], fp ++ fk, ?_, ?_, ?_, ?_⟩
        · rw [List.append_assoc]
          exact hput _ _ _ _ _
        · rw [List.take_succ_eq_append_getElem hlt]
          exact (htr1.move _ (fun b hb => set5_far _ _ _ _ _ _ _ _ b (hgf b hb))).append (TrL.one (hkt2.move _ (fun b hb => set5_far _ _ _ _ _ _ _ _ b (hgk b hb))))
        · rw [← List.append_assoc, List.nodup_append]
          refine ⟨hnd, hknd, fun a ha b hb he => ?_⟩
          have h1 := hold a ha
          have h2 := hkge b hb
          omega
        · intro b hb
          rw [← List.append_assoc] at hb
          rcases List.mem_append.1 hb with hb | hb
          · exact hge b hb
          · have h2 := hkge b hb
            have := HW.out.size
            omega
      have HB := Lib.hid (set5_below (below_step HW.out hb1) hgw (i * 5) (.int .i64 ks[i].f0) (.string ks[i].f1) (.int .i64 ks[i].f2) (.slice C3 ks[i].f3.length j3) (.slice C4 ks[i].f4.length j4))
      clear HN ho ho1 htr htr1 hnd hge hl hfz hput hgw hg0 hg1
      go_wp2_with fail
      go_roundg (ks.length - (i + 1))
      case measure => omega
      case rel => exact ⟨i + 1, by omega, Nat.le_refl _, by go_num, ⟨HF.out⟩, ⟨HB.out⟩⟩
    · obtain rfl : i = ks.length := by omega
      have HF : Hid (NewL w.heap.size wr ks v0) := by
        obtain ⟨inner, fp, ho, htr, hnd, hge⟩ := HO.out
        rw [Nat.sub_self] at ho
        rw [List.take_length] at htr
        exact ⟨inner, fp, by simpa using ho, htr, hnd, hge⟩
      clear HO
      go_wp2_with fail
      go_ret
      exact ⟨_, rfl, HF.out, HW.out⟩
set_option maxHeartbeats 4000000 in
theorem toForm_any (x : Fm) : ToForm x := by
  induction x using Fm.ind with
  | h x ih =>
    intro A3 c3 A4 c4 w hin ht
    have hs := Fm.tot_eq x
    have hs3 : x.f3.length ≤ 1048576 := by omega
    have hs4 : totL x.f4 ≤ 1048576 := by omega
    clear hs ht
    have H3 := Lib.hid (fun W hb => toIntS_any x.f3 A3 c3 W (Kd.C_below hin.g3 hb) hin.l3 (by omega))
    have H4 := Lib.hid (fun W hb => toFormS_of x.f4 ih A4 c4 W (Kd.C_below hin.g4 hb) hin.l4 hs4)
    clear ih hin
    go_enter Try.func14, Try.ntmps14
    go_wp2_with fail
    refine (H3.out _ (below_step (below_step (below_new _ _) (below_new _ _)) (below_new _ _))).mono ?_
    rintro e w1 ⟨v3, rfl, hR3, hb1⟩
    obtain ⟨k0, k1, k2, b1⟩ := three_new hb1
    clear hb1
    obtain ⟨p0, p1, p2, p3, p4⟩ := fm_cells k0
    obtain ⟨q0, q1, q2, q3, q4⟩ := fm_cells k2
    obtain ⟨f0, f1, f2, f3, f4⟩ := fm_free k2
    obtain ⟨D3, e3, r3, _, _⟩ := Kd.R_reads hR3
    subst r3
    go_wp2_with fail
    have bw := below_set b1 (show w.heap.size ≤ w.heap.size + 1 + 1 by omega) (j := 3) (v := .slice D3 x.f3.length e3)
    refine (H4.out _ bw).mono ?_
    rintro e w2 ⟨v4, rfl, HL, hb2⟩
    have m2 := blk_below (by simpa using blk_set k2 3 (.slice D3 x.f3.length e3)) hb2
    have m1 := blk_below (blk_far k1 (p := ⟨w.heap.size + 1 + 1, 3, none⟩) (by simp) (.slice D3 x.f3.length e3)) hb2
    have b2 := below_step bw hb2
    obtain ⟨s0, s1, s2, s3, s4⟩ := fm_cells m2
    obtain ⟨t0, t1, t2, t3, t4⟩ := fm_free m2
    obtain ⟨u0, u1, u2, u3, u4⟩ := fm_cells m1
    obtain ⟨y0, y1, y2, y3, y4⟩ := fm_free m1
    have h3b := Kd.R_base hR3
    have h3l := Kd.R_lt hR3
    have h3o := Kd.own_of_R hR3
    obtain ⟨inner, fp, h4o, htl, hnd, hge⟩ := HL
    obtain ⟨D4, e4, hd4, _, _⟩ := htl.C h4o
    subst hd4
    have hwsz : ((((w.alloc (.cells #[.int .i64 x.f0, .string x.f1, .int .i64 x.f2, .slice A3 x.f3.length c3, .slice A4 x.f4.length c4] 26)).alloc (.cells #[.int .i64 0, .string ⟨#[]⟩, .int .i64 0, .slice none 0 0, .slice none 0 0] 34)).alloc (.cells #[.int .i64 x.f0, .string x.f1, .int .i64 x.f2, .slice none 0 0, .slice none 0 0] 34)) : World).heap.size = w.heap.size + 3 := by simp
    have HF : Hid (∀ W, (∀ b, b ≠ w.heap.size + 1 → b ≠ w.heap.size + 1 + 1 → W.heap[b]? = w2.heap[b]?) → NewF w.heap.size W x (.slice D3 x.f3.length e3) (.slice D4 x.f4.length e4)) := by
      intro W hW
      have hsz1 := k2
      have hlt1 : w.heap.size + 1 + 1 < w1.heap.size := blk_lt k2
      have hge2 : ∀ b, b ∈ obs (.slice D4 x.f4.length e4) ++ fp → w1.heap.size ≤ b := by
        intro b hb
        have := hge b hb
        simpa using this
      have hge3 : ∀ b, b ∈ obs (.slice D3 x.f3.length e3) → w.heap.size + 1 + 1 < b ∧ b < w1.heap.size := by
        intro b hb
        have e := obs_mem.1 hb
        have h1 := h3b b e
        have h2 := h3l b e
        simp at h1
        omega
      refine ⟨_, .mk x _ _ inner fp ?_ ?_ ?_, ?_, ?_⟩
      · refine own_move (own_weaken h3o (Nat.zero_le _)) (fun k hk => ?_)
        have hk2 := hge3 k (obs_mem.2 hk)
        rw [hW k (by omega) (by omega), hb2.block k (by simp; omega), Below.heap_setCell _ _ _ _ (by simp; omega)]
      · refine own_move h4o (fun k hk => ?_)
        have hk2 := hge2 k (List.mem_append_left _ (obs_mem.2 hk))
        exact hW k (by omega) (by omega)
      · refine htl.move _ (fun k hk => ?_)
        have hk2 := hge2 k (List.mem_append_right _ hk)
        exact hW k (by omega) (by omega)
      · rw [List.nodup_append]
        refine ⟨?_, hnd, fun a ha b hb he => ?_⟩
        · unfold obs
          cases (Value.slice D3 x.f3.length e3).ownBlock <;> simp
        · have h1 := hge3 a ha
          have h2 := hge2 b hb
          omega
      · intro b hb
        rcases List.mem_append.1 hb with hb | hb
        · have := hge3 b hb
          omega
        · have := hge2 b hb
          omega
    clear h3b h3l h3o h4o htl hnd hge hwsz hR3 k0 k1 k2 m1 m2 hb2 bw H3 H4
    go_wp2_with fail
    refine bodyPost_ret (v := .agg #[.int .i64 x.f0, .string x.f1, .int .i64 x.f2, .slice D3 x.f3.length e3, .slice D4 x.f4.length e4]) (by simp [results, Try.results14, go_sem, u0, u1, u2, u3, u4]) rfl ⟨_, _, rfl, HF.out _ (fun b hb1 hb2 => ?_), ?_⟩
    · rw [Below.heap_setCell _ _ _ b hb1, Below.heap_setCell _ _ _ b hb1, Below.heap_setCell _ _ _ b hb1, Below.heap_setCell _ _ _ b hb1, Below.heap_setCell _ _ _ b hb1, Below.heap_setCell _ _ _ b hb2]
    · repeat (refine below_set ?_ (by omega))
      exact b2
end Go.Proofs.Ytlklclebjeeaaaa
end
section
namespace Go.Proofs.Ytlklclebjeeaaaa
open Go.RowKit Go.Proofs.YtlklclebjeeaaaaW.PrintWords Go.Proofs.YtlklclebjeeaaaaW.PrintLast Go.Proofs.YtlklclebjeeaaaaW.PrintMore
set_option linter.unusedVariables false
set_option linter.unusedSimpArgs false

noncomputable def eqB {α : Type} (x y : α) : Bool := @decide (x = y) (Classical.propDecidable _)
theorem eqB_iff {α : Type} {x y : α} : eqB x y = true ↔ x = y := by unfold eqB; exact @decide_eq_true_iff _ (Classical.propDecidable _)
theorem eqB_self {α : Type} (x : α) : eqB x x = true := eqB_iff.2 rfl
theorem eqB_no {α : Type} {x y : α} (h : x ≠ y) : false = eqB x y := by
  cases hb : eqB x y with
  | true => exact absurd (eqB_iff.1 hb) h
  | false => rfl
theorem eqB_yes {α : Type} {x y : α} (h : x = y) : true = eqB x y := (eqB_iff.2 h).symm
theorem toList_inj {a b : ByteArray} (h : a.toList = b.toList) : a = b := by
  have e : ∀ s : ByteArray, s.toList = s.data.toList := fun s => by rw [ByteArray.toList_eq]
  rw [e, e] at h
  cases a; cases b
  simp only at h
  rw [Array.toList_inj.1 h]
theorem Fm.ext' {x y : Fm} (h1 : x.f0 = y.f0) (h2 : x.f1 = y.f1) (h3 : x.f2 = y.f2) (h4 : x.f3 = y.f3) (h5 : x.f4 = y.f4) : x = y := by
  cases x; cases y; simp_all
def EqForm (x : Fm) : Prop := ∀ (y : Fm) (A3 : Option Addr) (c3 : Nat) (A4 : Option Addr) (c4 : Nat) (B3 : Option Addr) (d3 : Nat) (B4 : Option Addr) (d4 : Nat) (w : World), FmIn w x A3 c3 A4 c4 → FmIn w y B3 d3 B4 d4 →
    Calls Try.prog 18 #[.agg #[.int .i64 x.f0, .string x.f1, .int .i64 x.f2, .slice A3 x.f3.length c3, .slice A4 x.f4.length c4], .agg #[.int .i64 y.f0, .string y.f1, .int .i64 y.f2, .slice B3 y.f3.length d3, .slice B4 y.f4.length d4]] w (Ret w (.bool (eqB x y)))
set_option maxHeartbeats 4000000 in
set_option maxRecDepth 100000 in
theorem eqFormS_of (ks ls : List Fm) (hks : ∀ k, k ∈ ks → EqForm k) (A B : Option Addr) (c d : Nat) (w : World) (hr : kF.C w A ks.length ks) (hc : ks.length ≤ c) (hr2 : kF.C w B ls.length ls) (hc2 : ls.length ≤ d) :
    Calls Try.prog 39 #[.slice A ks.length c, .slice B ls.length d] w (Ret w (.bool (eqB ks ls))) := by
  have hmax := hr.2.1
  by_cases hl : ks.length = ls.length
  · have hl1 : ((ks.length : Int) == (ls.length : Int)) = true := by simp [hl]
    have hl2 : ((ks.length : Int) != (ls.length : Int)) = false := by simp [hl]
    have hl3 : (ks.length == ls.length) = true := by simp [hl]
    have hl4 : (ks.length != ls.length) = false := by simp [hl]
    have HL := Lib.hid hl
    have HK := Lib.hid hks
    clear hl hks
    go_enter Try.func39, Try.ntmps39
    go_wp2_with fail
    go_loopg [5] ks.length (fun kq v5 w' => ∃ i : Nat, i ≤ ks.length ∧ ks.length - i ≤ kq ∧ v5 = .int .i64 i ∧ Aside0 (∀ j (h : j < ks.length) (h2 : j < ls.length), j < i → ks[j] = ls[j]) ∧ Aside0 (Below w.heap.size w w'))
    case atStart => exact ⟨0, Nat.zero_le _, by omega, rfl, ⟨fun j _ _ h => absurd h (by omega)⟩, ⟨Below.refl _ _⟩⟩
    case round =>
      obtain ⟨i, hi, hg, rfl, HN, HW⟩ := hrel
      by_cases hlt : i < ks.length
      · have hlt2 : i < ls.length := by have := HL.out; omega
        obtain ⟨ad, B3, d3, B4, d4, e, g0, g1, g2, g3, g4, hk⟩ := kid_at (Kd.C_below hr HW.out) i hlt
        subst e
        obtain ⟨ad2, E3, f3, E4, f4, e2, h0, h1, h2, h3, h4, hk2⟩ := kid_at (Kd.C_below hr2 HW.out) i hlt2
        subst e2
        have HC := Lib.hid (fun W (hb : Below wr.heap.size wr W) => HK.out ks[i] (List.getElem_mem hlt) ls[i] B3 d3 B4 d4 E3 f3 E4 f4 W (hk.below hb) (hk2.below hb))
        clear hk hk2
        have p1 : (0 : Int) ≤ (i : Int) := by omega
        have p2 : (i : Int) < (ks.length : Int) := by omega
        have p3 : (i : Int) < (ls.length : Int) := by omega
        go_wp2_with fail
        go_region_held3 (fun w' => w'.cell? (ad.add (i * 5)) = some (.int .i64 ks[i].f0) ∧ w'.cell? ⟨(ad.add (i * 5)).block, (ad.add (i * 5)).off + 1, none⟩ = some (.string ks[i].f1) ∧ w'.cell? ⟨(ad.add (i * 5)).block, (ad.add (i * 5)).off + 2, none⟩ = some (.int .i64 ks[i].f2) ∧ w'.cell? ⟨(ad.add (i * 5)).block, (ad.add (i * 5)).off + 3, none⟩ = some (.slice B3 ks[i].f3.length d3) ∧ w'.cell? ⟨(ad.add (i * 5)).block, (ad.add (i * 5)).off + 4, none⟩ = some (.slice B4 ks[i].f4.length d4) ∧ w'.cell? (ad2.add (i * 5)) = some (.int .i64 ls[i].f0) ∧ w'.cell? ⟨(ad2.add (i * 5)).block, (ad2.add (i * 5)).off + 1, none⟩ = some (.string ls[i].f1) ∧ w'.cell? ⟨(ad2.add (i * 5)).block, (ad2.add (i * 5)).off + 2, none⟩ = some (.int .i64 ls[i].f2) ∧ w'.cell? ⟨(ad2.add (i * 5)).block, (ad2.add (i * 5)).off + 3, none⟩ = some (.slice E3 ls[i].f3.length f3) ∧ w'.cell? ⟨(ad2.add (i * 5)).block, (ad2.add (i * 5)).off + 4, none⟩ = some (.slice E4 ls[i].f4.length f4)) (first | go_keep | exact ⟨ck hb1 g0, ck hb1 g1, ck hb1 g2, ck hb1 g3, ck hb1 g4, ck hb1 h0, ck hb1 h1, ck hb1 h2, ck hb1 h3, ck hb1 h4⟩) ((go_at_call 18; refine (HC.out _ (Below.refl _ _).drew).mono ?_; rintro e w1 ⟨rfl, hb1⟩))
        cases he : eqB ks[i] ls[i] with
        | true =>
          have HE := Lib.hid (eqB_iff.1 he)
          clear he
          go_wp2_with fail
          go_roundg (ks.length - (i + 1))
          case measure => omega
          case rel =>
            refine ⟨i + 1, by omega, Nat.le_refl _, by go_num, ⟨fun j hj hj2 hji => ?_⟩, ⟨below_step HW.out (below_step (Below.refl _ _).drew hb1)⟩⟩
            rcases Nat.lt_or_ge j i with h | h
            · exact HN.out j hj hj2 h
            · obtain rfl : j = i := by omega
              exact HE.out
        | false =>
          have HE := Lib.hid he
          clear he
          go_wp2_with fail
          go_ret
          refine ⟨ret_b (eqB_no (fun h => ?_)), below_step HW.out (below_step (Below.refl _ _).drew hb1)⟩
          have := HE.out
          subst h
          rw [eqB_self] at this
          cases this
      · obtain rfl : i = ks.length := by omega
        go_wp2_with fail
        go_ret
        exact ⟨ret_b (eqB_yes (List.ext_getElem HL.out (fun j hj hj2 => HN.out j hj hj2 hj))), HW.out⟩
  · have hl2 : ((ks.length : Int) != (ls.length : Int)) = true := by simp; omega
    have hl4 : (ks.length != ls.length) = true := by simp [hl]
    have hl1 : ((ks.length : Int) == (ls.length : Int)) = false := by rw [beq_eq_false_iff_ne]; omega
    have hl3 : (ks.length == ls.length) = false := by rw [beq_eq_false_iff_ne]; omega
    have HL := Lib.hid hl
    clear hl
    go_enter Try.func39, Try.ntmps39
    go_wp2_with fail
    go_ret
    exact ⟨ret_b (eqB_no (fun h => HL.out (by rw [h]))), Below.refl _ _⟩
set_option maxHeartbeats 4000000 in
theorem eqForm_any (x : Fm) : EqForm x := by
  induction x using Fm.ind with
  | h x ih =>
    intro y A3 c3 A4 c4 B3 d3 B4 d4 w hx hy
    have HX := Lib.hid (fun (h1 : x.f0 = y.f0) (h2 : x.f1 = y.f1) (h3 : x.f2 = y.f2) (h4 : x.f3 = y.f3) (h5 : x.f4 = y.f4) => Fm.ext' h1 h2 h3 h4 h5)
    have hb1 := below_new w (.cells #[.int .i64 x.f0, .string x.f1, .int .i64 x.f2, .slice A3 x.f3.length c3, .slice A4 x.f4.length c4] 34)
    have hb2 := below_step hb1 (below_new _ (.cells #[.int .i64 y.f0, .string y.f1, .int .i64 y.f2, .slice B3 y.f3.length d3, .slice B4 y.f4.length d4] 34))
    have HB := Lib.hid hb2
    by_cases e1 : x.f0 = y.f0
    · have t1 : (x.f0 == y.f0) = true := by simpa using e1
      have t1' : (x.f0 != y.f0) = false := by simpa using e1
      have E1 := Lib.hid e1
      clear e1
      by_cases e2 : x.f1 = y.f1
      · have t2 : (x.f1.toList == y.f1.toList) = true := by rw [e2]; simp
        have t2' : (x.f1.toList != y.f1.toList) = false := by rw [e2]; simp
        have E2 := Lib.hid e2
        clear e2
        by_cases e3 : x.f2 = y.f2
        · have t3 : (x.f2 == y.f2) = true := by simpa using e3
          have t3' : (x.f2 != y.f2) = false := by simpa using e3
          have E3 := Lib.hid e3
          clear e3
          have HC := Lib.hid (eqIntS_any x.f3 y.f3 A3 B3 c3 d3 _ (Kd.C_below hx.g3 hb2) hx.l3 (Kd.C_below hy.g3 hb2) hy.l3)
          have HK := Lib.hid (fun W hb => eqFormS_of x.f4 y.f4 ih A4 B4 c4 d4 W (Kd.C_below hx.g4 hb) hx.l4 (Kd.C_below hy.g4 hb) hy.l4)
          clear ih hx hy hb1 hb2
          go_enter Try.func18, Try.ntmps18
          go_wp2_with fail
          refine HC.out.mono ?_
          rintro e w1 ⟨rfl, k1⟩
          have hz := blk_below (blk_below (blk_new w (.cells #[.int .i64 x.f0, .string x.f1, .int .i64 x.f2, .slice A3 x.f3.length c3, .slice A4 x.f4.length c4] 34)) (below_new _ _)) k1
          have hz2 := blk_below (blk_new (w.alloc (.cells #[.int .i64 x.f0, .string x.f1, .int .i64 x.f2, .slice A3 x.f3.length c3, .slice A4 x.f4.length c4] 34)) (.cells #[.int .i64 y.f0, .string y.f1, .int .i64 y.f2, .slice B3 y.f3.length d3, .slice B4 y.f4.length d4] 34)) k1
          rw [show (w.alloc (.cells #[.int .i64 x.f0, .string x.f1, .int .i64 x.f2, .slice A3 x.f3.length c3, .slice A4 x.f4.length c4] 34)).heap.size = w.heap.size + 1 from by simp] at hz2
          obtain ⟨_, _, _, _, q4⟩ := fm_cells hz
          obtain ⟨_, _, _, _, r4⟩ := fm_cells hz2
          have K1 := Lib.hid (below_step HB.out k1)
          clear hz hz2 k1
          by_cases e4 : x.f3 = y.f3
          · have E4 := Lib.hid e4
            rw [decide_eq_true e4]
            clear e4
            go_wp2_with fail
            refine (HK.out _ K1.out).mono ?_
            rintro e w2 ⟨rfl, k2⟩
            cases e5 : eqB x.f4 y.f4 with
            | true =>
              have E5 := Lib.hid (eqB_iff.1 e5)
              clear e5
              go_wp2_with fail
              go_ret
              exact ⟨ret_b (eqB_yes (HX.out E1.out E2.out E3.out E4.out E5.out)), below_step K1.out k2⟩
            | false =>
              have E5 := Lib.hid e5
              clear e5
              go_wp2_with fail
              go_ret
              refine ⟨ret_b (eqB_no (fun h => ?_)), below_step K1.out k2⟩
              have := E5.out
              rw [h, eqB_self] at this
              cases this
          · have E4 := Lib.hid e4
            rw [decide_eq_false e4]
            clear e4
            go_wp2_with fail
            go_ret
            exact ⟨ret_b (eqB_no (fun h => E4.out (by rw [h]))), K1.out⟩
        · have t3 : (x.f2 == y.f2) = false := by simpa using e3
          have t3' : (x.f2 != y.f2) = true := by simpa using e3
          have E3 := Lib.hid e3
          clear e3 ih hx hy hb1 hb2
          go_enter Try.func18, Try.ntmps18
          go_wp2_with fail
          go_ret
          exact ⟨ret_b (eqB_no (fun h => E3.out (by rw [h]))), HB.out⟩
      · have t2 : (x.f1.toList == y.f1.toList) = false := by rw [beq_eq_false_iff_ne]; exact fun h => e2 (toList_inj h)
        have t2' : (x.f1.toList != y.f1.toList) = true := by rw [bne_iff_ne]; exact fun h => e2 (toList_inj h)
        have E2 := Lib.hid e2
        clear e2 ih hx hy hb1 hb2
        go_enter Try.func18, Try.ntmps18
        go_wp2_with fail
        go_ret
        exact ⟨ret_b (eqB_no (fun h => E2.out (by rw [h]))), HB.out⟩
    · have t1 : (x.f0 == y.f0) = false := by simpa using e1
      have t1' : (x.f0 != y.f0) = true := by simpa using e1
      have E1 := Lib.hid e1
      clear e1 ih hx hy hb1 hb2
      go_enter Try.func18, Try.ntmps18
      go_wp2_with fail
      go_ret
      exact ⟨ret_b (eqB_no (fun h => E1.out (by rw [h]))), HB.out⟩
end Go.Proofs.Ytlklclebjeeaaaa
end
section
namespace Go.Proofs.Ytlklclebjeeaaaa
open Go.RowKit Go.Proofs.YtlklclebjeeaaaaW.PrintWords Go.Proofs.YtlklclebjeeaaaaW.PrintLast Go.Proofs.YtlklclebjeeaaaaW.PrintMore
set_option linter.unusedVariables false
set_option linter.unusedSimpArgs false
def zHt : Ht := ⟨zFm, 0, zFm, []⟩
theorem Ht.ind {P : Ht → Prop} (h : ∀ x : Ht, (∀ k, k ∈ x.f3 → P k) → P x) (x : Ht) : P x := by
  have key : ∀ n (x : Ht), SizeOf.sizeOf x < n → P x := by
    intro n
    induction n with
    | zero => intro x hx; omega
    | succ n ih =>
      intro x hx
      refine h x (fun k hk => ih k ?_)
      have h1 := List.sizeOf_lt_of_mem hk
      cases x with
      | mk a b c d =>
        simp only [Ht.mk.sizeOf_spec] at hx
        simp only at h1
        omega
  exact key _ x (Nat.lt_succ_self _)
mutual
def Ht.tot : Ht → Nat
  | ⟨n, _, o, ks⟩ => n.tot + o.tot + totH ks
def totH : List Ht → Nat
  | [] => 0
  | k :: ks => 1 + k.tot + totH ks
end
theorem Ht.tot_eq (x : Ht) : x.tot = x.f0.tot + x.f2.tot + totH x.f3 := by cases x; simp only [Ht.tot]
abbrev kH : Kd Ht := Q.k80
/-- What the twelve cells of a hit lead to. -/
structure HtIn (w : World) (x : Ht) (A3 : Option Addr) (c3 : Nat) (A4 : Option Addr) (c4 : Nat) (A9 : Option Addr) (c9 : Nat) (A10 : Option Addr) (c10 : Nat) (A11 : Option Addr) (c11 : Nat) : Prop where
  n : FmIn w x.f0 A3 c3 A4 c4
  o : FmIn w x.f2 A9 c9 A10 c10
  lm : x.f3.length ≤ c11
  gm : kH.C w A11 x.f3.length x.f3
theorem HtIn.below {w w1 : World} {x : Ht} {A3 A4 A9 A10 A11 : Option Addr} {c3 c4 c9 c10 c11 : Nat} (h : HtIn w x A3 c3 A4 c4 A9 c9 A10 c10 A11 c11) (hb : Below w.heap.size w w1) : HtIn w1 x A3 c3 A4 c4 A9 c9 A10 c10 A11 c11 :=
  ⟨h.n.below hb, h.o.below hb, h.lm, Kd.C_below h.gm hb⟩
@[reducible] def htC (x : Ht) (A3 : Option Addr) (c3 : Nat) (A4 : Option Addr) (c4 : Nat) (A9 : Option Addr) (c9 : Nat) (A10 : Option Addr) (c10 : Nat) (A11 : Option Addr) (c11 : Nat) : List Value :=
  [.int .i64 x.f0.f0, .string x.f0.f1, .int .i64 x.f0.f2, .slice A3 x.f0.f3.length c3, .slice A4 x.f0.f4.length c4, .int .i64 x.f1, .int .i64 x.f2.f0, .string x.f2.f1, .int .i64 x.f2.f2, .slice A9 x.f2.f3.length c9, .slice A10 x.f2.f4.length c10, .slice A11 x.f3.length c11]
end Go.Proofs.Ytlklclebjeeaaaa
end
section
namespace Go.Proofs.Ytlklclebjeeaaaa
open Go.RowKit Go.Proofs.YtlklclebjeeaaaaW.PrintWords Go.Proofs.YtlklclebjeeaaaaW.PrintLast Go.Proofs.YtlklclebjeeaaaaW.PrintMore
set_option linter.unusedVariables false
set_option linter.unusedSimpArgs false
inductive HtSmall : Ht → Prop
  | mk (x : Ht) (h : NmSmall x.f0) (h2 : NmSmall x.f2) (hk : ∀ k, k ∈ x.f3 → HtSmall k) : HtSmall x
theorem HtSmall.n {x : Ht} (h : HtSmall x) : NmSmall x.f0 := by cases h; assumption
theorem HtSmall.o {x : Ht} (h : HtSmall x) : NmSmall x.f2 := by cases h; assumption
theorem HtSmall.kid {x : Ht} (h : HtSmall x) : ∀ k, k ∈ x.f3 → HtSmall k := by cases h; assumption
def SzHit (x : Ht) : Prop := ∀ (A3 : Option Addr) (Ac3 : Nat) (A4 : Option Addr) (Ac4 : Nat) (A9 : Option Addr) (Ac9 : Nat) (A10 : Option Addr) (Ac10 : Nat) (A11 : Option Addr) (Ac11 : Nat) (L : Int) (w : World), HtIn w x A3 Ac3 A4 Ac4 A9 Ac9 A10 Ac10 A11 Ac11 → HtSmall x → 0 ≤ L → L ≤ 1048576 →
    Calls Try.prog 62 #[.agg #[.int .i64 x.f0.f0, .string x.f0.f1, .int .i64 x.f0.f2, .slice A3 x.f0.f3.length Ac3, .slice A4 x.f0.f4.length Ac4, .int .i64 x.f1, .int .i64 x.f2.f0, .string x.f2.f1, .int .i64 x.f2.f2, .slice A9 x.f2.f3.length Ac9, .slice A10 x.f2.f4.length Ac10, .slice A11 x.f3.length Ac11], .int .i64 L] w (Ret w (.int .i64 (szR L x.tot)))
end Go.Proofs.Ytlklclebjeeaaaa
end
