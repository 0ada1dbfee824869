/- Forms as plain data, and how a form reads in memory (the print's kinds, by our own names). -/
import Derived.Test.YtlghpblifbaciaaF0
import Derived.Test.YtlghpblifbaciaaQ0
import Derived.Test.YtlghpblifbaciaaWMore
import Derived.Test.YtlghpblifbaciaaWTab
import Derived.Test.YtlghpblifbaciaaWShare
namespace Go.Proofs.Ytlghpblifbaciaa
open Go.RowKit Go.Proofs.YtlghpblifbaciaaW.PrintWords Go.Proofs.YtlghpblifbaciaaW.PrintLast Go.Proofs.YtlghpblifbaciaaW.PrintMore
set_option linter.unusedVariables false

def zFm : Fm := ⟨0, ⟨#[]⟩, 0, [], []⟩
theorem Fm.ind {P : Fm → Prop} (h : ∀ x : Fm, (∀ k, k ∈ x.f4 → P k) → P x) (x : Fm) : P x := by
  have key : ∀ n (x : Fm), SizeOf.sizeOf x < n → P x := by
    intro n
    induction n with
    | zero => intro x hx; omega
    | succ n ih =>
      intro x hx
      refine h x (fun k hk => ih k ?_)
      have h1 := List.sizeOf_lt_of_mem hk
      cases x with
      | mk a b c d e =>
        simp only [Fm.mk.sizeOf_spec] at hx
        simp only at h1
        omega
  exact key _ x (Nat.lt_succ_self _)

/-! The kind: the one of the printed texts. -/
abbrev kF : Kd Fm := Q.k31
abbrev kI : Kd Int := Kd.int .i64

/-- What the five cells of a form lead to: x reads in w. -/
structure FmIn (w : World) (x : Fm) (A3 : Option Addr) (c3 : Nat) (A4 : Option Addr) (c4 : Nat) : Prop where
  l3 : x.f3.length ≤ c3
  g3 : kI.C w A3 x.f3.length x.f3
  l4 : x.f4.length ≤ c4
  g4 : kF.C w A4 x.f4.length x.f4
@[reducible] def fmC (x : Fm) (A3 : Option Addr) (c3 : Nat) (A4 : Option Addr) (c4 : Nat) : List Value :=
  [.int .i64 x.f0, .string x.f1, .int .i64 x.f2, .slice A3 x.f3.length c3, .slice A4 x.f4.length c4]

theorem kF_open {w : World} {x : Fm} {cs : List Value} (h : kF.K w x cs) : ∃ A3 c3 A4 c4, cs = fmC x A3 c3 A4 c4 ∧ FmIn w x A3 c3 A4 c4 := by
  obtain ⟨A3, c3, A4, c4, e, l3, g3, l4, g4⟩ := Q.k31_open h
  exact ⟨A3, c3, A4, c4, e, l3, g3, l4, g4⟩
theorem kF_mk {w : World} {x : Fm} {A3 : Option Addr} {c3 : Nat} {A4 : Option Addr} {c4 : Nat} (h : FmIn w x A3 c3 A4 c4) : kF.K w x (fmC x A3 c3 A4 c4) := Q.k31_mk w x h.l3 h.g3 h.l4 h.g4
theorem kF_openM {w : World} {base : Nat} {ok : Nat → Prop} {x : Fm} {cs : List Value} (h : kF.M w base ok x cs) : ∃ v3 v4, cs = [.int .i64 x.f0, .string x.f1, .int .i64 x.f2, v3, v4] ∧ kI.R 3 w base ok v3 x.f3 ∧ kF.R 31 w base ok v4 x.f4 := Q.k31_openM h
theorem kF_mkM {w : World} {base : Nat} {ok : Nat → Prop} {x : Fm} {v3 : Value} (g3 : kI.R 3 w base ok v3 x.f3) {v4 : Value} (g4 : kF.R 31 w base ok v4 x.f4) : kF.M w base ok x [.int .i64 x.f0, .string x.f1, .int .i64 x.f2, v3, v4] := Q.k31_mkM w base ok x g3 g4
theorem FmIn.below {w w1 : World} {x : Fm} {A3 : Option Addr} {c3 : Nat} {A4 : Option Addr} {c4 : Nat} (h : FmIn w x A3 c3 A4 c4) (hb : Below w.heap.size w w1) : FmIn w1 x A3 c3 A4 c4 :=
  ⟨h.l3, Kd.C_below h.g3 hb, h.l4, Kd.C_below h.g4 hb⟩
/-- The kid at place i: its cells, and what they lead to. -/
theorem kid_at {w : World} {A : Option Addr} {n : Nat} {xs : List Fm} (h : kF.C w A n xs) (i : Nat) (h1 : i < xs.length) : ∃ ad A3 c3 A4 c4, A = some ad ∧ w.cell? (ad.add (i * 5)) = some (.int .i64 xs[i].f0) ∧ w.cell? ⟨(ad.add (i * 5)).block, (ad.add (i * 5)).off + 1, none⟩ = some (.string xs[i].f1) ∧ w.cell? ⟨(ad.add (i * 5)).block, (ad.add (i * 5)).off + 2, none⟩ = some (.int .i64 xs[i].f2) ∧ w.cell? ⟨(ad.add (i * 5)).block, (ad.add (i * 5)).off + 3, none⟩ = some (.slice A3 xs[i].f3.length c3) ∧ w.cell? ⟨(ad.add (i * 5)).block, (ad.add (i * 5)).off + 4, none⟩ = some (.slice A4 xs[i].f4.length c4) ∧ FmIn w xs[i] A3 c3 A4 c4 := by
  have hn := h.1
  obtain ⟨ad, c, e, _, hK, hc0⟩ := Kd.C_get h zFm (i : Int) (by omega) (by omega)
  rw [Int.toNat_natCast] at hK hc0
  rw [show xs.getD i zFm = xs[i] from by rw [List.getD_eq_getElem?_getD, List.getElem?_eq_getElem h1]; rfl] at hK
  have hc : ∀ j u, c[j]? = some u → w.cell? (ad.add (i * 5 + j)) = some u := hc0
  obtain ⟨A3, c3, A4, c4, rfl, hin⟩ := kF_open hK
  exact ⟨ad, A3, c3, A4, c4, e, hc 0 _ rfl, by rw [← add_field _ _ 1 (by omega)]; exact hc 1 _ rfl, by rw [← add_field _ _ 2 (by omega)]; exact hc 2 _ rfl, by rw [← add_field _ _ 3 (by omega)]; exact hc 3 _ rfl, by rw [← add_field _ _ 4 (by omega)]; exact hc 4 _ rfl, hin⟩
/-- The number at place i. -/
theorem int_at {w : World} {A : Option Addr} {n : Nat} {xs : List Int} (h : kI.C w A n xs) (i : Nat) (h1 : i < xs.length) : ∃ ad, A = some ad ∧ w.cell? (ad.add i) = some (.int .i64 xs[i]) := by
  have hn := h.1
  obtain ⟨ad, e, hx⟩ := Kd.at_int h (i : Int) (by omega) (by omega)
  rw [Int.toNat_natCast] at hx
  refine ⟨ad, e, ?_⟩
  rw [hx]
  simp [rd, h1]

theorem fill_step {α : Type} (xs : List α) (z : α) (i : Nat) (h : i < xs.length) : (xs.take i ++ List.replicate (xs.length - i) z).set i xs[i] = xs.take (i + 1) ++ List.replicate (xs.length - (i + 1)) z := by
  have e : i - (xs.take i).length = 0 := by simp; omega
  rw [show xs.length - i = (xs.length - (i + 1)) + 1 from by omega, List.replicate_succ, List.take_succ_eq_append_getElem h, List.set_append, if_neg (by simp; omega), e, List.set_cons_zero, List.append_assoc]
  rfl
theorem fill_len {α : Type} (xs : List α) (z : α) (i : Nat) (h : i ≤ xs.length) : (xs.take i ++ List.replicate (xs.length - i) z).length = xs.length := by
  simp; omega
/-- A row of plain elements that is the call's own: element i, and what a store leaves. -/
theorem own_at {α : Type} {enc : α → Value} {h1 : ∀ x : α, (enc x).oneCell' = true} {e : Nat} {w : World} {base : Nat} {ok : Nat → Prop} {v : Value} {xs : List α} (h : (Kd.scalar enc h1).R e w base ok v xs) (i : Nat) (hi : i < xs.length) :
    ∃ g cap, v = .slice (some ⟨g, 0, none⟩) xs.length cap ∧ base ≤ g ∧ ok g ∧ w.cell? ⟨g, i, none⟩ = some (enc xs[i]) ∧ w.frozen? ⟨g, i, none⟩ = false ∧ g < w.heap.size ∧
      ∀ y, (Kd.scalar enc h1).R e (w.setCell ⟨g, i, none⟩ (enc y)) base ok (.slice (some ⟨g, 0, none⟩) xs.length cap) (xs.set i y) := by
  obtain ⟨g, cap, rfl, hb, hl, _⟩ := Kd.R_form h (by omega)
  have hc := Kd.R_celln xs[i] h (i : Int) (by omega) (by omega)
  rw [Int.toNat_natCast] at hc
  refine ⟨g, cap, rfl, hb, h.1 g rfl, ?_, hc.2, hl, fun y => ?_⟩
  · rw [hc.1]
    simp [rdOf, hi]
  · have := (Kd.R_putg h (i : Int) y).1
    rwa [Int.toNat_natCast] at this

/-- The five cells of a variable that holds a form. -/
theorem fm_cells {w : World} {g : Nat} {v0 v1 v2 v3 v4 : Value} {t : TypeId} (h : w.heap[g]? = some (.cells #[v0, v1, v2, v3, v4] t (0, 0))) : w.cell? ⟨g, 0, none⟩ = some v0 ∧ w.cell? ⟨g, 1, none⟩ = some v1 ∧ w.cell? ⟨g, 2, none⟩ = some v2 ∧ w.cell? ⟨g, 3, none⟩ = some v3 ∧ w.cell? ⟨g, 4, none⟩ = some v4 :=
  ⟨(blk_cell h 0).trans rfl, (blk_cell h 1).trans rfl, (blk_cell h 2).trans rfl, (blk_cell h 3).trans rfl, (blk_cell h 4).trans rfl⟩
theorem fm_free {w : World} {g : Nat} {v0 v1 v2 v3 v4 : Value} {t : TypeId} (h : w.heap[g]? = some (.cells #[v0, v1, v2, v3, v4] t (0, 0))) : w.frozen? ⟨g, 0, none⟩ = false ∧ w.frozen? ⟨g, 1, none⟩ = false ∧ w.frozen? ⟨g, 2, none⟩ = false ∧ w.frozen? ⟨g, 3, none⟩ = false ∧ w.frozen? ⟨g, 4, none⟩ = false :=
  ⟨blk_frozen h 0, blk_frozen h 1, blk_frozen h 2, blk_frozen h 3, blk_frozen h 4⟩
theorem below_new (w : World) (o : Obj) : Below w.heap.size w (w.alloc o) := (Below.refl _ _).alloc (Nat.le_refl _) _
theorem blk_new (w : World) (o : Obj) : (w.alloc o).heap[w.heap.size]? = some o := by simpa using heap_alloc_new w o

theorem ck {w w1 : World} (hb : Below w.drew.heap.size w.drew w1) {a : Addr} {v : Value} (h : w.cell? a = some v) : w1.cell? a = some v := (hb.cell (World.block_lt_of_cell? w _ h)).trans h
theorem ck0 {w w1 : World} (hb : Below w.heap.size w w1) {a : Addr} {v : Value} (h : w.cell? a = some v) : w1.cell? a = some v := (hb.cell (World.block_lt_of_cell? w _ h)).trans h
theorem one_new {w w1 : World} {O1 : Obj} (hb : Below (w.alloc O1).heap.size (w.alloc O1) w1) : w1.heap[w.heap.size]? = some O1 ∧ Below w.heap.size w w1 := ⟨blk_below (blk_new w O1) hb, below_step (below_new w O1) hb⟩
theorem two_new {w w1 : World} {O1 O2 : Obj} (hb : Below ((w.alloc O1).alloc O2).heap.size ((w.alloc O1).alloc O2) w1) : w1.heap[w.heap.size]? = some O1 ∧ w1.heap[w.heap.size + 1]? = some O2 ∧ Below w.heap.size w w1 := by
  have h2 := blk_below (blk_new (w.alloc O1) O2) hb
  rw [show (w.alloc O1).heap.size = w.heap.size + 1 from by simp] at h2
  exact ⟨blk_below (blk_below (blk_new w O1) (below_new _ O2)) hb, h2, below_step (below_step (below_new w O1) (below_new _ O2)) hb⟩
theorem three_new {w w1 : World} {O1 O2 O3 : Obj} (hb : Below (((w.alloc O1).alloc O2).alloc O3).heap.size (((w.alloc O1).alloc O2).alloc O3) w1) : w1.heap[w.heap.size]? = some O1 ∧ w1.heap[w.heap.size + 1]? = some O2 ∧ w1.heap[w.heap.size + 1 + 1]? = some O3 ∧ Below w.heap.size w w1 := by
  have h2 := blk_below (blk_below (blk_new (w.alloc O1) O2) (below_new _ O3)) hb
  have h3 := blk_below (blk_new ((w.alloc O1).alloc O2) O3) hb
  rw [show (w.alloc O1).heap.size = w.heap.size + 1 from by simp] at h2
  rw [show ((w.alloc O1).alloc O2).heap.size = w.heap.size + 1 + 1 from by simp] at h3
  exact ⟨blk_below (blk_below (blk_below (blk_new w O1) (below_new _ O2)) (below_new _ O3)) hb, h2, h3, below_step (below_step (below_step (below_new w O1) (below_new _ O2)) (below_new _ O3)) hb⟩

/-- A value under a condition. -/
noncomputable def gIf {α : Type} (p : Prop) (a : α) : Option α := @ite _ p (Classical.propDecidable p) (some a) none
theorem gIf_some {α : Type} {p : Prop} {a r : α} (h : gIf p a = some r) : p ∧ a = r := by
  unfold gIf at h
  by_cases hp : p
  · rw [if_pos hp] at h; exact ⟨hp, Option.some.inj h⟩
  · rw [if_neg hp] at h; cases h
theorem gIf_yes {α : Type} {p : Prop} (hp : p) (a : α) : gIf p a = some a := by unfold gIf; rw [if_pos hp]
/-! What calls leave. -/
def Ret (w : World) (v : Value) (e : Ending) (w' : World) : Prop := e = .returned v ∧ Below w.heap.size w w'
end Go.Proofs.Ytlghpblifbaciaa
